/- BreadthUniform returns true for every task, and the task reads behind the call as before. No conditions. -/
import Derived.Test.YthomfnkaicjmbaaPUniE
import Derived.Test.YthomfnkaicjmbaaRows
namespace Go.Proofs.Ythomfnkaicjmbaa
open Go Go.RowKit
section
open Go Go.RowKit
attribute [local irreducible] ewp owp hwp hwq hws Ev Evg Fn retPost loud loudS Res1
attribute [local irreducible] hwx loudX
noncomputable def m_law48_example  : Option Tsk :=
  bnd (rngN (ρ := Tsk) (fun (k35 : Nat) (s33 : (List Opr)) => bnd (chkI ((k35 : Int) + 1)) fun n56 => bnd (appI 72 s33 [(⟨(⟨#[]⟩ : ByteArray), 1, [(⟨0, (k35 : Int)⟩ : Fct)], [(⟨([] : List Fct), 0, n56⟩ : Eff)]⟩ : Opr)]) fun u69 => some (.next u69)) 3 ([] : List Opr)) fun res31 => fin res31 fun (s87 : (List Opr)) => bnd (appI 72 s87 [(⟨(⟨#[]⟩ : ByteArray), 5, [(⟨0, 0⟩ : Fct)], [(⟨([] : List Fct), 0, 3⟩ : Eff)]⟩ : Opr)]) fun u105 => some (⟨([4] : List Int), ([0] : List Int), [(⟨0, 3⟩ : Fct)], u105⟩ : Tsk)
theorem c_law48_example {w : World} {A : Nat → Prop} (hA : ∀ k, A k → k < w.heap.size)  {r : Tsk} (hm : m_law48_example  = some r) :
    Fn Try.prog 32 [] w fun v w' => Ext w w' ∧ Vb w' (upA A w w') v r := by
 obtain ⟨O, hB, hA0⟩ := enter hA
 refine fn_enter Try.func32 rfl Try.ntmps32 rfl ?_
 unfold m_law48_example at hm
 refine ewp_seq (ewp_region (l_alloc 2 O rfl fun g1 w2 O3 S4 h5 => ?_))
 refine o_z ?_
 refine ewp_seq (ewp_region (l_bslice 3 (by decide) O3 (xs := (([4] : List Int) : List Int)) rfl rfl rfl rfl ⟨(vInt (show inI64 (4) from by decide)), trivial⟩ (by decide) (by decide) rfl fun g6 w7 O8 S9 h10 => ?_))
 refine l_bslice 4 (by decide) O8 (xs := (([0] : List Int) : List Int)) rfl rfl rfl rfl ⟨(vInt (show inI64 (0) from by decide)), trivial⟩ (by decide) (by decide) rfl fun g12 w13 O14 S15 h16 => ?_
 refine o_bd rfl rfl rfl ?_
 refine l_bslice 5 (by decide) O14 (xs := ([(⟨0, 3⟩ : Fct)] : List Fct)) rfl rfl rfl rfl ⟨(Vb.ofAgg (cs := [(.int .i64 0), (.int .i64 3)]) (x := (⟨0, 3⟩ : Fct)) rfl ⟨rfl, (show inI64 (0) from by decide), (show inI64 (3) from by decide)⟩), trivial⟩ (by decide) (by decide) rfl fun g18 w19 O20 S21 h22 => ?_
 refine o_bd rfl rfl rfl ?_
 refine l_alloc 6 O20 rfl fun g24 w25 O26 S27 h28 => ?_
 refine l_store h28 rfl rfl rfl (Nat.le_of_ble_eq_true rfl) (by first | exact allOne rfl | simp [Value.cells, Value.oneCell', errV_one]) fun w29 S30 h28 => ?_
 replace h28 : Lc 6 w29 O26 g24 26 [(.slice (some ⟨g6, 0, none⟩) ([4] : List Int).length 1), (.slice (some ⟨g12, 0, none⟩) ([0] : List Int).length 1), (.slice (some ⟨g18, 0, none⟩) [(⟨0, 3⟩ : Fct)].length 1), (.slice none 0 0)] := h28
 refine o_z ?_
 refine ewp_seq (ewp_seq (ewp_region (o_mv rfl rfl (o_z ?_))))
 obtain ⟨res31, hL32, hm⟩ := bs hm
 refine ewp_join (aft res31 (fun (s33 : (List Opr)) (x34 : (Option Addr × Nat)) => [(0, (.pointer (some ⟨g1, 0, none⟩))), (1, (.pointer (some ⟨g24, 0, none⟩)))]) (fun s33 x34 w' => ∃ O' : Lab, Bs w A w' O' ∧ Lc 2 w' O' g1 26 [(.slice none 0 0), (.slice none 0 0), (.slice none 0 0), (.slice none 0 0)] ∧ Lc 6 w' O' g24 26 [(.slice (some ⟨g6, 0, none⟩) ([4] : List Int).length 1), (.slice (some ⟨g12, 0, none⟩) ([0] : List Int).length 1), (.slice (some ⟨g18, 0, none⟩) [(⟨0, 3⟩ : Fct)].length 1), (.slice x34.1 s33.length x34.2)] ∧ Rw 3 w' O' 3 (.slice (some ⟨g6, 0, none⟩) ([4] : List Int).length 1) ([4] : List Int) ∧ Rw 4 w' O' 3 (.slice (some ⟨g12, 0, none⟩) ([0] : List Int).length 1) ([0] : List Int) ∧ Rw 5 w' O' 57 (.slice (some ⟨g18, 0, none⟩) [(⟨0, 3⟩ : Fct)].length 1) [(⟨0, 3⟩ : Fct)] ∧ Rw 9 w' O' 55 (.slice x34.1 s33.length x34.2) s33)) ?_ ?_
 ·
  refine ewp_block ?_
  replace hB := (((((hB.st S4).st S9).st S15).st S21).st S27).st S30
  replace h5 := ((((h5.st S9).st S15).st S21).st S27).st S30
  replace h10 := (((h10.st S15).st S21).st S27).st S30
  replace h16 := ((h16.st S21).st S27).st S30
  replace h22 := (h22.st S27).st S30
  refine ewp_rngC (σ := (List Opr)) (X := (Option Addr × Nat)) (N := 3) rfl hL32 (by decide) (fun (s33 : (List Opr)) (x34 : (Option Addr × Nat)) => [(0, (.pointer (some ⟨g1, 0, none⟩))), (1, (.pointer (some ⟨g24, 0, none⟩)))]) _ (fun s33 x34 w' => ∃ O' : Lab, Bs w A w' O' ∧ Lc 2 w' O' g1 26 [(.slice none 0 0), (.slice none 0 0), (.slice none 0 0), (.slice none 0 0)] ∧ Lc 6 w' O' g24 26 [(.slice (some ⟨g6, 0, none⟩) ([4] : List Int).length 1), (.slice (some ⟨g12, 0, none⟩) ([0] : List Int).length 1), (.slice (some ⟨g18, 0, none⟩) [(⟨0, 3⟩ : Fct)].length 1), (.slice x34.1 s33.length x34.2)] ∧ Rw 3 w' O' 3 (.slice (some ⟨g6, 0, none⟩) ([4] : List Int).length 1) ([4] : List Int) ∧ Rw 4 w' O' 3 (.slice (some ⟨g12, 0, none⟩) ([0] : List Int).length 1) ([0] : List Int) ∧ Rw 5 w' O' 57 (.slice (some ⟨g18, 0, none⟩) [(⟨0, 3⟩ : Fct)].length 1) [(⟨0, 3⟩ : Fct)] ∧ Rw 9 w' O' 55 (.slice x34.1 s33.length x34.2) s33) _ (none, 0) ⟨O26, hB, h5, h28, h10, h16, h22, (Rw.nil 9 (by decide))⟩ ⟨rfl, rfl, rfl, trivial⟩ (fun _ _ => ⟨rfl, rfl⟩) (fun _ _ => ⟨rfl, rfl, trivial⟩) (fun _ _ _ ⟨O', hB, h5, h28, h10, h16, h22, h48⟩ => ⟨O', hB, h5, h28, h10, h16, h22, h48⟩) ⟨rfl, rfl, rfl⟩ ?_
  rintro k35 s33 x34 w37 cc39 hx40 ⟨O38, hB, h5, h28, h10, h16, h22, h48⟩ hf41 hret42 hbrk43
  have rk35 : inI64 (k35 : Int) := rngKN hx40 (by decide)
  refine ewp_seq (ewp_region (o_mv rfl rfl (o_as rfl rfl (o_z ?_))))
  refine ewp_region (o_fa rfl rfl (o_ld (hc := Blk.cell (i := 3) (h28.1) rfl) rfl rfl ?_))
  refine o_mv rfl rfl (o_bd rfl rfl rfl ?_)
  refine l_bslice 7 (by decide) O38 (xs := ([(⟨0, (k35 : Int)⟩ : Fct)] : List Fct)) rfl rfl rfl rfl ⟨(Vb.ofAgg (cs := [(.int .i64 0), (.int .i64 (k35 : Int))]) (x := (⟨0, (k35 : Int)⟩ : Fct)) rfl ⟨rfl, (show inI64 (0) from by decide), rk35⟩), trivial⟩ (by decide) (by decide) rfl fun g50 w51 O52 S53 h54 => ?_
  refine o_mv rfl rfl ?_
  obtain ⟨n56, e57, hf41⟩ := bs hf41
  have r58 := (chkI_rng e57)
  refine o_adE (he := e57) rfl rfl rfl ?_
  refine o_bd rfl rfl rfl ?_
  refine l_bslice 8 (by decide) O52 (xs := ([(⟨([] : List Fct), 0, n56⟩ : Eff)] : List Eff)) rfl rfl rfl rfl ⟨(Vb.ofAgg (cs := [(.slice none 0 0), (.int .i64 0), (.int .i64 n56)]) (x := (⟨([] : List Fct), 0, n56⟩ : Eff)) rfl ⟨_, rfl, (Vb.nil _ _), (show inI64 (0) from by decide), r58⟩), trivial⟩ (by decide) (by decide) rfl fun g59 w60 O61 S62 h63 => ?_
  refine o_bd rfl rfl rfl ?_
  replace h54 := h54.st S62
  obtain ⟨O65, S66, h54⟩ := h54.freeze
  replace h63 := h63.st S66
  obtain ⟨O67, S68, h63⟩ := h63.freeze
  obtain ⟨u69, e70, hf41⟩ := bs hf41
  obtain ⟨e70, e71, e72⟩ := appI_some e70
  replace h48 := (((h48.st S53).st S62).st S66).st S68
  replace h54 := h54.st S68
  refine l_append1 rfl (a := (⟨(⟨#[]⟩ : ByteArray), 1, [(⟨0, (k35 : Int)⟩ : Fct)], [(⟨([] : List Fct), 0, n56⟩ : Eff)]⟩ : Opr)) h48 (Vb.ofAgg (cs := [(.string (⟨#[]⟩ : ByteArray)), (.int .i64 1), (.slice (some ⟨g50, 0, none⟩) [(⟨0, (k35 : Int)⟩ : Fct)].length 1), (.slice (some ⟨g59, 0, none⟩) [(⟨([] : List Fct), 0, n56⟩ : Eff)].length 1)]) (x := (⟨(⟨#[]⟩ : ByteArray), 1, [(⟨0, (k35 : Int)⟩ : Fct)], [(⟨([] : List Fct), 0, n56⟩ : Eff)]⟩ : Opr)) rfl ⟨_, _, rfl, h54, h63, (show inI64 (1) from by decide), (show (⟨#[]⟩ : ByteArray).size ≤ 9223372036854775807 from by decide)⟩) (fun _ => rfl) rfl (by decide) (by decide) e71 e72 ⟨rfl, rfl⟩ fun g73 A74 c75 w76 O77 S78 h79 => ?_
  rw [← e70] at h79 ⊢
  refine o_fa rfl rfl ?_
  replace h28 := ((((h28.st S53).st S62).st S66).st S68).st S78
  refine l_store h28 rfl rfl rfl (Nat.le_of_ble_eq_true rfl) (by first | exact allOne rfl | simp [Value.cells, Value.oneCell', errV_one]) fun w81 S82 h28 => ?_
  replace h28 : Lc 6 w81 O77 g24 26 [(.slice (some ⟨g6, 0, none⟩) ([4] : List Int).length 1), (.slice (some ⟨g12, 0, none⟩) ([0] : List Int).length 1), (.slice (some ⟨g18, 0, none⟩) [(⟨0, 3⟩ : Fct)].length 1), (.slice A74 u69.length c75)] := h28
  refine o_z ?_
  obtain rfl := sm hf41
  refine (?_ : Exists _)
  replace hB := (((((hB.st S53).st S62).st S66).st S68).st S78).st S82
  replace h5 := (((((h5.st S53).st S62).st S66).st S68).st S78).st S82
  replace h10 := (((((h10.st S53).st S62).st S66).st S68).st S78).st S82
  replace h16 := (((((h16.st S53).st S62).st S66).st S68).st S78).st S82
  replace h22 := (((((h22.st S53).st S62).st S66).st S68).st S78).st S82
  replace h79 := h79.st S82
  exact ⟨_, (A74, c75), rfl, ⟨rfl, rfl, rfl, trivial⟩, _, hB, h5, h28, h10, h16, h22, h79⟩
 replace hB := (((((hB.st S4).st S9).st S15).st S21).st S27).st S30
 replace h5 := ((((h5.st S9).st S15).st S21).st S27).st S30
 replace h10 := (((h10.st S15).st S21).st S27).st S30
 replace h16 := ((h16.st S21).st S27).st S30
 replace h22 := (h22.st S27).st S30
 rintro l83 w84 ⟨s87, x88, rfl, hs86, O85, hB, h5, h28, h10, h16, h22, h48⟩
 replace hm := fin_done hm
 refine ewp_sub _ hs86 ?_
 refine ewp_seq (ewp_region (o_fa rfl rfl (o_ld (hc := Blk.cell (i := 3) (h28.1) rfl) rfl rfl ?_)))
 refine o_bd rfl rfl rfl ?_
 refine l_bslice 10 (by decide) O85 (xs := ([(⟨0, 0⟩ : Fct)] : List Fct)) rfl rfl rfl rfl ⟨(Vb.ofAgg (cs := [(.int .i64 0), (.int .i64 0)]) (x := (⟨0, 0⟩ : Fct)) rfl ⟨rfl, (show inI64 (0) from by decide), (show inI64 (0) from by decide)⟩), trivial⟩ (by decide) (by decide) rfl fun g89 w90 O91 S92 h93 => ?_
 refine o_bd rfl rfl rfl ?_
 refine l_bslice 11 (by decide) O91 (xs := ([(⟨([] : List Fct), 0, 3⟩ : Eff)] : List Eff)) rfl rfl rfl rfl ⟨(Vb.ofAgg (cs := [(.slice none 0 0), (.int .i64 0), (.int .i64 3)]) (x := (⟨([] : List Fct), 0, 3⟩ : Eff)) rfl ⟨_, rfl, (Vb.nil _ _), (show inI64 (0) from by decide), (show inI64 (3) from by decide)⟩), trivial⟩ (by decide) (by decide) rfl fun g95 w96 O97 S98 h99 => ?_
 refine o_bd rfl rfl rfl ?_
 replace h93 := h93.st S98
 obtain ⟨O101, S102, h93⟩ := h93.freeze
 replace h99 := h99.st S102
 obtain ⟨O103, S104, h99⟩ := h99.freeze
 obtain ⟨u105, e106, hm⟩ := bs hm
 obtain ⟨e106, e107, e108⟩ := appI_some e106
 replace h48 := (((h48.st S92).st S98).st S102).st S104
 replace h93 := h93.st S104
 refine l_append1 rfl (a := (⟨(⟨#[]⟩ : ByteArray), 5, [(⟨0, 0⟩ : Fct)], [(⟨([] : List Fct), 0, 3⟩ : Eff)]⟩ : Opr)) h48 (Vb.ofAgg (cs := [(.string (⟨#[]⟩ : ByteArray)), (.int .i64 5), (.slice (some ⟨g89, 0, none⟩) [(⟨0, 0⟩ : Fct)].length 1), (.slice (some ⟨g95, 0, none⟩) [(⟨([] : List Fct), 0, 3⟩ : Eff)].length 1)]) (x := (⟨(⟨#[]⟩ : ByteArray), 5, [(⟨0, 0⟩ : Fct)], [(⟨([] : List Fct), 0, 3⟩ : Eff)]⟩ : Opr)) rfl ⟨_, _, rfl, h93, h99, (show inI64 (5) from by decide), (show (⟨#[]⟩ : ByteArray).size ≤ 9223372036854775807 from by decide)⟩) (fun _ => rfl) rfl (by decide) (by decide) e107 e108 ⟨rfl, rfl⟩ fun g109 A110 c111 w112 O113 S114 h115 => ?_
 rw [← e106] at h115 ⊢
 refine o_fa rfl rfl ?_
 replace h28 := ((((h28.st S92).st S98).st S102).st S104).st S114
 refine l_store h28 rfl rfl rfl (Nat.le_of_ble_eq_true rfl) (by first | exact allOne rfl | simp [Value.cells, Value.oneCell', errV_one]) fun w117 S118 h28 => ?_
 replace h28 : Lc 6 w117 O113 g24 26 [(.slice (some ⟨g6, 0, none⟩) ([4] : List Int).length 1), (.slice (some ⟨g12, 0, none⟩) ([0] : List Int).length 1), (.slice (some ⟨g18, 0, none⟩) [(⟨0, 3⟩ : Fct)].length 1), (.slice A110 u105.length c111)] := h28
 refine o_z ?_
 refine ewp_seq (ewp_region (o_la (hl := rfl) (hc := (h28.1).cellsAt) rfl rfl ?_))
 replace h5 := (((((h5.st S92).st S98).st S102).st S104).st S114).st S118
 refine l_store h5 rfl rfl rfl (Nat.le_of_ble_eq_true rfl) (by first | exact allOne rfl | simp [Value.cells, Value.oneCell', errV_one]) fun w119 S120 h5 => ?_
 replace h5 : Lc 2 w119 O113 g1 26 [(.slice (some ⟨g6, 0, none⟩) ([4] : List Int).length 1), (.slice (some ⟨g12, 0, none⟩) ([0] : List Int).length 1), (.slice (some ⟨g18, 0, none⟩) [(⟨0, 3⟩ : Fct)].length 1), (.slice A110 u105.length c111)] := h5
 refine o_z ?_
 refine ewp_ret ?_
 replace h10 := ((((((h10.st S92).st S98).st S102).st S104).st S114).st S118).st S120
 obtain ⟨O121, S122, h10⟩ := h10.freeze
 replace h16 := (((((((h16.st S92).st S98).st S102).st S104).st S114).st S118).st S120).st S122
 obtain ⟨O123, S124, h16⟩ := h16.freeze
 replace h22 := ((((((((h22.st S92).st S98).st S102).st S104).st S114).st S118).st S120).st S122).st S124
 obtain ⟨O125, S126, h22⟩ := h22.freeze
 replace h115 := ((((h115.st S118).st S120).st S122).st S124).st S126
 obtain ⟨O127, S128, h115⟩ := h115.freeze
 obtain rfl := sm hm
 replace hB := ((((((((((hB.st S92).st S98).st S102).st S104).st S114).st S118).st S120).st S122).st S124).st S126).st S128
 replace h5 := (((h5.st S122).st S124).st S126).st S128
 replace h10 := ((h10.st S124).st S126).st S128
 replace h16 := (h16.st S126).st S128
 replace h22 := h22.st S128
 exact ret1v rfl (res_cell (cs := [(.slice (some ⟨g6, 0, none⟩) ([4] : List Int).length 1), (.slice (some ⟨g12, 0, none⟩) ([0] : List Int).length 1), (.slice (some ⟨g18, 0, none⟩) [(⟨0, 3⟩ : Fct)].length 1), (.slice A110 u105.length c111)]) rfl rfl h5.1.cellsAt) ⟨hB.ext, (Vb.mono (F := Fr 0 w119 O127) (Vb.ofAgg (cs := [(.slice (some ⟨g6, 0, none⟩) ([4] : List Int).length 1), (.slice (some ⟨g12, 0, none⟩) ([0] : List Int).length 1), (.slice (some ⟨g18, 0, none⟩) [(⟨0, 3⟩ : Fct)].length 1), (.slice A110 u105.length c111)]) (x := (⟨([4] : List Int), ([0] : List Int), [(⟨0, 3⟩ : Fct)], u105⟩ : Tsk)) rfl ⟨_, _, _, _, rfl, h10, h16, h22, h115⟩) hB.out)⟩
noncomputable def m_law48_awake  : Option Bool :=
  bnd (m_law48_example) fun q1 => bnd (m_breadth_Search q1 100) fun q25 => bnd (m_law48_example) fun q52 => bnd (m_breadth_Uniform q52 100) fun q76 => bnd (m_law48_example) fun q103 => bnd (m_breadth_Reachable q103 100) fun q127 => bnd (if q25.2.n = 0 then (if q76.2.n = 0 then (if q127.2.n = 0 then (bnd (m_base_Ints q25.1.plan ([3] : List Int)) fun q153 => if q153 = true then if q25.1.cost = 5 then (if q25.1.expanded = 2 then (bnd (m_law48_example) fun q162 => bnd (m_base_Result q162 q76.1 3) fun q186 => if q186 = true then if q127.1 = 4 then (some true) else (some false) else some false) else (some false)) else (some false) else some false) else (some false)) else (some false)) else (some false) : Option Bool) fun y140 => some y140
theorem c_law48_awake {w : World} {A : Nat → Prop} (hA : ∀ k, A k → k < w.heap.size)  {r : Bool} (hm : m_law48_awake  = some r) :
    Fn Try.prog 12 [] w fun v w' => Ext w w' ∧ Vb w' (upA A w w') v r := by
 obtain ⟨O, hB, hA0⟩ := enter hA
 refine fn_enter Try.func12 rfl Try.ntmps12 rfl ?_
 unfold m_law48_awake at hm
 refine ewp_seq (ewp_region (o_as rfl rfl (o_z ?_)))
 refine ewp_seq (ewp_region ?_)
 obtain ⟨q1, e2, hm⟩ := bs hm
 refine l_call (O := O) (R := fun w' F v => Vb w' F v q1) (c_law48_example Fr.lt  e2) rfl rfl fun v7 w3 O4 S5 h6 => ?_
 obtain ⟨cs8, rfl, v9, v10, v11, v12, rfl, h13, h16, h19, h22⟩ := h6
 obtain ⟨A14, c15, rfl⟩ := h13.form
 obtain ⟨A17, c18, rfl⟩ := h16.form
 obtain ⟨A20, c21, rfl⟩ := h19.form
 obtain ⟨A23, c24, rfl⟩ := h22.form
 obtain ⟨q25, e26, hm⟩ := bs hm
 refine l_call (O := O4) (R := fun w' F v => T2 w' F v q25) (c_breadth_Search Fr.lt (Vb.ofAgg (cs := [(.slice A14 q1.vars.length c15), (.slice A17 q1.init.length c18), (.slice A20 q1.goal.length c21), (.slice A23 q1.ops.length c24)]) (x := q1) rfl ⟨_, _, _, _, rfl, h13, h16, h19, h22⟩) (show inI64 (100) from by decide) e26) rfl rfl fun v31 w27 O28 S29 h30 => ?_
 obtain ⟨v32, v33, rfl, h34, h35⟩ := h30
 obtain ⟨cs36, rfl, v37, rfl, h38, r41, r42, r43⟩ := h34
 obtain ⟨A39, c40, rfl⟩ := h38.form
 obtain ⟨rfl, r44⟩ := h35.err
 refine o_mv rfl rfl (o_ex rfl rfl rfl (o_ex rfl rfl rfl (l_alloc 2 O28 rfl fun g45 w46 O47 S48 h49 => ?_)))
 refine l_store h49 rfl rfl rfl (Nat.le_of_ble_eq_true rfl) (by first | exact allOne rfl | simp [Value.cells, Value.oneCell', errV_one]) fun w50 S51 h49 => ?_
 replace h49 : Lc 2 w50 O47 g45 30 [(.int .i64 q25.1.verdict), (.slice A39 q25.1.plan.length c40), (.int .i64 q25.1.cost), (.int .i64 q25.1.expanded)] := h49
 refine o_as rfl rfl (o_z ?_)
 refine ewp_seq (ewp_region ?_)
 obtain ⟨q52, e53, hm⟩ := bs hm
 refine l_call (O := O47) (R := fun w' F v => Vb w' F v q52) (c_law48_example Fr.lt  e53) rfl rfl fun v58 w54 O55 S56 h57 => ?_
 obtain ⟨cs59, rfl, v60, v61, v62, v63, rfl, h64, h67, h70, h73⟩ := h57
 obtain ⟨A65, c66, rfl⟩ := h64.form
 obtain ⟨A68, c69, rfl⟩ := h67.form
 obtain ⟨A71, c72, rfl⟩ := h70.form
 obtain ⟨A74, c75, rfl⟩ := h73.form
 obtain ⟨q76, e77, hm⟩ := bs hm
 refine l_call (O := O55) (R := fun w' F v => T2 w' F v q76) (c_breadth_Uniform Fr.lt (Vb.ofAgg (cs := [(.slice A65 q52.vars.length c66), (.slice A68 q52.init.length c69), (.slice A71 q52.goal.length c72), (.slice A74 q52.ops.length c75)]) (x := q52) rfl ⟨_, _, _, _, rfl, h64, h67, h70, h73⟩) (show inI64 (100) from by decide) e77) rfl rfl fun v82 w78 O79 S80 h81 => ?_
 obtain ⟨v83, v84, rfl, h85, h86⟩ := h81
 obtain ⟨cs87, rfl, v88, rfl, h89, r92, r93, r94⟩ := h85
 obtain ⟨A90, c91, rfl⟩ := h89.form
 obtain ⟨rfl, r95⟩ := h86.err
 refine o_mv rfl rfl (o_ex rfl rfl rfl (o_ex rfl rfl rfl (l_alloc 3 O79 rfl fun g96 w97 O98 S99 h100 => ?_)))
 refine l_store h100 rfl rfl rfl (Nat.le_of_ble_eq_true rfl) (by first | exact allOne rfl | simp [Value.cells, Value.oneCell', errV_one]) fun w101 S102 h100 => ?_
 replace h100 : Lc 3 w101 O98 g96 30 [(.int .i64 q76.1.verdict), (.slice A90 q76.1.plan.length c91), (.int .i64 q76.1.cost), (.int .i64 q76.1.expanded)] := h100
 refine o_as rfl rfl (o_z ?_)
 refine ewp_seq (ewp_region ?_)
 obtain ⟨q103, e104, hm⟩ := bs hm
 refine l_call (O := O98) (R := fun w' F v => Vb w' F v q103) (c_law48_example Fr.lt  e104) rfl rfl fun v109 w105 O106 S107 h108 => ?_
 obtain ⟨cs110, rfl, v111, v112, v113, v114, rfl, h115, h118, h121, h124⟩ := h108
 obtain ⟨A116, c117, rfl⟩ := h115.form
 obtain ⟨A119, c120, rfl⟩ := h118.form
 obtain ⟨A122, c123, rfl⟩ := h121.form
 obtain ⟨A125, c126, rfl⟩ := h124.form
 obtain ⟨q127, e128, hm⟩ := bs hm
 refine l_callA (O := O106) (A := All w105) (R := fun w' F v => T2 w' F v q127) (c_breadth_Reachable (fun _ h => h) (Vb.mono (F := Fr 0 w105 O106) (Vb.ofAgg (cs := [(.slice A116 q103.vars.length c117), (.slice A119 q103.init.length c120), (.slice A122 q103.goal.length c123), (.slice A125 q103.ops.length c126)]) (x := q103) rfl ⟨_, _, _, _, rfl, h115, h118, h121, h124⟩) Fr.lt) (show inI64 (100) from by decide) e128) rfl rfl fun v133 w129 O130 S131 h132 => ?_
 obtain ⟨v134, v135, rfl, h136, h137⟩ := h132
 obtain ⟨rfl, r138⟩ := h136.int
 obtain ⟨rfl, r139⟩ := h137.err
 refine o_mv rfl rfl (o_ex rfl rfl rfl (o_ex rfl rfl rfl (o_as rfl rfl (o_as rfl rfl (o_z ?_)))))
 refine ewp_seq ?_
 obtain ⟨y140, hy141, hm⟩ := bs hm
 refine ewp_join (fun l' w' => ∃ (x143 : Unit) (O' : Lab), subs l' [(0, (.bool y140))] ∧ Bs w A w' O') ?_ ?_
 ·
  refine ewp_drawX [(13, []), (14, []), (27, []), (29, [])] O130 ?_
  refine x_pre (fuel := 23) [] [(0, true), (1, true), (2, true), (3, true), (4, true), (5, true), (6, true), (7, true), (8, true), (9, true), (10, true), (11, true), (12, true)] (by kernel_rfl) rfl ?_
  refine h_mv rfl rfl rfl (hwp_o rfl (hwq_split (fun _ _ => ev_errE rfl) rfl (fun c144 => ?_) (fun c144 => ?_)))
  ·
   replace hy141 := ip hy141 c144
   refine h_mv rfl rfl rfl (hwp_o rfl (hwq_yes rfl rfl (g_mv rfl rfl (hwp_o rfl (hwq_yes rfl rfl (hwq_split (fun _ _ => ev_errE rfl) rfl (fun c145 => ?_) (fun c145 => ?_)))))))
   ·
    replace hy141 := ip hy141 c145
    refine h_pt rfl rfl rfl rfl (h_mv rfl rfl rfl (hwp_o rfl (hwq_yes rfl rfl (g_mv rfl rfl (hwp_o rfl (hwq_yes rfl rfl (hwq_split (fun _ _ => ev_errE rfl) rfl (fun c146 => ?_) (fun c146 => ?_))))))))
    ·
     replace hy141 := ip hy141 c146
     refine h_pt rfl rfl rfl rfl (h_mv rfl rfl rfl (hwp_o rfl (hwq_yes rfl rfl (g_fa rfl rfl (hwp_o rfl (hwq_yes rfl rfl ?_))))))
     replace h49 := (((((h49.st S56).st S80).st S99).st S102).st S107).st S131
     refine g_ldC (hc := fun w' ⟨O', hq⟩ => Blk.cell (i := 1) ((h49.st hq (by decide)).1) rfl) rfl rfl ?_
     refine hwp_nilT ?_
     refine x_one (i := 13) (by kernel_rfl) rfl ?_
     refine owp_yes rfl rfl (l_bslice 4 (by decide) O130 (xs := (([3] : List Int) : List Int)) rfl rfl rfl rfl ⟨(vInt (show inI64 (3) from by decide)), trivial⟩ (by decide) (by decide) rfl fun g147 w148 O149 S150 h151 => ?_)
     have hZ := S150.lst [] (fun _ h => h.elim)
     refine x_go [(14, []), (27, []), (29, [])] hZ (by kernel_rfl) ?_
     refine x_one (i := 14) (by kernel_rfl) rfl ?_
     refine owp_yes rfl rfl ?_
     obtain ⟨q153, e154, hy141⟩ := bs hy141
     replace h38 := ((((((((h38.st S48).st S51).st S56).st S80).st S99).st S102).st S107).st S131).st S150
     refine l_callA (O := O149) (A := All w148) (R := fun w' F v => Vb w' F v q153) (c_base_Ints (fun _ h => h) (Vb.mono (F := Fr 0 w148 O149) h38 Fr.lt) (h151).all e154) rfl rfl fun v159 w155 O156 S157 h158 => ?_
     obtain rfl := h158.bool
     have hZ := S157.lst [] (fun _ h => h.elim)
     cases q153
     case false =>
      replace hy141 := iF hy141
      refine x_go [(27, []), (29, [])] hZ (by kernel_rfl) ?_
      refine x_pre (fuel := 8) [] [(15, true), (16, true), (17, true), (18, true), (19, true), (20, true), (21, true), (22, true), (23, true), (24, true), (25, true), (26, true), (28, true)] (by kernel_rfl) rfl ?_
      refine h_pt rfl rfl rfl rfl (h_mv rfl rfl rfl (h_no rfl rfl rfl rfl rfl (h_no rfl rfl rfl rfl rfl (h_no rfl rfl rfl rfl rfl (h_pf rfl rfl rfl rfl (h_mv rfl rfl rfl (h_no rfl rfl rfl rfl rfl (h_no rfl rfl rfl rfl rfl (h_no rfl rfl rfl rfl rfl (h_pf rfl rfl rfl rfl (h_mv rfl rfl rfl (h_no rfl rfl rfl rfl rfl (hwp_nilT ?_)))))))))))))
      refine x_one (i := 27) (by kernel_rfl) rfl ?_
      refine owp_no rfl rfl rfl rfl (x_go [(29, [])] ((St.refl nT _ _).lst [] (fun _ h => h.elim)) (by kernel_rfl) ?_)
      refine x_one (i := 29) (by kernel_rfl) rfl ?_
      refine owp_no rfl rfl rfl rfl (x_go [] ((St.refl nT _ _).lst [] (fun _ h => h.elim)) (by kernel_rfl) ?_)
      refine x_pre (fuel := 0) [] [(30, true), (31, true), (32, true), (33, true), (34, true), (35, true)] (by kernel_rfl) rfl ?_
      refine h_pf rfl rfl rfl rfl (h_mv rfl rfl rfl (h_no rfl rfl rfl rfl rfl (h_no rfl rfl rfl rfl rfl (h_pf rfl rfl rfl rfl (h_as rfl rfl rfl (hwp_nilT ?_))))))
      refine x_nil (by kernel_rfl) ?_
      obtain rfl := sm hy141
      replace hB := (((((((((((hB.st S5).st S29).st S48).st S51).st S56).st S80).st S99).st S102).st S107).st S131).st S150).st S157
      exact ⟨(), _, ⟨rfl, trivial⟩, hB⟩
     replace hy141 := iT hy141
     refine x_go [(27, []), (29, [])] hZ (by kernel_rfl) ?_
     refine x_pre (fuel := 8) [] [(15, true), (16, true), (17, true), (18, true), (19, true), (20, true), (21, true), (22, true), (23, true), (24, true), (25, true), (26, true), (28, true)] (by kernel_rfl) rfl ?_
     refine h_pt rfl rfl rfl rfl (h_mv rfl rfl rfl (hwp_o rfl (hwq_yes rfl rfl (g_fa rfl rfl (hwp_o rfl (hwq_yes rfl rfl ?_))))))
     replace h49 := (h49.st S150).st S157
     refine g_ldC (hc := fun w' ⟨O', hq⟩ => Blk.cell (i := 2) ((h49.st hq (by decide)).1) rfl) rfl rfl ?_
     refine hwp_o rfl (hwq_yes rfl rfl (hwq_split (fun _ _ => ev_eql rfl rfl) rfl (fun c160 => ?_) (fun c160 => ?_)))
     ·
      replace hy141 := ip hy141 c160
      refine h_pt rfl rfl rfl rfl (h_mv rfl rfl rfl (hwp_o rfl (hwq_yes rfl rfl (g_fa rfl rfl (hwp_o rfl (hwq_yes rfl rfl (g_ldC (hc := fun w' ⟨O', hq⟩ => Blk.cell (i := 3) ((h49.st hq (by decide)).1) rfl) rfl rfl ?_)))))))
      refine hwp_o rfl (hwq_yes rfl rfl (hwq_split (fun _ _ => ev_eql rfl rfl) rfl (fun c161 => ?_) (fun c161 => ?_)))
      ·
       replace hy141 := ip hy141 c161
       refine h_pt rfl rfl rfl rfl (h_mv rfl rfl rfl (hwp_o rfl (hwq_yes rfl rfl ?_)))
       replace h100 := (((h100.st S107).st S131).st S150).st S157
       refine g_laB (hl := rfl) (hb := fun w' ⟨O', hq⟩ => ((h100.st hq (by decide)).1).cellsAt) rfl rfl ?_
       refine hwp_nilT ?_
       refine x_one (i := 27) (by kernel_rfl) rfl ?_
       refine owp_yes rfl rfl ?_
       obtain ⟨q162, e163, hy141⟩ := bs hy141
       refine l_call (O := O156) (R := fun w' F v => Vb w' F v q162) (c_law48_example Fr.lt  e163) rfl rfl fun v168 w164 O165 S166 h167 => ?_
       obtain ⟨cs169, rfl, v170, v171, v172, v173, rfl, h174, h177, h180, h183⟩ := h167
       obtain ⟨A175, c176, rfl⟩ := h174.form
       obtain ⟨A178, c179, rfl⟩ := h177.form
       obtain ⟨A181, c182, rfl⟩ := h180.form
       obtain ⟨A184, c185, rfl⟩ := h183.form
       have hZ := S166.lst [] (fun _ h => h.elim)
       refine x_go [(29, [])] hZ (by kernel_rfl) ?_
       refine x_one (i := 29) (by kernel_rfl) rfl ?_
       refine owp_yes rfl rfl ?_
       obtain ⟨q186, e187, hy141⟩ := bs hy141
       replace h89 := ((((((h89.st S99).st S102).st S107).st S131).st S150).st S157).st S166
       refine l_callA (O := O165) (A := All w164) (R := fun w' F v => Vb w' F v q186) (c_base_Result (fun _ h => h) (Vb.mono (F := Fr 0 w164 O165) (Vb.ofAgg (cs := [(.slice A175 q162.vars.length c176), (.slice A178 q162.init.length c179), (.slice A181 q162.goal.length c182), (.slice A184 q162.ops.length c185)]) (x := q162) rfl ⟨_, _, _, _, rfl, h174, h177, h180, h183⟩) Fr.lt) (Vb.mono (F := Fr 0 w164 O165) (Vb.ofAgg (cs := [(.int .i64 q76.1.verdict), (.slice A90 q76.1.plan.length c91), (.int .i64 q76.1.cost), (.int .i64 q76.1.expanded)]) (x := q76.1) rfl ⟨_, rfl, h89, r92, r93, r94⟩) Fr.lt) (show inI64 (3) from by decide) e187) rfl rfl fun v192 w188 O189 S190 h191 => ?_
       obtain rfl := h191.bool
       have hZ := S190.lst [] (fun _ h => h.elim)
       cases q186
       case false =>
        replace hy141 := iF hy141
        refine x_go [] hZ (by kernel_rfl) ?_
        refine x_pre (fuel := 0) [] [(30, true), (31, true), (32, true), (33, true), (34, true), (35, true)] (by kernel_rfl) rfl ?_
        refine h_pt rfl rfl rfl rfl (h_mv rfl rfl rfl (h_no rfl rfl rfl rfl rfl (h_no rfl rfl rfl rfl rfl (h_pf rfl rfl rfl rfl (h_as rfl rfl rfl (hwp_nilT ?_))))))
        refine x_nil (by kernel_rfl) ?_
        obtain rfl := sm hy141
        replace hB := (((((((((((((hB.st S5).st S29).st S48).st S51).st S56).st S80).st S99).st S102).st S107).st S131).st S150).st S157).st S166).st S190
        exact ⟨(), _, ⟨rfl, trivial⟩, hB⟩
       replace hy141 := iT hy141
       refine x_go [] hZ (by kernel_rfl) ?_
       refine x_pre (fuel := 0) [] [(30, true), (31, true), (32, true), (33, true), (34, true), (35, true)] (by kernel_rfl) rfl ?_
       refine h_pt rfl rfl rfl rfl (h_mv rfl rfl rfl (hwp_o rfl (hwq_yes rfl rfl (g_mv rfl rfl (hwp_o rfl (hwq_yes rfl rfl (hwq_split (fun _ _ => ev_eql rfl rfl) rfl (fun c193 => ?_) (fun c193 => ?_))))))))
       ·
        replace hy141 := ip hy141 c193
        refine h_pt rfl rfl rfl rfl (h_as rfl rfl rfl (hwp_nilT ?_))
        refine x_nil (by kernel_rfl) ?_
        obtain rfl := sm hy141
        replace hB := (((((((((((((hB.st S5).st S29).st S48).st S51).st S56).st S80).st S99).st S102).st S107).st S131).st S150).st S157).st S166).st S190
        exact ⟨(), _, ⟨rfl, trivial⟩, hB⟩
       ·
        replace hy141 := im hy141 c193
        refine h_pt rfl rfl rfl rfl (h_as rfl rfl rfl (hwp_nilT ?_))
        refine x_nil (by kernel_rfl) ?_
        obtain rfl := sm hy141
        replace hB := (((((((((((((hB.st S5).st S29).st S48).st S51).st S56).st S80).st S99).st S102).st S107).st S131).st S150).st S157).st S166).st S190
        exact ⟨(), _, ⟨rfl, trivial⟩, hB⟩
      ·
       replace hy141 := im hy141 c161
       refine h_pt rfl rfl rfl rfl (h_mv rfl rfl rfl (h_no rfl rfl rfl rfl rfl (hwp_nilT ?_)))
       refine x_one (i := 27) (by kernel_rfl) rfl ?_
       refine owp_no rfl rfl rfl rfl (x_go [(29, [])] ((St.refl nT _ _).lst [] (fun _ h => h.elim)) (by kernel_rfl) ?_)
       refine x_one (i := 29) (by kernel_rfl) rfl ?_
       refine owp_no rfl rfl rfl rfl (x_go [] ((St.refl nT _ _).lst [] (fun _ h => h.elim)) (by kernel_rfl) ?_)
       refine x_pre (fuel := 0) [] [(30, true), (31, true), (32, true), (33, true), (34, true), (35, true)] (by kernel_rfl) rfl ?_
       refine h_pf rfl rfl rfl rfl (h_mv rfl rfl rfl (h_no rfl rfl rfl rfl rfl (h_no rfl rfl rfl rfl rfl (h_pf rfl rfl rfl rfl (h_as rfl rfl rfl (hwp_nilT ?_))))))
       refine x_nil (by kernel_rfl) ?_
       obtain rfl := sm hy141
       replace hB := (((((((((((hB.st S5).st S29).st S48).st S51).st S56).st S80).st S99).st S102).st S107).st S131).st S150).st S157
       exact ⟨(), _, ⟨rfl, trivial⟩, hB⟩
     ·
      replace hy141 := im hy141 c160
      refine h_pt rfl rfl rfl rfl (h_mv rfl rfl rfl (h_no rfl rfl rfl rfl rfl (h_no rfl rfl rfl rfl rfl (h_no rfl rfl rfl rfl rfl (h_pf rfl rfl rfl rfl (h_mv rfl rfl rfl (h_no rfl rfl rfl rfl rfl (hwp_nilT ?_))))))))
      refine x_one (i := 27) (by kernel_rfl) rfl ?_
      refine owp_no rfl rfl rfl rfl (x_go [(29, [])] ((St.refl nT _ _).lst [] (fun _ h => h.elim)) (by kernel_rfl) ?_)
      refine x_one (i := 29) (by kernel_rfl) rfl ?_
      refine owp_no rfl rfl rfl rfl (x_go [] ((St.refl nT _ _).lst [] (fun _ h => h.elim)) (by kernel_rfl) ?_)
      refine x_pre (fuel := 0) [] [(30, true), (31, true), (32, true), (33, true), (34, true), (35, true)] (by kernel_rfl) rfl ?_
      refine h_pf rfl rfl rfl rfl (h_mv rfl rfl rfl (h_no rfl rfl rfl rfl rfl (h_no rfl rfl rfl rfl rfl (h_pf rfl rfl rfl rfl (h_as rfl rfl rfl (hwp_nilT ?_))))))
      refine x_nil (by kernel_rfl) ?_
      obtain rfl := sm hy141
      replace hB := (((((((((((hB.st S5).st S29).st S48).st S51).st S56).st S80).st S99).st S102).st S107).st S131).st S150).st S157
      exact ⟨(), _, ⟨rfl, trivial⟩, hB⟩
    ·
     replace hy141 := im hy141 c146
     refine h_pt rfl rfl rfl rfl (h_mv rfl rfl rfl (h_no rfl rfl rfl rfl rfl (h_no rfl rfl rfl rfl rfl (hwp_nilT ?_))))
     refine x_one (i := 13) (by kernel_rfl) rfl ?_
     refine owp_no rfl rfl rfl rfl (x_go [(14, []), (27, []), (29, [])] ((St.refl nT _ _).lst [] (fun _ h => h.elim)) (by kernel_rfl) ?_)
     refine x_one (i := 14) (by kernel_rfl) rfl ?_
     refine owp_no rfl rfl rfl rfl (x_go [(27, []), (29, [])] ((St.refl nT _ _).lst [] (fun _ h => h.elim)) (by kernel_rfl) ?_)
     refine x_pre (fuel := 8) [] [(15, true), (16, true), (17, true), (18, true), (19, true), (20, true), (21, true), (22, true), (23, true), (24, true), (25, true), (26, true), (28, true)] (by kernel_rfl) rfl ?_
     refine h_pf rfl rfl rfl rfl (h_mv rfl rfl rfl (h_no rfl rfl rfl rfl rfl (h_no rfl rfl rfl rfl rfl (h_no rfl rfl rfl rfl rfl (h_pf rfl rfl rfl rfl (h_mv rfl rfl rfl (h_no rfl rfl rfl rfl rfl (h_no rfl rfl rfl rfl rfl (h_no rfl rfl rfl rfl rfl (h_pf rfl rfl rfl rfl (h_mv rfl rfl rfl (h_no rfl rfl rfl rfl rfl (hwp_nilT ?_)))))))))))))
     refine x_one (i := 27) (by kernel_rfl) rfl ?_
     refine owp_no rfl rfl rfl rfl (x_go [(29, [])] ((St.refl nT _ _).lst [] (fun _ h => h.elim)) (by kernel_rfl) ?_)
     refine x_one (i := 29) (by kernel_rfl) rfl ?_
     refine owp_no rfl rfl rfl rfl (x_go [] ((St.refl nT _ _).lst [] (fun _ h => h.elim)) (by kernel_rfl) ?_)
     refine x_pre (fuel := 0) [] [(30, true), (31, true), (32, true), (33, true), (34, true), (35, true)] (by kernel_rfl) rfl ?_
     refine h_pf rfl rfl rfl rfl (h_mv rfl rfl rfl (h_no rfl rfl rfl rfl rfl (h_no rfl rfl rfl rfl rfl (h_pf rfl rfl rfl rfl (h_as rfl rfl rfl (hwp_nilT ?_))))))
     refine x_nil (by kernel_rfl) ?_
     obtain rfl := sm hy141
     replace hB := (((((((((hB.st S5).st S29).st S48).st S51).st S56).st S80).st S99).st S102).st S107).st S131
     exact ⟨(), _, ⟨rfl, trivial⟩, hB⟩
   ·
    replace hy141 := im hy141 c145
    refine h_pt rfl rfl rfl rfl (h_mv rfl rfl rfl (h_no rfl rfl rfl rfl rfl (h_no rfl rfl rfl rfl rfl (h_pf rfl rfl rfl rfl (h_mv rfl rfl rfl (h_no rfl rfl rfl rfl rfl (h_no rfl rfl rfl rfl rfl (hwp_nilT ?_))))))))
    refine x_one (i := 13) (by kernel_rfl) rfl ?_
    refine owp_no rfl rfl rfl rfl (x_go [(14, []), (27, []), (29, [])] ((St.refl nT _ _).lst [] (fun _ h => h.elim)) (by kernel_rfl) ?_)
    refine x_one (i := 14) (by kernel_rfl) rfl ?_
    refine owp_no rfl rfl rfl rfl (x_go [(27, []), (29, [])] ((St.refl nT _ _).lst [] (fun _ h => h.elim)) (by kernel_rfl) ?_)
    refine x_pre (fuel := 8) [] [(15, true), (16, true), (17, true), (18, true), (19, true), (20, true), (21, true), (22, true), (23, true), (24, true), (25, true), (26, true), (28, true)] (by kernel_rfl) rfl ?_
    refine h_pf rfl rfl rfl rfl (h_mv rfl rfl rfl (h_no rfl rfl rfl rfl rfl (h_no rfl rfl rfl rfl rfl (h_no rfl rfl rfl rfl rfl (h_pf rfl rfl rfl rfl (h_mv rfl rfl rfl (h_no rfl rfl rfl rfl rfl (h_no rfl rfl rfl rfl rfl (h_no rfl rfl rfl rfl rfl (h_pf rfl rfl rfl rfl (h_mv rfl rfl rfl (h_no rfl rfl rfl rfl rfl (hwp_nilT ?_)))))))))))))
    refine x_one (i := 27) (by kernel_rfl) rfl ?_
    refine owp_no rfl rfl rfl rfl (x_go [(29, [])] ((St.refl nT _ _).lst [] (fun _ h => h.elim)) (by kernel_rfl) ?_)
    refine x_one (i := 29) (by kernel_rfl) rfl ?_
    refine owp_no rfl rfl rfl rfl (x_go [] ((St.refl nT _ _).lst [] (fun _ h => h.elim)) (by kernel_rfl) ?_)
    refine x_pre (fuel := 0) [] [(30, true), (31, true), (32, true), (33, true), (34, true), (35, true)] (by kernel_rfl) rfl ?_
    refine h_pf rfl rfl rfl rfl (h_mv rfl rfl rfl (h_no rfl rfl rfl rfl rfl (h_no rfl rfl rfl rfl rfl (h_pf rfl rfl rfl rfl (h_as rfl rfl rfl (hwp_nilT ?_))))))
    refine x_nil (by kernel_rfl) ?_
    obtain rfl := sm hy141
    replace hB := (((((((((hB.st S5).st S29).st S48).st S51).st S56).st S80).st S99).st S102).st S107).st S131
    exact ⟨(), _, ⟨rfl, trivial⟩, hB⟩
  ·
   replace hy141 := im hy141 c144
   refine h_mv rfl rfl rfl (h_no rfl rfl rfl rfl rfl (h_no rfl rfl rfl rfl rfl (h_pf rfl rfl rfl rfl (h_mv rfl rfl rfl (h_no rfl rfl rfl rfl rfl (h_no rfl rfl rfl rfl rfl (h_pf rfl rfl rfl rfl (h_mv rfl rfl rfl (h_no rfl rfl rfl rfl rfl (h_no rfl rfl rfl rfl rfl (hwp_nilT ?_)))))))))))
   refine x_one (i := 13) (by kernel_rfl) rfl ?_
   refine owp_no rfl rfl rfl rfl (x_go [(14, []), (27, []), (29, [])] ((St.refl nT _ _).lst [] (fun _ h => h.elim)) (by kernel_rfl) ?_)
   refine x_one (i := 14) (by kernel_rfl) rfl ?_
   refine owp_no rfl rfl rfl rfl (x_go [(27, []), (29, [])] ((St.refl nT _ _).lst [] (fun _ h => h.elim)) (by kernel_rfl) ?_)
   refine x_pre (fuel := 8) [] [(15, true), (16, true), (17, true), (18, true), (19, true), (20, true), (21, true), (22, true), (23, true), (24, true), (25, true), (26, true), (28, true)] (by kernel_rfl) rfl ?_
   refine h_pf rfl rfl rfl rfl (h_mv rfl rfl rfl (h_no rfl rfl rfl rfl rfl (h_no rfl rfl rfl rfl rfl (h_no rfl rfl rfl rfl rfl (h_pf rfl rfl rfl rfl (h_mv rfl rfl rfl (h_no rfl rfl rfl rfl rfl (h_no rfl rfl rfl rfl rfl (h_no rfl rfl rfl rfl rfl (h_pf rfl rfl rfl rfl (h_mv rfl rfl rfl (h_no rfl rfl rfl rfl rfl (hwp_nilT ?_)))))))))))))
   refine x_one (i := 27) (by kernel_rfl) rfl ?_
   refine owp_no rfl rfl rfl rfl (x_go [(29, [])] ((St.refl nT _ _).lst [] (fun _ h => h.elim)) (by kernel_rfl) ?_)
   refine x_one (i := 29) (by kernel_rfl) rfl ?_
   refine owp_no rfl rfl rfl rfl (x_go [] ((St.refl nT _ _).lst [] (fun _ h => h.elim)) (by kernel_rfl) ?_)
   refine x_pre (fuel := 0) [] [(30, true), (31, true), (32, true), (33, true), (34, true), (35, true)] (by kernel_rfl) rfl ?_
   refine h_pf rfl rfl rfl rfl (h_mv rfl rfl rfl (h_no rfl rfl rfl rfl rfl (h_no rfl rfl rfl rfl rfl (h_pf rfl rfl rfl rfl (h_as rfl rfl rfl (hwp_nilT ?_))))))
   refine x_nil (by kernel_rfl) ?_
   obtain rfl := sm hy141
   replace hB := (((((((((hB.st S5).st S29).st S48).st S51).st S56).st S80).st S99).st S102).st S107).st S131
   exact ⟨(), _, ⟨rfl, trivial⟩, hB⟩
 replace hB := (((((((((hB.st S5).st S29).st S48).st S51).st S56).st S80).st S99).st S102).st S107).st S131
 rintro l194 w195 ⟨x143, O196, hs197, hB⟩
 refine ewp_sub _ hs197 ?_
 refine ewp_ret ?_
 obtain rfl := sm hm
 exact ret1v rfl (res_tmp rfl) ⟨hB.ext, vBool⟩
end
section
open Go Go.RowKit
theorem begin_ok {t : Tsk} (hok : TaskOk t) : ∃ reg, m_breadth_begin t = some (some ⟨t, reg, some ⟨t⟩⟩, ⟨0⟩) ∧ RegI t.vars reg [t.init] ∧ links reg = [⟨-1, -1, 0⟩] := by
  obtain ⟨rr, n1, reg, rfl, n2, n3⟩ := regNew_eq hok.1 hok.2.2.1
  rcases regAdd_eq hok.1 n2 hok.2.2.2.1 (by simp) with ⟨i, hi, _⟩ | ⟨_, r', hadd, hr', hlk⟩
  · simp at hi
  refine ⟨r', ?_, hr', by rw [hlk, n3]; rfl⟩
  unfold m_breadth_begin
  rw [new_ok hok, bnd_some, if_neg (by simp), n1, bnd_some, if_neg (by simp), bnd_some, hadd, bnd_some, if_neg (by simp)]
theorem links_len {vars : List Int} {r : Reg} {L : List (List Int)} (h : RegI vars r L) : (links r).length = L.length := by unfold links; rw [List.length_map, h.len]
theorem sum_eq {t : Tsk} (h : TaskOk t) {s p s' : List Int} {C : Int} (hr : PlanR t s p s' C) : ∀ (j : Nat) (c : Int), 0 ≤ c → c + p.length * 1048576 ≤ 1000000000000000 →
    rng (ρ := Rsl × Err) (fun (_ : Nat) (a78 : Int) (s75 : Int) => bnd (atI t.ops a78) fun a125 => bnd (chkI (s75 + a125.cost)) fun n146 => some (.next n146)) p j c = some (.done (c + C)) := by
  induction hr with
  | nil => intro j c _ _; simp [rng]
  | @cons s rest s' k o C ho hp hr ih =>
    intro j c hc hb
    simp only [List.length_cons] at hb
    have hoo := h.2.2.2.2.2 k o ho
    have h1 := hoo.1
    have h2 := hoo.2.1
    have e2 : (bnd (atI t.ops (k : Int)) fun a125 => bnd (chkI (c + a125.cost)) fun n146 => some (Ctl.next (ρ := Rsl × Err) n146)) = some (.next (c + o.cost)) := by
      rw [atI_eq, ho, bnd_some, chkI_eq (by unfold inI64; omega), bnd_some]
    simp only [rng, e2]
    rw [ih (j + 1) (c + o.cost) (by omega) (by omega), Int.add_assoc]
theorem state_len {t : Tsk} {s : List Int} (h : TaskOk t) (hs : StateOk t.vars s) : s.length ≤ 1000000 := by have := hs.1; have := h.1; omega
end
section
open Go Go.RowKit
structure SQ (t : Tsk) (L : List (List Int)) (x : Spc) : Prop where
  tt : x.t = t
  gen : x.gen = some ⟨t⟩
  reg : RegI t.vars x.reg L
theorem marked_sub : ∀ (l : List (List Int)) (bs : List Bool), (marked l bs).Sublist l
  | [], bs => by simp [marked]
  | s :: l, [] => by simp [marked]
  | s :: l, b :: bs => by
    have ih := marked_sub l bs
    simp only [marked]
    split
    · exact ih.cons_cons s
    · exact ih.cons s
theorem marked_mem : ∀ {l : List (List Int)} {bs : List Bool} {s : List Int}, s ∈ marked l bs → ∃ i : Nat, l[i]? = some s ∧ bs[i]? = some true
  | [], bs, s, h => by simp [marked] at h
  | s :: l, [], s', h => by simp [marked] at h
  | s :: l, b :: bs, s', h => by
    simp only [marked] at h
    by_cases hb : b = true
    · rw [if_pos hb] at h
      rcases List.mem_cons.1 h with rfl | h
      · exact ⟨0, rfl, by simp [hb]⟩
      · obtain ⟨i, h1, h2⟩ := marked_mem h; exact ⟨i + 1, by simpa using h1, by simpa using h2⟩
    · rw [if_neg hb] at h
      obtain ⟨i, h1, h2⟩ := marked_mem h; exact ⟨i + 1, by simpa using h1, by simpa using h2⟩
end
section
open Go Go.RowKit
abbrev US := (List Int) × (List Bool) × Int × Int × Spc × BQ
abbrev UT := (List Int) × (List Bool) × Int × Spc × BQ
noncomputable def uIn (t : Tsk) (n2 cst idd : Int) (s : UT) (a : Suc) : Option (Ctl UT (Ctl US (Rsl × Err))) := bnd (m_registry_Registry_Add s.2.2.2.1.reg a.state) fun q => if q.2.2.1.n ≠ 0 then (bnd (m_breadth_failed 3 n2) fun z => some (.ret (.ret (z.1, (⟨z.2.n⟩ : Err))))) else (bnd (atI t.ops a.op) fun o => bnd (chkI (cst + o.cost)) fun n => bnd (if q.2.1 = true then (bnd (appI 8 s.1 [n]) fun u => bnd (appI 1 s.2.1 [false]) fun v => some (.done (u, v))) else (bnd (bnd (atI s.2.1 q.1) fun b => if b = true then (some true) else (bnd (atI s.1 q.1) fun c => if c ≤ n then (some true) else (some false)) : Option Bool) fun y => if y = true then (some (.ret (.next (s.1, s.2.1, s.2.2.1, (⟨s.2.2.2.1.t, q.2.2.2, s.2.2.2.1.gen⟩ : Spc), s.2.2.2.2)))) else (some (.done (s.1, s.2.1)))) : Option (Fin ((List Int) × (List Bool)) (Ctl UT (Ctl US (Rsl × Err))))) fun y => fin y fun (z : (List Int) × (List Bool)) => bnd (atI z.1 q.1) fun _ => bnd (m_registry_Registry_SetLink q.2.2.2 q.1 idd a.op n) fun k => if k.1.n ≠ 0 then (some (.ret (.ret ((⟨0, ([] : List Int), 0, 0⟩ : Rsl), (⟨k.1.n⟩ : Err))))) else (bnd (m_container_heap_Push s.2.2.2.2 (⟨(⟨n, s.2.2.1, q.1⟩ : Itm)⟩ : AI)) fun h => bnd (chkI (s.2.2.1 + 1)) fun m => some (.next ((z.1.set (q.1 : Int).toNat n), z.2, m, (⟨s.2.2.2.1.t, k.2, s.2.2.2.1.gen⟩ : Spc), h))))
noncomputable def uniF (t : Tsk) (lim : Int) : US → Option (Ctl US (Rsl × Err)) := fun s => bnd (m_breadth_queue_Len s.2.2.2.2.2.l) fun q => if 0 < q then (bnd (m_container_heap_Pop s.2.2.2.2.2) fun e => bnd (atI s.2.1 e.1.x.id) fun b => if b = true then (some (.next (s.1, s.2.1, s.2.2.1, s.2.2.2.1, s.2.2.2.2.1, e.2))) else (bnd (m_registry_Registry_State s.2.2.2.2.1.reg e.1.x.id) fun w => if w.2.n ≠ 0 then (some (.ret ((⟨0, ([] : List Int), 0, 0⟩ : Rsl), (⟨w.2.n⟩ : Err)))) else (bnd (m_task_Holds t.goal w.1) fun g => if g = true then bnd (m_breadth_space_solved s.2.2.2.2.1 e.1.x.id s.2.2.2.1) fun z => some (.ret (z.1, (⟨z.2.n⟩ : Err))) else if lim ≤ s.2.2.2.1 then (bnd (m_breadth_failed 3 s.2.2.2.1) fun z => some (.ret (z.1, (⟨z.2.n⟩ : Err)))) else (bnd (atI s.2.1 e.1.x.id) fun _ => bnd (chkI (s.2.2.2.1 + 1)) fun n2 => bnd (m_succgen_Generator_Successors s.2.2.2.2.1.gen w.1) fun l => bnd (rng (ρ := Ctl US (Rsl × Err)) (fun (_ : Nat) (a : Suc) (y : UT) => uIn t n2 e.1.x.cost e.1.x.id y a) l 0 (s.1, (s.2.1.set (e.1.x.id : Int).toNat true), s.2.2.1, s.2.2.2.2.1, e.2)) fun r => fin r fun (z : UT) => some (.next (z.1, z.2.1, z.2.2.1, n2, z.2.2.2.1, z.2.2.2.2)))))) else (some (.brk s))
noncomputable def uniE : Fin US (Rsl × Err) → Option (Rsl × Err) := fun r => fin r fun (s : US) => bnd (m_breadth_failed 2 s.2.2.2.1) fun q => some (q.1, (⟨q.2.n⟩ : Err))
theorem uni_unf (t : Tsk) (lim : Int) : m_breadth_Uniform t lim = bnd (m_breadth_begin t) fun q => if q.2.n ≠ 0 then (some ((⟨0, ([] : List Int), 0, 0⟩ : Rsl), (⟨q.2.n⟩ : Err))) else (bnd q.1 fun o => bnd (lop (uniF t lim) (([0] : List Int), [false], 1, 0, o, (⟨[(⟨0, 0, 0⟩ : Itm)]⟩ : BQ))) uniE) := rfl
theorem mem_appl {t : Tsk} {s : List Int} {k : Nat} {o : Opr} (ho : t.ops[k]? = some o) (hp : holdsB o.pre s = true) : (k : Int) ∈ appl t s := by
  rw [appl_N, List.mem_map]
  exact ⟨k, List.mem_filter.2 ⟨List.mem_range.2 (lt_of_get ho), by rw [(appB_of ho).1]; exact hp⟩, rfl⟩
theorem walkS_all {t : Tsk} {s : List Int} {C : Int} (hw : Walk t s C) : WalkS t (appl t) s C := by
  induction hw with
  | goal h => exact .goal h
  | step ho hp _ ih => exact .step ho (mem_appl ho hp) ih
theorem few_states {t : Tsk} (hs : SmallOk t) {r : Reg} {L : List (List Int)} (h : RegI t.vars r L) : L.length ≤ 512 := by
  refine Nat.le_trans (nodup_len (nodup_of h.nodup) fun s hm => ?_) hs.many
  obtain ⟨i, hi⟩ := List.getElem?_of_mem hm
  exact mem_statesL.2 (h.st i s hi)
/-- What is closed stays as it is. -/
def KP (L : List (List Int)) (g : List Int) (fn : List Bool) (L' : List (List Int)) (g' : List Int) (fn' : List Bool) : Prop := ∀ j : Nat, fn'[j]? = some true → fn[j]? = some true ∧ g'[j]? = g[j]? ∧ L'[j]? = L[j]?
def HM (g : List Int) (fn : List Bool) (c : Int) : Prop := ∀ (j : Nat) c', fn[j]? = some true → g[j]? = some c' → c' ≤ c
def CO (t : Tsk) (g : List Int) (fn : List Bool) : Prop := ∀ (j : Nat) c', fn[j]? = some true → g[j]? = some c' → ∀ C, Walk t t.init C → c' ≤ C
theorem KP.rfl {L : List (List Int)} {g : List Int} {fn : List Bool} : KP L g fn L g fn := fun _ h => ⟨h, Eq.refl _, Eq.refl _⟩
theorem KP.upd {L L' : List (List Int)} {g g' : List Int} {fn fn' : List Bool} {i : Nat} {s : List Int} {x : Int} (h1 : UpL i s L L') (h2 : UpL i x g g') (h3 : UpL i false fn fn') : KP L g fn L' g' fn' := fun j hj => by
  have hne : j ≠ i := fun e => by subst e; rw [h3.1] at hj; cases hj
  exact ⟨by rw [← h3.2 j hne]; exact hj, h2.2 j hne, h1.2 j hne⟩
theorem HM.kp {L L' : List (List Int)} {g g' : List Int} {fn fn' : List Bool} {c : Int} (h : HM g fn c) (k : KP L g fn L' g' fn') : HM g' fn' c := fun j c' hj hc => by
  obtain ⟨k1, k2, _⟩ := k j hj
  exact h j c' k1 (by rw [← k2]; exact hc)
theorem CO.kp {t : Tsk} {L L' : List (List Int)} {g g' : List Int} {fn fn' : List Bool} (h : CO t g fn) (k : KP L g fn L' g' fn') : CO t g' fn' := fun j c' hj hc => by
  obtain ⟨k1, k2, _⟩ := k j hj
  exact h j c' k1 (by rw [← k2]; exact hc)
theorem u_one {t : Tsk} (hs : SmallOk t) {D : Nat → Int → Prop} {ord : Nat → Nat} {L : List (List Int)} {E : Nat} {g : List Int} {fn : List Bool} {order : Int} {x : Spc} {q : BQ} (hx : SQ t L x) (hinv : SrI t (appl t) D L (links x.reg) g fn (qs q.l) ord E) (hh : HeapOk (qs q.l)) (ho0 : 0 ≤ order) (ho1 : order ≤ 100000) (hql : q.l.length ≤ 100000) (hE : E ≤ 513)
    {p k : Nat} {o : Opr} {sp : List Int} {cp n2 : Int} (ho : t.ops[k]? = some o) (hsp : L[p]? = some sp) (hfp : fn[p]? = some true) (hpre : holdsB o.pre sp = true) (hgp : g[p]? = some cp) (hmax : HM g fn cp) (hcb : cp + 1048576 ≤ (E : Int) * 1048576) :
    ∃ y : UT, uIn t n2 cp (p : Int) (g, fn, order, x, q) ⟨(k : Int), succ o sp⟩ = some (.next y) ∧ ∃ L', SQ t L' y.2.2.2.1 ∧ SrI t (appl t) D L' (links y.2.2.2.1.reg) y.1 y.2.1 (qs y.2.2.2.2.l) ord E ∧ HeapOk (qs y.2.2.2.2.l) ∧ 0 ≤ y.2.2.1 ∧ y.2.2.1 ≤ order + 1 ∧ y.2.2.2.2.l.length ≤ q.l.length + 1 ∧ KP L g fn L' y.1 y.2.1 ∧ L'[p]? = some sp ∧ y.2.1[p]? = some true ∧ y.1[p]? = some cp ∧ ∃ (i : Nat) (c' : Int), L'[i]? = some (succ o sp) ∧ y.1[i]? = some c' ∧ c' ≤ cp + o.cost := by
  have hok := hs.ok
  have hoo := hok.2.2.2.2.2 k o ho
  have ho1' := hoo.1
  have ho2 := hoo.2.1
  have hL := few_states hs hx.reg
  have hcp := (hinv.bound p cp hgp).1
  have hsok : StateOk t.vars (succ o sp) := succ_ok hok (hx.reg.st p sp hsp) ho
  have hgl := hinv.leng
  have hfl := hinv.lenf
  have hlkl := links_len hx.reg
  have hpl := lt_of_get hsp
  unfold uIn
  dsimp only
  rcases regAdd_eq hok.1 hx.reg hsok (by omega) with ⟨i, hi, hadd⟩ | ⟨hno, r', hadd, hr', hlk⟩
  · have hil := lt_of_get hi
    obtain ⟨ci, hci⟩ := some_of_lt (l := g) (k := i) (by omega)
    obtain ⟨b, hb⟩ := some_of_lt (l := fn) (k := i) (by omega)
    rw [hadd, bnd_some, if_neg (by simp), atI_eq, ho, bnd_some, chkI_eq (by unfold inI64; omega), bnd_some]
    dsimp only
    rw [if_f, atI_eq, hb, bnd_some, atI_eq, hci, bnd_some]
    have keep : ci ≤ cp + o.cost → ∃ y : UT, (some (.next (g, fn, order, (⟨x.t, x.reg, x.gen⟩ : Spc), q)) : Option (Ctl UT (Ctl US (Rsl × Err)))) = some (.next y) ∧ ∃ L', SQ t L' y.2.2.2.1 ∧ SrI t (appl t) D L' (links y.2.2.2.1.reg) y.1 y.2.1 (qs y.2.2.2.2.l) ord E ∧ HeapOk (qs y.2.2.2.2.l) ∧ 0 ≤ y.2.2.1 ∧ y.2.2.1 ≤ order + 1 ∧ y.2.2.2.2.l.length ≤ q.l.length + 1 ∧ KP L g fn L' y.1 y.2.1 ∧ L'[p]? = some sp ∧ y.2.1[p]? = some true ∧ y.1[p]? = some cp ∧ ∃ (i : Nat) (c' : Int), L'[i]? = some (succ o sp) ∧ y.1[i]? = some c' ∧ c' ≤ cp + o.cost := fun hle =>
      ⟨_, rfl, L, hx, hinv, hh, ho0, by dsimp only; omega, by dsimp only; omega, KP.rfl, hsp, hfp, hgp, i, ci, hi, hci, hle⟩
    cases b with
    | true =>
      rw [if_t, bnd_some, if_t, bnd_some]
      exact keep (by have := hmax i ci hb hci; omega)
    | false =>
      rw [if_f]
      by_cases hle : ci ≤ cp + o.cost
      · rw [if_pos hle, bnd_some, if_t, bnd_some]
        exact keep hle
      · have hip : p ≠ i := fun e => by subst e; rw [hfp] at hb; cases hb
        obtain ⟨reg', s1, s2, s3⟩ := setLink_eq hx.reg hil (p := (p : Int)) (o := (k : Int)) (c := cp + o.cost) (.inr ⟨p, rfl, hpl⟩)
        obtain ⟨q', u1, u2, u3⟩ := hpush_eq hh (by omega) ⟨cp + o.cost, order, (i : Int)⟩
        have hplen := u3.length_eq
        simp only [List.length_cons, qs_len] at hplen
        rw [if_neg hle, bnd_some, if_f, bnd_some, fin_d]
        dsimp only
        rw [atI_eq, hci, bnd_some, s1, bnd_some, if_neg (by simp), u1, bnd_some, chkI_eq (by unfold inI64; omega), bnd_some, Int.toNat_natCast]
        have v1 : UpL i (succ o sp) L L := upl_same hi
        have v3 : UpL i (cp + o.cost) g (g.set i (cp + o.cost)) := upl_set (by omega)
        have v4 : UpL i false fn fn := upl_same hb
        refine ⟨_, rfl, L, ⟨hx.tt, hx.gen, s2⟩, ?_, u2, by dsimp only; omega, by dsimp only; omega, by dsimp only; omega, KP.upd v1 v3 v4, hsp, hfp, ?_, i, cp + o.cost, hi, v3.1, Int.le_refl _⟩
        · dsimp only
          rw [s3]
          exact hinv.upd hok v1 (upl_set (by omega)) v3 v4 u3 rfl rfl (by simp; omega) (by simp; omega) (by omega) (by omega) rfl (.inr ⟨hi, hb, fun c hc => by rw [hci] at hc; have := Option.some.inj hc; omega⟩) ho hsp hfp hpre rfl hgp rfl hmax (by omega)
        · dsimp only; rw [v3.2 p hip]; exact hgp
  · rw [hadd, bnd_some, if_neg (by simp), atI_eq, ho, bnd_some, chkI_eq (by unfold inI64; omega), bnd_some]
    dsimp only
    have hg2 : (g ++ [cp + o.cost])[L.length]? = some (cp + o.cost) := by rw [← hgl]; simp
    obtain ⟨reg', s1, s2, s3⟩ := setLink_eq hr' (i := L.length) (by simp) (p := (p : Int)) (o := (k : Int)) (c := cp + o.cost) (.inr ⟨p, rfl, by simp; omega⟩)
    obtain ⟨q', u1, u2, u3⟩ := hpush_eq hh (by omega) ⟨cp + o.cost, order, ((L.length : Nat) : Int)⟩
    have hplen := u3.length_eq
    simp only [List.length_cons, qs_len] at hplen
    rw [if_t, appI_eq (by simp; omega) (by simp; omega), bnd_some, appI_eq (by simp; omega) (by simp; omega), bnd_some, bnd_some, fin_d]
    dsimp only
    rw [atI_eq, hg2, bnd_some, s1, bnd_some, if_neg (by simp), u1, bnd_some, chkI_eq (by unfold inI64; omega), bnd_some, Int.toNat_natCast]
    have sc : (g ++ [cp + o.cost]).set L.length (cp + o.cost) = g ++ [cp + o.cost] := by rw [← hgl]; simp
    rw [sc]
    have hlk2 : links reg' = links x.reg ++ [⟨(p : Int), (k : Int), cp + o.cost⟩] := by rw [s3, hlk, ← hlkl]; simp
    have v1 : UpL L.length (succ o sp) L (L ++ [succ o sp]) := upl_app
    have v2 : UpL L.length (⟨(p : Int), (k : Int), cp + o.cost⟩ : RLk) (links x.reg) (links x.reg ++ [⟨(p : Int), (k : Int), cp + o.cost⟩]) := by rw [← hlkl]; exact upl_app
    have v3 : UpL L.length (cp + o.cost) g (g ++ [cp + o.cost]) := by rw [← hgl]; exact upl_app
    have v4 : UpL L.length false fn (fn ++ [false]) := by rw [← hfl]; exact upl_app
    have hne : p ≠ L.length := by omega
    refine ⟨_, rfl, L ++ [succ o sp], ⟨hx.tt, hx.gen, s2⟩, ?_, u2, by dsimp only; omega, by dsimp only; omega, by dsimp only; omega, KP.upd v1 v3 v4, by rw [v1.2 p hne]; exact hsp, by dsimp only; rw [v4.2 p hne]; exact hfp, by dsimp only; rw [v3.2 p hne]; exact hgp, L.length, cp + o.cost, v1.1, v3.1, Int.le_refl _⟩
    dsimp only
    rw [hlk2]
    exact hinv.upd hok v1 v2 v3 v4 u3 rfl rfl (by simp; omega) (by simp; omega) (by simp; omega) (by simp) (cnt_app _) (.inl (List.getElem?_eq_none (Nat.le_refl _))) ho hsp hfp hpre rfl hgp rfl hmax (by omega)
/-- While a state is expanded. -/
structure UJ (t : Tsk) (D : Nat → Int → Prop) (ord : Nat → Nat) (E N : Nat) (i : Nat) (s : List Int) (c : Int) (L : List (List Int)) (y : UT) : Prop where
  sq : SQ t L y.2.2.2.1
  inv : SrI t (appl t) D L (links y.2.2.2.1.reg) y.1 y.2.1 (qs y.2.2.2.2.l) ord E
  heap : HeapOk (qs y.2.2.2.2.l)
  ord0 : 0 ≤ y.2.2.1
  ord1 : y.2.2.1 ≤ (N : Int) + 1
  qlen : y.2.2.2.2.l.length ≤ N
  hi : L[i]? = some s
  hf : y.2.1[i]? = some true
  hc : y.1[i]? = some c
  hm : HM y.1 y.2.1 c
  co : CO t y.1 y.2.1
theorem u_exp {t : Tsk} (hs : SmallOk t) {ord : Nat → Nat} {E N i : Nat} {s : List Int} {c n2 : Int} {L : List (List Int)} {y : UT} (h : UJ t (fun j _ => j ≠ i) ord E N i s c L y) (hN : N ≤ 90000) (hE : E ≤ 513) (hcb : c + 1048576 ≤ (E : Int) * 1048576) :
    ∃ y' : UT, rng (ρ := Ctl US (Rsl × Err)) (fun (_ : Nat) (a : Suc) (y : UT) => uIn t n2 c (i : Int) y a) ((appS t s).map (sucOf t s)) 0 y = some (.done y') ∧ ∃ L', UJ t (fun _ _ => True) ord E (N + 20) i s c L' y' := by
  have hok := hs.ok
  have hops : t.ops.length ≤ 20 := hs.2.1
  have hsok := h.sq.reg.st i s h.hi
  have hlen : (appl t s).length ≤ 20 := Nat.le_trans (appl_len t s) hops
  rw [appS_ok hsok]
  obtain ⟨y', h1, h2⟩ := rng_all (ρ := Ctl US (Rsl × Err)) (f := fun (_ : Nat) (a : Suc) (y : UT) => uIn t n2 c (i : Int) y a) (xs := (appl t s).map (sucOf t s)) (s₀ := y) (fun m z => ∃ L', UJ t (fun j q => j ≠ i ∨ q ∈ (appl t s).take m) ord E (N + m) i s c L' z)
    ⟨L, { h with inv := { h.inv with rel := fun j s' q hj hs' hq hd => h.inv.rel j s' q hj hs' hq (by rcases hd with hd | hd; exact hd; simp at hd) } }⟩ (fun m a z hm hz => by
      rw [List.getElem?_map] at hm
      obtain ⟨op, hop, rfl⟩ := Option.map_eq_some_iff.1 hm
      obtain ⟨L', hz⟩ := hz
      obtain ⟨k, o, rfl, ho, hp⟩ := appl_mem (List.mem_of_getElem? hop)
      have hml := lt_of_get hop
      have hq := hz.qlen
      have hoo := hz.ord1
      have e1 : sucOf t s (k : Int) = ⟨(k : Int), succ o s⟩ := by rw [sucOf_N, (appB_of ho).2]
      obtain ⟨g, fn, order, x, q⟩ := z
      obtain ⟨z', z1, L'', z2, z3, z4, z5, z6, z7, z8, z9, z10, z11, i', c', z12, z13, z14⟩ := u_one hs (n2 := n2) hz.sq hz.inv hz.heap hz.ord0 (by have := hz.ord1; dsimp only at this; omega) (by have := hz.qlen; dsimp only at this; omega) hE ho hz.hi hz.hf hp hz.hc hz.hm hcb
      try dsimp only at hq
      try dsimp only at hoo
      try dsimp only at z6
      try dsimp only at z7
      refine ⟨z', by rw [e1]; exact z1, L'', ⟨z2, ?_, z4, z5, by omega, by omega, z9, z10, z11, hz.hm.kp z8, hz.co.kp z8⟩⟩
      refine z3.more (j₀ := i) (q₀ := (k : Int)) (fun j q hd => ?_) z9 rfl ho z12 z11 z13 z14
      rcases hd with hd | hd
      · exact .inl (.inl hd)
      · rcases (take_mem hop).1 hd with hd | rfl
        · exact .inl (.inr hd)
        · by_cases e : j = i
          · exact .inr ⟨e, rfl⟩
          · exact .inl (.inl e))
  obtain ⟨L', h2⟩ := h2
  rw [List.length_map] at h2
  refine ⟨y', h1, L', ?_⟩
  have hinv := h2.inv
  have hq := h2.qlen
  have hoo := h2.ord1
  exact { h2 with
    inv := { hinv with rel := fun j s' q hj hs' hq hd => hinv.rel j s' q hj hs' hq (by
      by_cases e : j = i
      · right; rw [List.take_length]; subst e; rw [h2.hi] at hs'; obtain rfl := Option.some.inj hs'; exact hq
      · exact .inl e) }
    ord1 := by omega
    qlen := by omega }
/-- Between two steps. -/
structure UI (t : Tsk) (ord : Nat → Nat) (N : Nat) (L : List (List Int)) (s : US) : Prop where
  sq : SQ t L s.2.2.2.2.1
  inv : SrI t (appl t) (fun _ _ => True) L (links s.2.2.2.2.1.reg) s.1 s.2.1 (qs s.2.2.2.2.2.l) ord s.2.2.2.1.toNat
  heap : HeapOk (qs s.2.2.2.2.2.l)
  ord0 : 0 ≤ s.2.2.1
  ord1 : s.2.2.1 ≤ (N : Int) + 1
  qlen : s.2.2.2.2.2.l.length ≤ N
  exp0 : 0 ≤ s.2.2.2.1
  co : CO t s.1 s.2.1
  nn : (N : Int) ≤ 1 + 20 * s.2.2.2.1
theorem UI.exp {t : Tsk} (hs : SmallOk t) {ord : Nat → Nat} {N : Nat} {L : List (List Int)} {s : US} (h : UI t ord N L s) : s.2.2.2.1 ≤ 512 := by
  have h1 := h.inv.num
  have h2 := cnt_le s.2.1
  have h3 := h.inv.lenf
  have h4 := few_states hs h.sq.reg
  have := h.exp0
  omega
/-- On each way there is a state in the queue, or its end is closed. -/
theorem SrI.ways {t : Tsk} {L : List (List Int)} {lk : List RLk} {g : List Int} {fn : List Bool} {hp : List QEn} {ord : Nat → Nat} {E : Nat} (h : SrI t (appl t) (fun _ _ => True) L lk g fn hp ord E) (hok : TaskOk t) {s0 p s : List Int} {C : Int} (hw : PlanR t s0 p s C) : ∀ (i : Nat) c, L[i]? = some s0 → g[i]? = some c → (∃ e ∈ hp, e.key ≤ c + C) ∨ ∃ i : Nat, L[i]? = some s ∧ fn[i]? = some true := by
  induction hw with
  | nil =>
    intro i c hi hc
    obtain ⟨b, hb⟩ := some_of_lt (l := fn) (k := i) (by rw [h.lenf]; exact lt_of_get hi)
    cases b with
    | false => obtain ⟨e, m, k1, _⟩ := h.opn i c hb hc; exact .inl ⟨e, m, by omega⟩
    | true => exact .inr ⟨i, hi, hb⟩
  | @cons s0 rest s' k o C ho hpre hr ih =>
    intro i c hi hc
    have h1 := (hr.bound hok).1
    have h2 := (hok.2.2.2.2.2 k o ho).1
    obtain ⟨b, hb⟩ := some_of_lt (l := fn) (k := i) (by rw [h.lenf]; exact lt_of_get hi)
    cases b with
    | false => obtain ⟨e, m, k1, _⟩ := h.opn i c hb hc; exact .inl ⟨e, m, by omega⟩
    | true =>
      obtain ⟨k', o', i', c0, c', a1, a2, a3, a4, a5, a6⟩ := h.rel i s0 _ hb hi (mem_appl ho hpre) trivial
      have e1 : k = k' := by omega
      subst e1
      rw [ho] at a2
      obtain rfl := Option.some.inj a2
      rw [hc] at a4
      obtain rfl := Option.some.inj a4
      rcases ih i' c' a3 a5 with ⟨e, m, k1⟩ | h3
      · exact .inl ⟨e, m, by omega⟩
      · exact .inr h3
theorem u_step {t : Tsk} (hs : SmallOk t) {ord : Nat → Nat} {N : Nat} {L : List (List Int)} {st : US} (h : UI t ord N L st) :
    (∃ st' : US, (∀ lim, uniF t lim st = some (.next st')) ∧ UI t ord N L st' ∧ st'.2.2.2.1 = st.2.2.2.1 ∧ st'.2.2.2.2.2.l.length < st.2.2.2.2.2.l.length) ∨
    ((∀ lim, uniF t lim st = some (.brk st)) ∧ st.2.2.2.2.2.l.length = 0) ∨
    (∃ p c, (∀ lim, uniF t lim st = some (.ret (⟨1, p, c, st.2.2.2.1⟩, ⟨0⟩))) ∧ p.length ≤ 512 ∧ (∃ s', PlanR t t.init p s' c ∧ holdsB t.goal s' = true) ∧ (∀ e ∈ qs st.2.2.2.2.2.l, c ≤ e.key)) ∨
    (∃ (st' : US) (ord' : Nat → Nat) (N' : Nat) (L' : List (List Int)), (∀ lim, uniF t lim st = if lim ≤ st.2.2.2.1 then some (.ret (⟨3, [], 0, st.2.2.2.1⟩, ⟨0⟩)) else some (.next st')) ∧ UI t ord' N' L' st' ∧ st'.2.2.2.1 = st.2.2.2.1 + 1 ∧ ∃ (i : Nat) (s : List Int) (c : Int), L[i]? = some s ∧ st.2.1[i]? = some false ∧ st.1[i]? = some c ∧ holdsB t.goal s = false ∧ ∀ C, Walk t t.init C → c ≤ C) := by
  have hok := hs.ok
  have hE := h.exp hs
  have hE0 := h.exp0
  have hnn := h.nn
  have hql := h.qlen
  obtain ⟨g, fn, order, exp, x, q⟩ := st
  dsimp only at hE hE0 hnn hql ⊢
  by_cases h0 : q.l.length = 0
  · refine .inr (.inl ⟨fun lim => ?_, h0⟩)
    unfold uniF m_breadth_queue_Len
    dsimp only
    rw [bnd_some, if_neg (by omega)]
  obtain ⟨pr, p1, e, q', rfl, p3, p4, p5⟩ := hpop_eq (q := q) h.heap (by omega) (by omega)
  have hem : toQ e ∈ qs q.l := p4.mem_iff.2 List.mem_cons_self
  obtain ⟨i, hei, hil, hek⟩ := h.inv.ent _ hem
  change e.id = (i : Int) at hei
  obtain ⟨s, hsi⟩ := some_of_lt (l := L) (k := i) hil
  obtain ⟨b, hb⟩ := some_of_lt (l := fn) (k := i) (by have := h.inv.lenf; dsimp only at this; omega)
  obtain ⟨c, hc⟩ := some_of_lt (l := g) (k := i) (by have := h.inv.leng; dsimp only at this; omega)
  have hpl := p4.length_eq
  simp only [List.length_cons, qs_len] at hpl
  cases b with
  | true =>
    refine .inl ⟨(g, fn, order, exp, x, q'), fun lim => ?_, ⟨h.sq, h.inv.drop p4 hei (.inl hb), p3, h.ord0, h.ord1, by dsimp only; omega, h.exp0, h.co, h.nn⟩, rfl, by dsimp only; omega⟩
    unfold uniF m_breadth_queue_Len
    dsimp only
    rw [bnd_some, if_pos (by omega), p1, bnd_some]
    dsimp only
    rw [hei, atI_eq, hb, bnd_some, if_t]
  | false =>
    have hke : e.cost = c := by
      obtain ⟨e', m, k1, _⟩ := h.inv.opn i c hb hc
      have h1 := nb_key (p5 e' m)
      have h2 := hek c hc
      change c ≤ e.cost at h2
      change e.cost ≤ e'.key at h1
      omega
    have start : ∀ lim, uniF t lim (g, fn, order, exp, x, q) = if holdsB t.goal s = true then bnd (m_breadth_space_solved x (i : Int) exp) fun z => some (.ret (z.1, (⟨z.2.n⟩ : Err))) else if lim ≤ exp then (some (.ret (⟨3, [], 0, exp⟩, ⟨0⟩))) else (bnd (atI fn (i : Int)) fun _ => bnd (chkI (exp + 1)) fun n2 => bnd (m_succgen_Generator_Successors x.gen s) fun l => bnd (rng (ρ := Ctl US (Rsl × Err)) (fun (_ : Nat) (a : Suc) (y : UT) => uIn t n2 c (i : Int) y a) l 0 (g, (fn.set i true), order, x, q')) fun r => fin r fun (z : UT) => some (.next (z.1, z.2.1, z.2.2.1, n2, z.2.2.2.1, z.2.2.2.2))) := by
      intro lim
      unfold uniF m_breadth_queue_Len m_breadth_failed
      dsimp only
      rw [bnd_some, if_pos (by omega), p1, bnd_some]
      dsimp only
      rw [hei, hke, atI_eq, hb, bnd_some, if_f, regState_eq hok.1 h.sq.reg hsi, bnd_some, if_neg (by simp), tholds_eq, bnd_some, Int.toNat_natCast, bnd_some]
    have hkey : g[i]? = some (toQ e).key := by rw [hc, ← hke]; rfl
    have hleast : ∀ e' ∈ qs q.l, c ≤ e'.key := fun e' m => by have := nb_key (p5 e' m); change e.cost ≤ e'.key at this; omega
    have hchp : ∀ C, Walk t t.init C → c ≤ C := fun C hw => by
      obtain ⟨e', m, k1⟩ := h.inv.front hok (walkS_all hw) 0 0 h.inv.root h.inv.root0
      have := hleast e' m
      omega
    by_cases hg : holdsB t.goal s = true
    · obtain ⟨p, g1, g2, g3⟩ := h.inv.path hsi hc
      have hL := few_states hs h.sq.reg
      have hnum := h.inv.num
      have hcl := cnt_le fn
      have hfl := h.inv.lenf
      dsimp only at g1 g2 g3 hnum hcl hfl
      refine .inr (.inr (.inl ⟨p, c, fun lim => ?_, by omega, ⟨s, g2, hg⟩, hleast⟩))
      rw [start, if_pos hg]
      unfold m_breadth_space_solved
      rw [path_eq h.sq.reg (by omega) g1 (by omega), bnd_some, if_neg (by simp), h.sq.tt, sum_eq hok g2 0 0 (by omega) (by omega), bnd_some, fin_d, Int.zero_add, bnd_some]
    · have hgf : holdsB t.goal s = false := by simpa using hg
      have hm := h.inv.mark p4 p5 hei hb hkey hsi hgf
      have hbd := h.inv.bound i c hc
      dsimp only at hm hbd
      rw [Int.toNat_of_nonneg hE0] at hbd
      have hfl : i < fn.length := lt_of_get hb
      have hset : ∀ (j : Nat) c', (fn.set i true)[j]? = some true → g[j]? = some c' → c' ≤ c ∧ ∀ C, Walk t t.init C → c' ≤ C := fun j c' hj hc' => by
        by_cases e1 : i = j
        · subst e1
          rw [hc] at hc'
          obtain rfl := Option.some.inj hc'
          exact ⟨Int.le_refl _, hchp⟩
        · rw [List.getElem?_set_ne e1] at hj
          exact ⟨by have := h.inv.lower j c' hj hc' _ hem; change c' ≤ e.cost at this; omega, h.co j c' hj hc'⟩
      obtain ⟨y', y1, L', y2⟩ := u_exp hs (n2 := exp + 1) (E := exp.toNat + 1) (N := N) (i := i) (s := s) (c := c) (L := L) (y := (g, fn.set i true, order, x, q')) ⟨h.sq, hm, p3, h.ord0, h.ord1, by dsimp only; omega, hsi, List.getElem?_set_self hfl, hc, fun j c' hj hc' => (hset j c' hj hc').1, fun j c' hj hc' => (hset j c' hj hc').2⟩ (by omega) (by omega) (by
        have : ((exp.toNat + 1 : Nat) : Int) = exp + 1 := by omega
        rw [this]; omega)
      have hsok := h.sq.reg.st i s hsi
      refine .inr (.inr (.inr ⟨(y'.1, y'.2.1, y'.2.2.1, exp + 1, y'.2.2.2.1, y'.2.2.2.2), (fun j => if j = i then exp.toNat else ord j), N + 20, L', fun lim => ?_, ⟨y2.sq, ?_, y2.heap, y2.ord0, y2.ord1, y2.qlen, by dsimp only; omega, y2.co, by dsimp only; omega⟩, rfl, i, s, c, hsi, hb, hc, hgf, hchp⟩))
      · rw [start, if_neg hg]
        by_cases hlim : lim ≤ exp
        · rw [if_pos hlim, if_pos hlim]
        · rw [if_neg hlim, if_neg hlim, atI_eq, hb, bnd_some, chkI_eq (by unfold inI64; omega), bnd_some, h.sq.gen, succ_eq hok (state_len hok hsok), bnd_some, y1, bnd_some, fin_d]
      · dsimp only
        rw [show (exp + 1).toNat = exp.toNat + 1 from by omega]
        exact y2.inv
end
section
open Go Go.RowKit
/-- A state that is no dearer than any plan. -/
def Cheap (t : Tsk) (s : List Int) : Prop := ∃ p c, PlanR t t.init p s c ∧ c ≤ 1000000000 ∧ ∀ C, Walk t t.init C → c ≤ C
/-- What a search returns with a limit of m: M are the states that it has expanded. -/
def ResU (t : Tsk) (m : Int) (r : Rsl) : Prop := 0 ≤ r.expanded ∧ r.expanded ≤ m ∧ ∃ M : List (List Int), M.Nodup ∧ (M.length : Int) = r.expanded ∧ (∀ s ∈ M, Cheap t s) ∧
  ((r.verdict = 1 ∧ r.plan.length ≤ 512 ∧ (∃ s', PlanR t t.init r.plan s' r.cost ∧ holdsB t.goal s' = true) ∧ (∀ C, Walk t t.init C → r.cost ≤ C) ∧ ∀ s p c, PlanR t t.init p s c → c < r.cost → s ∈ M) ∨
   (r.verdict = 2 ∧ r.plan = [] ∧ r.cost = 0 ∧ (∀ C, ¬ Walk t t.init C) ∧ ∀ s p c, PlanR t t.init p s c → s ∈ M) ∨
   (r.verdict = 3 ∧ r.plan = [] ∧ r.cost = 0 ∧ m ≤ r.expanded ∧ ∃ s, ¬ s ∈ M ∧ Cheap t s))
def outU : Fin US (Rsl × Err) → Rsl
  | .done s => ⟨2, [], 0, s.2.2.2.1⟩
  | .ret r => r.1
section
variable {t : Tsk} {ord : Nat → Nat} {N : Nat} {L : List (List Int)} {st : US}
theorem UI.set (hs : SmallOk t) (h : UI t ord N L st) : (marked L st.2.1).Nodup ∧ ((marked L st.2.1).length : Int) = st.2.2.2.1 ∧ ∀ s ∈ marked L st.2.1, Cheap t s := by
  have hE := h.exp hs
  have hE0 := h.exp0
  refine ⟨(nodup_of h.sq.reg.nodup).sublist (marked_sub _ _), ?_, fun s hm => ?_⟩
  · rw [marked_len L st.2.1 h.inv.lenf, h.inv.num, Int.toNat_of_nonneg h.exp0]
  · obtain ⟨i, hi, hb⟩ := marked_mem hm
    obtain ⟨c, hc⟩ := some_of_lt (l := st.1) (k := i) (by rw [h.inv.leng]; exact lt_of_get hi)
    obtain ⟨p, _, g2, _⟩ := h.inv.path hi hc
    have := h.inv.bound i c hc
    rw [Int.toNat_of_nonneg hE0] at this
    exact ⟨p, c, g2, by omega, h.co i c hb hc⟩
theorem UI.len (hs : SmallOk t) (h : UI t ord N L st) : st.2.2.2.2.2.l.length ≤ 90000 := by
  have h1 := h.exp hs
  have h2 := h.qlen
  have h3 := h.nn
  have := h.exp0
  omega
end
theorem mu_step {M K a q q' n : Nat} (ha : a < M) (h : (M - a) * K + q < n + 1) (hq : q' < K) : (M - (a + 1)) * K + q' < n := by
  obtain ⟨b, hb⟩ : ∃ b, M - a = b + 1 := ⟨M - a - 1, by omega⟩
  have hb' : M - (a + 1) = b := by omega
  rw [hb, Nat.add_mul, Nat.one_mul] at h
  rw [hb']
  omega
theorem u_all {t : Tsk} (hs : SmallOk t) (lim : Int) : ∀ (n : Nat) (st : US) (ord : Nat → Nat) (N : Nat) (L : List (List Int)), UI t ord N L st → st.2.2.2.1 ≤ max lim 0 → (513 - st.2.2.2.1.toNat) * 100000 + st.2.2.2.2.2.l.length < n → ∃ f, lop (uniF t lim) st = some f ∧ uniE f = some (outU f, ⟨0⟩) ∧ ResU t (max lim 0) (outU f) ∧ st.2.2.2.1 ≤ (outU f).expanded ∧ ∀ lim', (outU f).verdict ≠ 3 → (outU f).expanded ≤ lim' → lop (uniF t lim') st = some f := by
  intro n
  induction n with
  | zero => intro st ord N L _ _ hn; omega
  | succ n ih =>
    intro st ord N L h hsl hn
    have hE := h.exp hs
    have hE0 := h.exp0
    have hok := hs.ok
    obtain ⟨m1, m2, m3⟩ := h.set hs
    rcases u_step hs h with ⟨st', h1, h2, h3, h4⟩ | ⟨h1, h2⟩ | ⟨p, c, h1, h2, h3, h4⟩ | ⟨st', ord', N', L', h1, h2, h3, i, s, c, h4, h5, h6, h7, h8⟩
    · obtain ⟨f, f1, f0, f2, f3, f4⟩ := ih st' ord N L h2 (by omega) (by rw [h3]; omega)
      refine ⟨f, by rw [lop_eq, h1]; exact f1, f0, f2, by omega, fun lim' hv hl => ?_⟩
      rw [lop_eq, h1]; exact f4 lim' hv hl
    · have hnil : ∀ e, ¬ e ∈ qs st.2.2.2.2.2.l := fun e he => by
        have := List.length_pos_of_mem he
        rw [qs_len] at this
        omega
      refine ⟨.done st, by rw [lop_eq, h1], rfl, ⟨hE0, hsl, marked L st.2.1, m1, m2, m3, .inr (.inl ⟨rfl, rfl, rfl, fun C hw => ?_, fun s p c hp => ?_⟩)⟩, Int.le_refl _, fun lim' _ _ => by rw [lop_eq, h1]⟩
      · obtain ⟨e', m, _⟩ := h.inv.front hok (walkS_all hw) 0 0 h.inv.root h.inv.root0
        exact hnil e' m
      · rcases h.inv.ways hok hp 0 0 h.inv.root h.inv.root0 with ⟨e, m, _⟩ | ⟨i, i1, i2⟩
        · exact absurd m (hnil e)
        · exact mem_marked i1 i2
    · refine ⟨.ret (⟨1, p, c, st.2.2.2.1⟩, ⟨0⟩), by rw [lop_eq, h1], rfl, ⟨hE0, hsl, marked L st.2.1, m1, m2, m3, .inl ⟨rfl, h2, h3, fun C hw => ?_, fun s p' c' hp hlt => ?_⟩⟩, Int.le_refl _, fun lim' _ _ => by rw [lop_eq, h1]⟩
      · obtain ⟨e', m, k⟩ := h.inv.front hok (walkS_all hw) 0 0 h.inv.root h.inv.root0
        have := h4 e' m
        show c ≤ C
        omega
      · rcases h.inv.ways hok hp 0 0 h.inv.root h.inv.root0 with ⟨e, m, k⟩ | ⟨i, i1, i2⟩
        · have := h4 e m
          change c' < c at hlt
          omega
        · exact mem_marked i1 i2
    · by_cases hlim : lim ≤ st.2.2.2.1
      · refine ⟨.ret (⟨3, [], 0, st.2.2.2.1⟩, ⟨0⟩), by rw [lop_eq, h1, if_pos hlim], rfl, ⟨hE0, hsl, marked L st.2.1, m1, m2, m3, .inr (.inr ⟨rfl, rfl, rfl, by show max lim 0 ≤ st.2.2.2.1; omega, s, fun hm => ?_, ?_⟩)⟩, Int.le_refl _, fun lim' hv _ => absurd rfl hv⟩
        · obtain ⟨j, j1, j2⟩ := marked_mem hm
          have := h.sq.reg.nodup i j s h4 j1
          subst this
          rw [h5] at j2
          cases j2
        · obtain ⟨p, _, g2, _⟩ := h.inv.path h4 h6
          have := h.inv.bound i c h6
          rw [Int.toNat_of_nonneg hE0] at this
          exact ⟨p, c, g2, by omega, h8⟩
      · have hmany := h2.len hs
        obtain ⟨f, f1, f0, f2, f3, f4⟩ := ih st' ord' N' L' h2 (by omega) (by
          have : st'.2.2.2.1.toNat = st.2.2.2.1.toNat + 1 := by omega
          rw [this]; exact mu_step (by omega) hn (by omega))
        refine ⟨f, by rw [lop_eq, h1, if_neg hlim]; exact f1, f0, f2, by omega, fun lim' hv hl => ?_⟩
        rw [lop_eq, h1, if_neg (by omega)]; exact f4 lim' hv hl
theorem u_init {t : Tsk} {reg : Reg} (hr : RegI t.vars reg [t.init]) (hlk : links reg = [⟨-1, -1, 0⟩]) : UI t (fun _ => 0) 1 [t.init] (([0] : List Int), [false], 1, 0, ⟨t, reg, some ⟨t⟩⟩, (⟨[(⟨0, 0, 0⟩ : Itm)]⟩ : BQ)) := by
  have one : ∀ {α : Type} {a b : α} {i : Nat}, [a][i]? = some b → i = 0 ∧ b = a := fun {α a b i} h => by
    cases i with
    | zero => simp at h; exact ⟨rfl, h.symm⟩
    | succ i => simp at h
  refine ⟨⟨rfl, rfl, hr⟩, ?_, fun j x y hj hx => by have := (one hx).1; omega, by simp, by simp, by simp, by simp, (fun j c hj => by have := (one hj).2; cases this), by simp⟩
  dsimp only
  rw [hlk]
  refine ⟨rfl, rfl, rfl, rfl, rfl, fun i s k c hi hk hc => ?_, fun i hi => ?_, fun j c hj => ?_, fun e he => ?_, fun i c hi hc => ?_, fun i c hc => ?_, fun j s hj => ?_, fun j s q hj => ?_, rfl, fun i s hi => ?_, fun hE => by simp at hE⟩
  · obtain ⟨rfl, rfl⟩ := one hi
    obtain ⟨_, rfl⟩ := one hk
    obtain ⟨_, rfl⟩ := one hc
    exact .inl ⟨rfl, rfl, rfl⟩
  · have := (one hi).2; cases this
  · have := (one hj).2; cases this
  · have he' : e = toQ ⟨0, 0, 0⟩ := by simpa [qs] using he
    subst he'
    refine ⟨0, rfl, by simp, fun c hc => ?_⟩
    have := (one hc).2
    rw [this]
    decide
  · obtain ⟨rfl, _⟩ := one hi
    have := (one hc).2
    refine ⟨toQ ⟨0, 0, 0⟩, by simp [qs], ?_, rfl⟩
    rw [this]; rfl
  · have := (one hc).2
    rw [this]
    decide
  · have := (one hj).2; cases this
  · have := (one hj).2; cases this
  · obtain ⟨_, rfl⟩ := one hi; exact .init
theorem uniform_eq {t : Tsk} (hs : SmallOk t) (lim : Int) : ∃ r, m_breadth_Uniform t lim = some (r, ⟨0⟩) ∧ ResU t (max lim 0) r ∧ (r.verdict ≠ 3 → ∀ lim', r.expanded ≤ lim' → m_breadth_Uniform t lim' = some (r, ⟨0⟩)) := by
  obtain ⟨reg, b1, b2, b3⟩ := begin_ok hs.ok
  have unf : ∀ l, m_breadth_Uniform t l = bnd (lop (uniF t l) (([0] : List Int), [false], 1, 0, (⟨t, reg, some ⟨t⟩⟩ : Spc), (⟨[(⟨0, 0, 0⟩ : Itm)]⟩ : BQ))) uniE := fun l => by
    rw [uni_unf, b1, bnd_some, if_neg (by simp), bnd_some]
  obtain ⟨f, f1, f0, f2, f3, f4⟩ := u_all hs lim _ _ _ _ _ (u_init b2 b3) (by dsimp only; omega) (Nat.lt_succ_self _)
  refine ⟨outU f, by rw [unf, f1, bnd_some, f0], f2, fun hv lim' hl => ?_⟩
  rw [unf, f4 lim' hv hl, bnd_some, f0]
/-- With as many states as there are, a search is never unknown. -/
theorem uni_enough {t : Tsk} (hs : SmallOk t) {m : Int} {r : Rsl} (h : ResU t m r) (hm : 512 ≤ m) : r.verdict ≠ 3 := fun hv => by
  obtain ⟨_, _, M, m1, m2, m3, h1 | h1 | ⟨_, _, _, h4, s, h5, h6⟩⟩ := h
  · omega
  · omega
  · have h7 : (s :: M).length ≤ (statesL t.vars).length := nodup_len (List.nodup_cons.2 ⟨h5, m1⟩) fun s' hm' => by
      have hc : Cheap t s' := by
        rcases List.mem_cons.1 hm' with rfl | hm'
        · exact h6
        · exact m3 s' hm'
      obtain ⟨p, c, hp, _⟩ := hc
      exact mem_statesL.2 ((hp.rch .init).ok hs.ok)
    have := hs.many
    rw [List.length_cons] at h7
    omega
theorem uni_right {t : Tsk} (h : SmallOk t) {m : Int} {r : Rsl} (hr : ResU t m r) (hv : r.verdict ≠ 3) {b : Int} (hbw : b < Inf → Walk t t.init b) (hbl : ∀ C, Walk t t.init C → b ≤ C) : m_base_Result t r b = some true := by
  obtain ⟨_, _, M, _, _, _, ⟨h1, h2, ⟨s', h3, h4⟩, h5, _⟩ | ⟨h1, h2, h3, h4, _⟩ | ⟨h1, _⟩⟩ := hr
  · exact result_1 h hbw hbl h1 (by omega) h3 h4 h5
  · exact result_2 hbw h1 h2 h3 h4
  · exact absurd h1 hv
end
section
open Go Go.RowKit
attribute [local irreducible] ewp owp hwp hwq hws Ev Evg Fn retPost loud loudS Res1
attribute [local irreducible] hwx loudX
noncomputable def m_law48_BreadthUniform (x0 : Tsk) : Option Bool :=
  bnd (bnd (m_base_Small x0) fun q28 => if q28 = true then bnd (m_law48_awake) fun q35 => if q35 = true then some false else some true else some true : Option Bool) fun y24 => if y24 = true then (bnd (bnd (m_law48_awake) fun q51 => if q51 = true then some true else some false : Option Bool) fun y47 => some y47) else (bnd (m_breadth_Uniform x0 512) fun q62 => bnd (if q62.2.n = 0 then (bnd (m_base_Best x0) fun q94 => bnd (m_base_Result x0 q62.1 q94) fun q102 => if q102 = true then some true else some false) else (some false) : Option Bool) fun y89 => some y89)
theorem c_law48_BreadthUniform {w : World} {A : Nat → Prop} (hA : ∀ k, A k → k < w.heap.size) {vx0 : Value} {x0 : Tsk} (hx0 : Vb w A vx0 x0) {r : Bool} (hm : m_law48_BreadthUniform x0 = some r) :
    Fn Try.prog 5 [vx0] w fun v w' => Ext w w' ∧ Vb w' (upA A w w') v r := by
 obtain ⟨O, hB, hA0⟩ := enter hA
 replace hx0 := hx0.mono hA0
 obtain ⟨cs2, rfl, v3, v4, v5, v6, rfl, h7, h10, h13, h16⟩ := hx0
 obtain ⟨A8, c9, rfl⟩ := h7.form
 obtain ⟨A11, c12, rfl⟩ := h10.form
 obtain ⟨A14, c15, rfl⟩ := h13.form
 obtain ⟨A17, c18, rfl⟩ := h16.form
 refine fn_enter Try.func5 rfl Try.ntmps5 rfl ?_
 unfold m_law48_BreadthUniform at hm
 refine ewp_seq (ewp_region (l_box 2 O rfl rfl fun g19 w20 O21 S22 h23 => ?_))
 replace h23 : Lc 2 w20 O21 g19 26 [(.slice A8 x0.vars.length c9), (.slice A11 x0.init.length c12), (.slice A14 x0.goal.length c15), (.slice A17 x0.ops.length c18)] := h23
 refine o_as rfl rfl (o_z ?_)
 refine ewp_seq (ewp_seq ?_)
 obtain ⟨y24, hy25, hm⟩ := bs hm
 refine ewp_join (fun l' w' => ∃ (x27 : Unit) (O' : Lab), subs l' [(1, (.pointer (some ⟨g19, 0, none⟩))), (11, (.bool y24))] ∧ Bs w A w' O' ∧ Lc 2 w' O' g19 26 [(.slice A8 x0.vars.length c9), (.slice A11 x0.init.length c12), (.slice A14 x0.goal.length c15), (.slice A17 x0.ops.length c18)] ∧ Vb w' (Fr 0 w' O') (.slice A8 x0.vars.length c9) x0.vars ∧ Vb w' (Fr 0 w' O') (.slice A11 x0.init.length c12) x0.init ∧ Vb w' (Fr 0 w' O') (.slice A14 x0.goal.length c15) x0.goal ∧ Vb w' (Fr 0 w' O') (.slice A17 x0.ops.length c18) x0.ops) ?_ ?_
 ·
  refine ewp_region (o_la (hl := rfl) (hc := (h23.1).cellsAt) rfl rfl ?_)
  obtain ⟨q28, e29, hy25⟩ := bs hy25
  replace h7 := h7.st S22
  replace h10 := h10.st S22
  replace h13 := h13.st S22
  replace h16 := h16.st S22
  refine l_callA (O := O21) (A := All w20) (R := fun w' F v => Vb w' F v q28) (c_base_Small (fun _ h => h) (Vb.mono (F := Fr 0 w20 O21) (Vb.ofAgg (cs := [(.slice A8 x0.vars.length c9), (.slice A11 x0.init.length c12), (.slice A14 x0.goal.length c15), (.slice A17 x0.ops.length c18)]) (x := x0) rfl ⟨_, _, _, _, rfl, h7, h10, h13, h16⟩) Fr.lt) e29) rfl rfl fun v34 w30 O31 S32 h33 => ?_
  obtain rfl := h33.bool
  cases q28
  case false =>
   replace hy25 := iF hy25
   refine o_nf rfl rfl (o_mv rfl rfl (owp_no rfl rfl rfl rfl (owp_no rfl rfl rfl rfl (o_pt rfl rfl rfl (o_z ?_)))))
   obtain rfl := sm hy25
   replace hB := (hB.st S22).st S32
   replace h7 := h7.st S32
   replace h10 := h10.st S32
   replace h13 := h13.st S32
   replace h16 := h16.st S32
   replace h23 := h23.st S32
   exact ⟨(), _, ⟨rfl, rfl, trivial⟩, hB, h23, h7, h10, h13, h16⟩
  replace hy25 := iT hy25
  refine o_nt rfl rfl (o_mv rfl rfl (owp_yes rfl rfl ?_))
  obtain ⟨q35, e36, hy25⟩ := bs hy25
  refine l_callA (O := O31) (A := All w30) (R := fun w' F v => Vb w' F v q35) (c_law48_awake (fun _ h => h)  e36) rfl rfl fun v41 w37 O38 S39 h40 => ?_
  obtain rfl := h40.bool
  cases q35
  case false =>
   replace hy25 := iF hy25
   refine owp_yes rfl rfl (o_nf rfl rfl (o_pf rfl rfl rfl (o_z ?_)))
   obtain rfl := sm hy25
   replace hB := ((hB.st S22).st S32).st S39
   replace h7 := (h7.st S32).st S39
   replace h10 := (h10.st S32).st S39
   replace h13 := (h13.st S32).st S39
   replace h16 := (h16.st S32).st S39
   replace h23 := (h23.st S32).st S39
   exact ⟨(), _, ⟨rfl, rfl, trivial⟩, hB, h23, h7, h10, h13, h16⟩
  replace hy25 := iT hy25
  refine owp_yes rfl rfl (o_nt rfl rfl (o_pf rfl rfl rfl (o_z ?_)))
  obtain rfl := sm hy25
  replace hB := ((hB.st S22).st S32).st S39
  replace h7 := (h7.st S32).st S39
  replace h10 := (h10.st S32).st S39
  replace h13 := (h13.st S32).st S39
  replace h16 := (h16.st S32).st S39
  replace h23 := (h23.st S32).st S39
  exact ⟨(), _, ⟨rfl, rfl, trivial⟩, hB, h23, h7, h10, h13, h16⟩
 replace hB := hB.st S22
 replace h7 := h7.st S22
 replace h10 := h10.st S22
 replace h13 := h13.st S22
 replace h16 := h16.st S22
 rintro l42 w43 ⟨x27, O44, hs45, hB, h23, h7, h10, h13, h16⟩
 refine ewp_sub _ hs45 ?_
 refine ewp_cond rfl (fun c46 => ?_) (fun c46 => ?_)
 ·
  replace hm := ip hm c46
  refine ewp_seq ?_
  obtain ⟨y47, hy48, hm⟩ := bs hm
  refine ewp_join (fun l' w' => ∃ (x50 : Unit) (O' : Lab), subs l' [(2, (.bool y47))] ∧ Bs w A w' O') ?_ ?_
  ·
   refine ewp_region ?_
   obtain ⟨q51, e52, hy48⟩ := bs hy48
   refine l_callA (O := O44) (A := All w43) (R := fun w' F v => Vb w' F v q51) (c_law48_awake (fun _ h => h)  e52) rfl rfl fun v57 w53 O54 S55 h56 => ?_
   obtain rfl := h56.bool
   cases q51
   case false =>
    replace hy48 := iF hy48
    refine o_as rfl rfl (o_z ?_)
    obtain rfl := sm hy48
    replace hB := hB.st S55
    exact ⟨(), _, ⟨rfl, trivial⟩, hB⟩
   replace hy48 := iT hy48
   refine o_as rfl rfl (o_z ?_)
   obtain rfl := sm hy48
   replace hB := hB.st S55
   exact ⟨(), _, ⟨rfl, trivial⟩, hB⟩
  rintro l58 w59 ⟨x50, O60, hs61, hB⟩
  refine ewp_sub _ hs61 ?_
  refine ewp_ret ?_
  obtain rfl := sm hm
  exact ret1v rfl (res_tmp rfl) ⟨hB.ext, vBool⟩
 ·
  replace hm := im' hm c46
  refine ewp_skip (ewp_seq (ewp_region (o_la (hl := rfl) (hc := (h23.1).cellsAt) rfl rfl ?_)))
  obtain ⟨q62, e63, hm⟩ := bs hm
  refine l_call (O := O44) (R := fun w' F v => T2 w' F v q62) (c_breadth_Uniform Fr.lt (Vb.ofAgg (cs := [(.slice A8 x0.vars.length c9), (.slice A11 x0.init.length c12), (.slice A14 x0.goal.length c15), (.slice A17 x0.ops.length c18)]) (x := x0) rfl ⟨_, _, _, _, rfl, h7, h10, h13, h16⟩) (show inI64 (512) from by decide) e63) rfl rfl fun v68 w64 O65 S66 h67 => ?_
  obtain ⟨v69, v70, rfl, h71, h72⟩ := h67
  obtain ⟨cs73, rfl, v74, rfl, h75, r78, r79, r80⟩ := h71
  obtain ⟨A76, c77, rfl⟩ := h75.form
  obtain ⟨rfl, r81⟩ := h72.err
  refine o_mv rfl rfl (o_ex rfl rfl rfl (o_ex rfl rfl rfl (l_alloc 3 O65 rfl fun g82 w83 O84 S85 h86 => ?_)))
  refine l_store h86 rfl rfl rfl (Nat.le_of_ble_eq_true rfl) (by first | exact allOne rfl | simp [Value.cells, Value.oneCell', errV_one]) fun w87 S88 h86 => ?_
  replace h86 : Lc 3 w87 O84 g82 30 [(.int .i64 q62.1.verdict), (.slice A76 q62.1.plan.length c77), (.int .i64 q62.1.cost), (.int .i64 q62.1.expanded)] := h86
  refine o_as rfl rfl (o_z ?_)
  refine ewp_seq ?_
  obtain ⟨y89, hy90, hm⟩ := bs hm
  refine ewp_join (fun l' w' => ∃ (x92 : Unit) (O' : Lab), subs l' [(2, (.bool y89))] ∧ Bs w A w' O') ?_ ?_
  ·
   refine ewp_drawX [(6, []), (7, [])] O84 ?_
   refine x_pre (fuel := 4) [] [(0, true), (1, true), (2, true), (3, true), (4, true), (5, true)] (by kernel_rfl) rfl ?_
   refine h_mv rfl rfl rfl (hwp_o rfl (hwq_split (fun _ _ => ev_errE rfl) rfl (fun c93 => ?_) (fun c93 => ?_)))
   ·
    replace hy90 := ip hy90 c93
    refine h_mv rfl rfl rfl (hwp_o rfl (hwq_yes rfl rfl ?_))
    replace h23 := ((h23.st S66).st S85).st S88
    refine g_laB (hl := rfl) (hb := fun w' ⟨O', hq⟩ => ((h23.st hq (by decide)).1).cellsAt) rfl rfl ?_
    refine hwp_o rfl (hwq_yes rfl rfl (g_laB (hl := rfl) (hb := fun w' ⟨O', hq⟩ => ((h86.st hq (by decide)).1).cellsAt) rfl rfl ?_))
    refine hwp_o rfl (hwq_yes rfl rfl (g_laB (hl := rfl) (hb := fun w' ⟨O', hq⟩ => ((h23.st hq (by decide)).1).cellsAt) rfl rfl ?_))
    refine hwp_nilT ?_
    refine x_one (i := 6) (by kernel_rfl) rfl ?_
    refine owp_yes rfl rfl ?_
    obtain ⟨q94, e95, hy90⟩ := bs hy90
    replace h7 := ((h7.st S66).st S85).st S88
    replace h10 := ((h10.st S66).st S85).st S88
    replace h13 := ((h13.st S66).st S85).st S88
    replace h16 := ((h16.st S66).st S85).st S88
    refine l_callA (O := O84) (A := All w87) (R := fun w' F v => Vb w' F v q94) (c_base_Best (fun _ h => h) (Vb.mono (F := Fr 0 w87 O84) (Vb.ofAgg (cs := [(.slice A8 x0.vars.length c9), (.slice A11 x0.init.length c12), (.slice A14 x0.goal.length c15), (.slice A17 x0.ops.length c18)]) (x := x0) rfl ⟨_, _, _, _, rfl, h7, h10, h13, h16⟩) Fr.lt) e95) rfl rfl fun v100 w96 O97 S98 h99 => ?_
    obtain ⟨rfl, r101⟩ := h99.int
    have hZ := S98.lst [] (fun _ h => h.elim)
    refine x_go [(7, [])] hZ (by kernel_rfl) ?_
    refine x_one (i := 7) (by kernel_rfl) rfl ?_
    refine owp_yes rfl rfl ?_
    obtain ⟨q102, e103, hy90⟩ := bs hy90
    replace h7 := h7.st S98
    replace h10 := h10.st S98
    replace h13 := h13.st S98
    replace h16 := h16.st S98
    replace h75 := ((h75.st S85).st S88).st S98
    refine l_callA (O := O97) (A := All w96) (R := fun w' F v => Vb w' F v q102) (c_base_Result (fun _ h => h) (Vb.mono (F := Fr 0 w96 O97) (Vb.ofAgg (cs := [(.slice A8 x0.vars.length c9), (.slice A11 x0.init.length c12), (.slice A14 x0.goal.length c15), (.slice A17 x0.ops.length c18)]) (x := x0) rfl ⟨_, _, _, _, rfl, h7, h10, h13, h16⟩) Fr.lt) (Vb.mono (F := Fr 0 w96 O97) (Vb.ofAgg (cs := [(.int .i64 q62.1.verdict), (.slice A76 q62.1.plan.length c77), (.int .i64 q62.1.cost), (.int .i64 q62.1.expanded)]) (x := q62.1) rfl ⟨_, rfl, h75, r78, r79, r80⟩) Fr.lt) r101 e103) rfl rfl fun v108 w104 O105 S106 h107 => ?_
    obtain rfl := h107.bool
    have hZ := S106.lst [] (fun _ h => h.elim)
    cases q102
    case false =>
     replace hy90 := iF hy90
     refine x_go [] hZ (by kernel_rfl) ?_
     refine x_pre (fuel := 0) [] [(8, true), (9, true)] (by kernel_rfl) rfl ?_
     refine h_pt rfl rfl rfl rfl (h_as rfl rfl rfl (hwp_nilT ?_))
     refine x_nil (by kernel_rfl) ?_
     obtain rfl := sm hy90
     replace hB := ((((hB.st S66).st S85).st S88).st S98).st S106
     exact ⟨(), _, ⟨rfl, trivial⟩, hB⟩
    replace hy90 := iT hy90
    refine x_go [] hZ (by kernel_rfl) ?_
    refine x_pre (fuel := 0) [] [(8, true), (9, true)] (by kernel_rfl) rfl ?_
    refine h_pt rfl rfl rfl rfl (h_as rfl rfl rfl (hwp_nilT ?_))
    refine x_nil (by kernel_rfl) ?_
    obtain rfl := sm hy90
    replace hB := ((((hB.st S66).st S85).st S88).st S98).st S106
    exact ⟨(), _, ⟨rfl, trivial⟩, hB⟩
   ·
    replace hy90 := im hy90 c93
    refine h_mv rfl rfl rfl (h_no rfl rfl rfl rfl rfl (h_no rfl rfl rfl rfl rfl (h_no rfl rfl rfl rfl rfl (hwp_nilT ?_))))
    refine x_one (i := 6) (by kernel_rfl) rfl ?_
    refine owp_no rfl rfl rfl rfl (x_go [(7, [])] ((St.refl nT _ _).lst [] (fun _ h => h.elim)) (by kernel_rfl) ?_)
    refine x_one (i := 7) (by kernel_rfl) rfl ?_
    refine owp_no rfl rfl rfl rfl (x_go [] ((St.refl nT _ _).lst [] (fun _ h => h.elim)) (by kernel_rfl) ?_)
    refine x_pre (fuel := 0) [] [(8, true), (9, true)] (by kernel_rfl) rfl ?_
    refine h_pf rfl rfl rfl rfl (h_as rfl rfl rfl (hwp_nilT ?_))
    refine x_nil (by kernel_rfl) ?_
    obtain rfl := sm hy90
    replace hB := ((hB.st S66).st S85).st S88
    exact ⟨(), _, ⟨rfl, trivial⟩, hB⟩
  replace hB := ((hB.st S66).st S85).st S88
  rintro l109 w110 ⟨x92, O111, hs112, hB⟩
  refine ewp_sub _ hs112 ?_
  refine ewp_ret ?_
  obtain rfl := sm hm
  exact ret1v rfl (res_tmp rfl) ⟨hB.ext, vBool⟩
end
section
open Go Go.RowKit
def Le {α : Type} (x y : Option α) : Prop := ∀ r, x = some r → y = some r
theorem Le.rf {α : Type} {x : Option α} : Le x x := fun _ h => h
theorem Le.bnd {α β : Type} {x x' : Option α} {f f' : α → Option β} (h : Le x x') (hf : ∀ a, Le (f a) (f' a)) : Le (bnd x f) (bnd x' f') := fun r hr => by
  obtain ⟨a, ha, hb⟩ := bs hr
  rw [h a ha, bnd_some]
  exact hf a r hb
theorem Le.ite {α : Type} {p : Prop} [Decidable p] {x x' y y' : Option α} (h : Le x x') (k : Le y y') : Le (if p then x else y) (if p then x' else y') := by
  by_cases hp : p
  · rw [if_pos hp, if_pos hp]; exact h
  · rw [if_neg hp, if_neg hp]; exact k
theorem Le.fin {σ κ : Type} {y : Fin σ κ} {f f' : σ → Option κ} (hf : ∀ a, Le (f a) (f' a)) : Le (fin y f) (fin y f') := by
  cases y with
  | done s => exact hf s
  | ret c => exact Le.rf
theorem Le.rng {α σ ρ : Type} {f f' : Nat → α → σ → Option (Ctl σ ρ)} (hf : ∀ k a s, Le (f k a s) (f' k a s)) : ∀ {xs : List α} {k : Nat} {s : σ}, Le (rng f xs k s) (rng f' xs k s)
  | [], _, _ => Le.rf
  | x :: xs, k, s => fun r hr => by
    simp only [Proofs.Ythomfnkaicjmbaa.rng] at hr ⊢
    cases hc : f k x s with
    | none => rw [hc] at hr; cases hr
    | some c =>
      rw [hc] at hr
      rw [hf k x s c hc]
      cases c with
      | next s' => exact Le.rng hf r hr
      | brk s' => exact hr
      | ret q => exact hr
theorem Le.rngN {σ ρ : Type} {f f' : Nat → σ → Option (Ctl σ ρ)} {n : Nat} {s : σ} (hf : ∀ k s, Le (f k s) (f' k s)) : Le (rngN f n s) (rngN f' n s) := Le.rng fun _ k s => hf k s
theorem Le.itr {σ ρ : Type} {f f' : σ → Option (Ctl σ ρ)} (hf : ∀ s, Le (f s) (f' s)) : ∀ (n : Nat) (s : σ), Le (itr f n s) (itr f' n s)
  | 0, _ => Le.rf
  | n + 1, s => fun r hr => by
    simp only [Proofs.Ythomfnkaicjmbaa.itr] at hr ⊢
    cases hc : f s with
    | none => rw [hc] at hr; cases hr
    | some c =>
      rw [hc] at hr
      rw [hf s c hc]
      cases c with
      | next s' => exact Le.itr hf n s' r hr
      | brk s' => exact hr
      | ret q => exact hr
def lopE {σ ρ : Type} (f : σ → Option (Ctl σ ρ)) (s : σ) : Option (Fin σ ρ) := itr f 600 s
theorem Le.lop {σ ρ : Type} {f f' : σ → Option (Ctl σ ρ)} {s : σ} (hf : ∀ s, Le (f s) (f' s)) : Le (lopE f s) (lop f' s) := fun r hr => lop_some.2 ⟨600, Le.itr hf 600 s r hr⟩
end
section
open Go Go.RowKit
def factB (vars : List Int) (x : Fct) : Bool := decide (0 ≤ x.var) && (decide (0 ≤ x.val) && (match vars[x.var.toNat]? with | some y => decide (x.val < y) | none => false))
theorem factB_ok {vars : List Int} {x : Fct} (h : factB vars x = true) : FactOk vars x := by
  unfold factB at h
  simp only [Bool.and_eq_true, decide_eq_true_eq] at h
  obtain ⟨h1, h2, h3⟩ := h
  cases hv : vars[x.var.toNat]? with
  | none => rw [hv] at h3; cases h3
  | some y => rw [hv] at h3; exact ⟨h1, h2, y, hv, by simpa using h3⟩
def ascB : List Fct → Bool
  | x :: y :: r => decide (x.var < y.var) && ascB (y :: r)
  | _ => true
theorem ascB_ok : ∀ {f : List Fct}, ascB f = true → ∀ (i : Nat) x y, f[i]? = some x → f[i + 1]? = some y → x.var < y.var
  | [], _, i, x, y, h, _ => by simp at h
  | [_], _, i, x, y, _, h => by simp at h
  | a :: b :: r, h, i, x, y, h1, h2 => by
    simp only [ascB, Bool.and_eq_true, decide_eq_true_eq] at h
    cases i with
    | zero => simp at h1 h2; subst h1; subst h2; exact h.1
    | succ i => exact ascB_ok h.2 i x y (by simpa using h1) (by simpa using h2)
def factsB (vars : List Int) (f : List Fct) : Bool := f.all (factB vars) && ascB f
theorem factsB_ok {vars : List Int} {f : List Fct} (h : factsB vars f = true) : FactsOk vars f := by
  unfold factsB at h
  rw [Bool.and_eq_true, List.all_eq_true] at h
  exact ⟨fun i x hx => factB_ok (h.1 x (List.mem_of_getElem? hx)), ascB_ok h.2⟩
def stateB : List Int → List Int → Bool
  | [], [] => true
  | y :: vars, x :: s => decide (0 ≤ x) && (decide (x < y) && stateB vars s)
  | _, _ => false
theorem stateB_ok : ∀ {vars s : List Int}, stateB vars s = true → StateOk vars s
  | [], [], _ => ⟨rfl, fun i x y h => by simp at h⟩
  | y :: vars, x :: s, h => by
    simp only [stateB, Bool.and_eq_true, decide_eq_true_eq] at h
    obtain ⟨h1, h2⟩ := stateB_ok h.2.2
    refine ⟨by simp [h1], fun i a b ha hb => ?_⟩
    cases i with
    | zero => simp at ha hb; subst ha; subst hb; exact ⟨h.1, h.2.1⟩
    | succ i => exact h2 i a b (by simpa using ha) (by simpa using hb)
  | [], _ :: _, h => by simp [stateB] at h
  | _ :: _, [], h => by simp [stateB] at h
def nameB (s : ByteArray) : Bool := decide (s.size ≤ 256) && s.data.toList.all fun c => decide (32 ≤ c.toNat) && decide (c.toNat ≤ 126)
theorem nameB_ok {s : ByteArray} (h : nameB s = true) : NameOk s := by
  unfold nameB at h
  simp only [Bool.and_eq_true, decide_eq_true_eq, List.all_eq_true] at h
  refine ⟨h.1, fun i hi => h.2 _ ?_⟩
  show s.data[i] ∈ _
  simp
def opB (vars : List Int) (o : Opr) : Bool := decide (0 ≤ o.cost) && (decide (o.cost ≤ 1048576) && (decide (o.effs.length ≤ 64) && (nameB o.name && (factsB vars o.pre && o.effs.all fun e => factsB vars e.cond && factB vars ⟨e.var, e.val⟩))))
theorem opB_ok {vars : List Int} {o : Opr} (h : opB vars o = true) : OpOk vars o := by
  unfold opB at h
  simp only [Bool.and_eq_true, decide_eq_true_eq, List.all_eq_true] at h
  obtain ⟨h1, h2, h3, h4, h5, h6⟩ := h
  exact ⟨h1, h2, h3, nameB_ok h4, factsB_ok h5, fun i e he => ⟨factsB_ok (h6 e (List.mem_of_getElem? he)).1, factB_ok (h6 e (List.mem_of_getElem? he)).2⟩⟩
def taskB (t : Tsk) : Bool := decide (t.vars.length ≤ 64) && (decide (t.ops.length ≤ 4096) && ((t.vars.all fun n => decide (1 ≤ n) && decide (n ≤ 64)) && (stateB t.vars t.init && (factsB t.vars t.goal && t.ops.all (opB t.vars)))))
theorem taskB_ok {t : Tsk} (h : taskB t = true) : TaskOk t := by
  unfold taskB at h
  simp only [Bool.and_eq_true, decide_eq_true_eq, List.all_eq_true] at h
  obtain ⟨h1, h2, h3, h4, h5, h6⟩ := h
  exact ⟨h1, h2, fun i n hn => h3 n (List.mem_of_getElem? hn), stateB_ok h4, factsB_ok h5, fun i o ho => opB_ok (h6 o (List.mem_of_getElem? ho))⟩
def e_base_Ints (x y : List Int) : Option Bool := some (decide (x = y))
theorem le_base_Ints (x y : List Int) : Le (e_base_Ints x y) (m_base_Ints x y) := fun r h => by
  unfold e_base_Ints at h
  unfold m_base_Ints
  rw [← h]
  by_cases hx : x = y
  · rw [bof_t hx]; simp [hx]
  · rw [bof_f hx]; simp [hx]
def e_task_Holds (f : List Fct) (s : List Int) : Option Bool := m_task_Holds f s
theorem le_task_Holds (f : List Fct) (s : List Int) : Le (e_task_Holds f s) (m_task_Holds f s) := Le.rf
def e_base_Holds (f : List Fct) (s : List Int) : Option Bool := m_base_Holds f s
theorem le_base_Holds (f : List Fct) (s : List Int) : Le (e_base_Holds f s) (m_base_Holds f s) := Le.rf
def e_slices_Clone_Lint_int (x : List Int) : Option (List Int) := m_slices_Clone_Lint_int x
theorem le_slices_Clone_Lint_int (x : List Int) : Le (e_slices_Clone_Lint_int x) (m_slices_Clone_Lint_int x) := Le.rf
end
section
open Go Go.RowKit
set_option maxRecDepth 20000
def e_slices_Clone_Luint64_uint64 (x : List U64) : Option (List U64) := m_slices_Clone_Luint64_uint64 x
theorem le_slices_Clone_Luint64_uint64 (x : List U64) : Le (e_slices_Clone_Luint64_uint64 x) (m_slices_Clone_Luint64_uint64 x) := Le.rf
def e_succgen_New (t : Tsk) : Option (Option Gnr × Err) := if taskB t = true then some (some ⟨t⟩, ⟨0⟩) else none
theorem le_succgen_New (t : Tsk) : Le (e_succgen_New t) (m_succgen_New t) := fun r h => by
  obtain ⟨h1, rfl⟩ := ite_some h
  exact new_ok (taskB_ok h1)
def e_succgen_Generator_Applicable (x : Option Gnr) (s : List Int) : Option (List Int) := match x with
  | some g => if stateB g.t.vars s = true then (if s.length ≤ 1000000 then some (appl g.t s) else none) else none
  | none => none
theorem le_succgen_Generator_Applicable (x : Option Gnr) (s : List Int) : Le (e_succgen_Generator_Applicable x s) (m_succgen_Generator_Applicable x s) := fun r h => by
  cases x with
  | none => cases h
  | some g =>
    unfold e_succgen_Generator_Applicable at h
    dsimp only at h
    split at h
    · rename_i h1
      obtain ⟨h3, rfl⟩ := ite_some h
      unfold m_succgen_Generator_Applicable
      rw [if_pos h3]
      show some (appS g.t s) = _
      rw [appS_ok (stateB_ok h1)]
    · cases h
noncomputable def e_breadth_queue_Len (x0 : List Itm) : Option Int :=
  some (x0.length : Int)
theorem le_breadth_queue_Len (x0 : List Itm) : Le (e_breadth_queue_Len x0) (m_breadth_queue_Len x0) := by
  unfold e_breadth_queue_Len m_breadth_queue_Len
  repeat' (first | apply Le.ite | apply Le.bnd | apply Le.fin | apply Le.rng | apply Le.rngN | apply Le.lop | exact Le.rf | intro _)
noncomputable def e_breadth_queue_Less (x0 : List Itm) (x1 : Int) (x2 : Int) : Option Bool :=
  bnd (bnd (atI x0 x1) fun a10 => bnd (atI x0 x2) fun a24 => if a10.cost < a24.cost then (some true) else (bnd (atI x0 x1) fun a39 => bnd (atI x0 x2) fun a53 => if a39.cost = a53.cost then (bnd (atI x0 x1) fun a68 => bnd (atI x0 x2) fun a82 => if a68.order < a82.order then (some true) else (some false)) else (some false)) : Option Bool) fun y6 => some y6
theorem le_breadth_queue_Less (x0 : List Itm) (x1 : Int) (x2 : Int) : Le (e_breadth_queue_Less x0 x1 x2) (m_breadth_queue_Less x0 x1 x2) := by
  unfold e_breadth_queue_Less m_breadth_queue_Less
  repeat' (first | apply Le.ite | apply Le.bnd | apply Le.fin | apply Le.rng | apply Le.rngN | apply Le.lop | exact Le.rf | intro _)
noncomputable def e_breadth_queue_Swap (x0 : List Itm) (x1 : Int) (x2 : Int) : Option (List Itm) :=
  bnd (atI x0 x2) fun a4 => bnd (atI x0 x1) fun a18 => bnd (atI x0 x1) fun a32 => bnd (atI (x0.set (x1 : Int).toNat a4) x2) fun a48 => some ((x0.set (x1 : Int).toNat a4).set (x2 : Int).toNat a18)
theorem le_breadth_queue_Swap (x0 : List Itm) (x1 : Int) (x2 : Int) : Le (e_breadth_queue_Swap x0 x1 x2) (m_breadth_queue_Swap x0 x1 x2) := by
  unfold e_breadth_queue_Swap m_breadth_queue_Swap
  repeat' (first | apply Le.ite | apply Le.bnd | apply Le.fin | apply Le.rng | apply Le.rngN | apply Le.lop | exact Le.rf | intro _)
noncomputable def e_breadth_queue_Push (x0 : BxR 98 96 Itm) (x1 : An 96 Itm) : Option (BxR 98 96 Itm) :=
  bnd (appI 24 x0.l [x1.x]) fun u31 => some (⟨u31⟩ : BxR 98 96 Itm)
theorem le_breadth_queue_Push (x0 : BxR 98 96 Itm) (x1 : An 96 Itm) : Le (e_breadth_queue_Push x0 x1) (m_breadth_queue_Push x0 x1) := by
  unfold e_breadth_queue_Push m_breadth_queue_Push
  repeat' (first | apply Le.ite | apply Le.bnd | apply Le.fin | apply Le.rng | apply Le.rngN | apply Le.lop | exact Le.rf | intro _)
noncomputable def e_breadth_queue_Pop (x0 : BxR 98 96 Itm) : Option ((An 96 Itm) × (BxR 98 96 Itm)) :=
  bnd (chkI ((x0.l.length : Int) - 1)) fun n13 => bnd (atI x0.l n13) fun a16 => bnd (cutI x0.l 0 n13) fun u37 => some ((⟨a16⟩ : An 96 Itm), (⟨u37⟩ : BxR 98 96 Itm))
theorem le_breadth_queue_Pop (x0 : BxR 98 96 Itm) : Le (e_breadth_queue_Pop x0) (m_breadth_queue_Pop x0) := by
  unfold e_breadth_queue_Pop m_breadth_queue_Pop
  repeat' (first | apply Le.ite | apply Le.bnd | apply Le.fin | apply Le.rng | apply Le.rngN | apply Le.lop | exact Le.rf | intro _)
noncomputable def e_container_heap_up (x0 : BxR 98 96 Itm) (x1 : Int) : Option (BxR 98 96 Itm) :=
  bnd (lopE (ρ := (BxR 98 96 Itm)) (fun (s5 : Int × (BxR 98 96 Itm)) => bnd (chkI (s5.1 - 1)) fun n22 => bnd (quoT n22 2) fun n25 => bnd (if n25 = s5.1 then (some true) else (bnd (e_breadth_queue_Less s5.2.l s5.1 n25) fun q42 => if q42 = true then some false else some true) : Option Bool) fun y28 => if y28 = true then (some (.brk (s5.1, s5.2))) else (bnd (e_breadth_queue_Swap s5.2.l n25 s5.1) fun q73 => some (.next (n25, (⟨q73⟩ : BxR 98 96 Itm))))) (x1, x0)) fun res3 => fin res3 fun (s90 : Int × (BxR 98 96 Itm)) => some s90.2
theorem le_container_heap_up (x0 : BxR 98 96 Itm) (x1 : Int) : Le (e_container_heap_up x0 x1) (m_container_heap_up x0 x1) := by
  unfold e_container_heap_up m_container_heap_up
  repeat' (first | apply le_breadth_queue_Less | apply le_breadth_queue_Swap | apply Le.ite | apply Le.bnd | apply Le.fin | apply Le.rng | apply Le.rngN | apply Le.lop | exact Le.rf | intro _)
noncomputable def e_container_heap_down (x0 : BxR 98 96 Itm) (x1 : Int) (x2 : Int) : Option (Bool × (BxR 98 96 Itm)) :=
  bnd (lopE (ρ := Bool × (BxR 98 96 Itm)) (fun (s6 : Int × (BxR 98 96 Itm)) => bnd (chkI (2 * s6.1)) fun n23 => bnd (chkI (n23 + 1)) fun n26 => bnd (if x2 ≤ n26 then (some true) else (if n26 < 0 then (some true) else (some false)) : Option Bool) fun y29 => if y29 = true then (some (.brk (s6.1, s6.2))) else (bnd (bnd (chkI (n26 + 1)) fun n45 => bnd (if n45 < x2 then (bnd (e_breadth_queue_Less s6.2.l n45 n26) fun q62 => if q62 = true then some true else some false) else (some false) : Option Bool) fun y48 => if y48 = true then (some n45) else (some n26) : Option Int) fun y40 => bnd (e_breadth_queue_Less s6.2.l y40 s6.1) fun q97 => if q97 = true then bnd (e_breadth_queue_Swap s6.2.l s6.1 y40) fun q109 => some (.next (y40, (⟨q109⟩ : BxR 98 96 Itm))) else some (.brk (s6.1, s6.2)))) (x1, x0)) fun res4 => fin res4 fun (s126 : Int × (BxR 98 96 Itm)) => bnd (if x1 < s126.1 then (some true) else (some false) : Option Bool) fun y128 => some (y128, s126.2)
theorem le_container_heap_down (x0 : BxR 98 96 Itm) (x1 : Int) (x2 : Int) : Le (e_container_heap_down x0 x1 x2) (m_container_heap_down x0 x1 x2) := by
  unfold e_container_heap_down m_container_heap_down
  repeat' (first | apply le_breadth_queue_Less | apply le_breadth_queue_Swap | apply Le.ite | apply Le.bnd | apply Le.fin | apply Le.rng | apply Le.rngN | apply Le.lop | exact Le.rf | intro _)
noncomputable def e_container_heap_Push (x0 : BxR 98 96 Itm) (x1 : An 96 Itm) : Option (BxR 98 96 Itm) :=
  bnd (e_breadth_queue_Push x0 (⟨x1.x⟩ : An 96 Itm)) fun q9 => bnd (e_breadth_queue_Len q9.l) fun q26 => bnd (chkI (q26 - 1)) fun n34 => bnd (e_container_heap_up q9 n34) fun q42 => some q42
theorem le_container_heap_Push (x0 : BxR 98 96 Itm) (x1 : An 96 Itm) : Le (e_container_heap_Push x0 x1) (m_container_heap_Push x0 x1) := by
  unfold e_container_heap_Push m_container_heap_Push
  repeat' (first | apply le_breadth_queue_Len | apply le_breadth_queue_Push | apply le_container_heap_up | apply Le.ite | apply Le.bnd | apply Le.fin | apply Le.rng | apply Le.rngN | apply Le.lop | exact Le.rf | intro _)
noncomputable def e_container_heap_Pop (x0 : BxR 98 96 Itm) : Option ((An 96 Itm) × (BxR 98 96 Itm)) :=
  bnd (e_breadth_queue_Len x0.l) fun q11 => bnd (chkI (q11 - 1)) fun n19 => bnd (e_breadth_queue_Swap x0.l 0 n19) fun q22 => bnd (e_container_heap_down (⟨q22⟩ : BxR 98 96 Itm) 0 n19) fun q35 => bnd (e_breadth_queue_Pop q35.2) fun q44 => some ((⟨q44.1.x⟩ : An 96 Itm), q44.2)
theorem le_container_heap_Pop (x0 : BxR 98 96 Itm) : Le (e_container_heap_Pop x0) (m_container_heap_Pop x0) := by
  unfold e_container_heap_Pop m_container_heap_Pop
  repeat' (first | apply le_breadth_queue_Len | apply le_breadth_queue_Pop | apply le_breadth_queue_Swap | apply le_container_heap_down | apply Le.ite | apply Le.bnd | apply Le.fin | apply Le.rng | apply Le.rngN | apply Le.lop | exact Le.rf | intro _)
noncomputable def e_pack_New (x0 : List Int) : Option ((Option Pkr) × Err) :=
  if 64 < (x0.length : Int) then (some (none, (⟨5⟩ : Err))) else (bnd (rng (ρ := (Option Pkr) × Err) (fun (k25 : Nat) (a26 : Int) (s23 : Int × Pkr) => bnd (if a26 < 1 then (some true) else (if 64 < a26 then (some true) else (some false)) : Option Bool) fun y48 => if y48 = true then (some (.ret (none, (⟨1⟩ : Err)))) else (bnd (lopE (ρ := Ctl (Int × Pkr) ((Option Pkr) × Err)) (fun (s61 : Int) => bnd (shlI 1 s61) fun n76 => if n76 < a26 then (bnd (chkI (s61 + 1)) fun n80 => some (.next n80)) else (some (.brk s61))) 0) fun res59 => fin res59 fun (s87 : Int) => bnd (bnd (chkI (s23.1 + s87)) fun n95 => if 64 < n95 then (bnd (chkI (s23.2.words + 1)) fun n109 => some (0, (⟨s23.2.fields, n109⟩ : Pkr))) else (some (s23.1, s23.2)) : Option (Int × Pkr)) fun y89 => bnd (chkI (y89.2.words - 1)) fun n133 => bnd (appI 32 y89.2.fields [(⟨n133, y89.1, s87, a26⟩ : PFd)]) fun u142 => bnd (chkI (y89.1 + s87)) fun n155 => some (.next (n155, (⟨u142, y89.2.words⟩ : Pkr))))) x0 0 (0, (⟨([] : List PFd), 1⟩ : Pkr))) fun res21 => fin res21 fun (s167 : Int × Pkr) => some ((some s167.2), (⟨0⟩ : Err)))
theorem le_pack_New (x0 : List Int) : Le (e_pack_New x0) (m_pack_New x0) := by
  unfold e_pack_New m_pack_New
  repeat' (first | apply Le.ite | apply Le.bnd | apply Le.fin | apply Le.rng | apply Le.rngN | apply Le.lop | exact Le.rf | intro _)
noncomputable def e_pack_field_mask (x0 : PFd) : Option U64 :=
  bnd (shlU (1 : U64) x0.width) fun n12 => bnd (shlU (n12 - (1 : U64)) x0.bit) fun n14 => some n14
theorem le_pack_field_mask (x0 : PFd) : Le (e_pack_field_mask x0) (m_pack_field_mask x0) := by
  unfold e_pack_field_mask m_pack_field_mask
  repeat' (first | apply Le.ite | apply Le.bnd | apply Le.fin | apply Le.rng | apply Le.rngN | apply Le.lop | exact Le.rf | intro _)
noncomputable def e_pack_field_get (x0 : PFd) (x1 : List U64) : Option Int :=
  bnd (atI x1 x0.word) fun a15 => bnd (e_pack_field_mask x0) fun q26 => bnd (shrU (a15 &&& q26) x0.bit) fun n33 => some n33.toInt
theorem le_pack_field_get (x0 : PFd) (x1 : List U64) : Le (e_pack_field_get x0 x1) (m_pack_field_get x0 x1) := by
  unfold e_pack_field_get m_pack_field_get
  repeat' (first | apply le_pack_field_mask | apply Le.ite | apply Le.bnd | apply Le.fin | apply Le.rng | apply Le.rngN | apply Le.lop | exact Le.rf | intro _)
noncomputable def e_pack_Packer_Pack (x0 : Pkr) (x1 : List Int) : Option ((List U64) × Err) :=
  if (x1.length : Int) ≠ (x0.fields.length : Int) then (some (([] : List U64), (⟨2⟩ : Err))) else (bnd (mkI 8 ((0 : U64) : U64) x0.words) fun u25 => bnd (rng (ρ := (List U64) × Err) (fun (k50 : Nat) (a51 : PFd) (s48 : (List U64)) => bnd (bnd (x1[k50]?) fun a87 => if a87 < 0 then (some true) else (bnd (x1[k50]?) fun a98 => if a51.size ≤ a98 then (some true) else (some false)) : Option Bool) fun y83 => if y83 = true then (some (.ret (([] : List U64), (⟨2⟩ : Err)))) else (bnd (atI s48 a51.word) fun a114 => bnd (x1[k50]?) fun a125 => bnd (shlU (BitVec.ofInt 64 a125) a51.bit) fun n135 => bnd (atI s48 a51.word) fun a137 => some (.next (s48.set (a51.word : Int).toNat (a114 ||| n135))))) x0.fields 0 u25) fun res46 => fin res46 fun (s154 : (List U64)) => some (s154, (⟨0⟩ : Err)))
theorem le_pack_Packer_Pack (x0 : Pkr) (x1 : List Int) : Le (e_pack_Packer_Pack x0 x1) (m_pack_Packer_Pack x0 x1) := by
  unfold e_pack_Packer_Pack m_pack_Packer_Pack
  repeat' (first | apply Le.ite | apply Le.bnd | apply Le.fin | apply Le.rng | apply Le.rngN | apply Le.lop | exact Le.rf | intro _)
noncomputable def e_pack_Packer_Unpack (x0 : Pkr) (x1 : List U64) : Option ((List Int) × Err) :=
  if (x1.length : Int) ≠ x0.words then (some (([] : List Int), (⟨2⟩ : Err))) else (bnd (mkI 8 (0 : Int) (x0.fields.length : Int)) fun u25 => bnd (e_slices_Clone_Luint64_uint64 x1) fun q38 => bnd (rng (ρ := (List Int) × Err) (fun (k60 : Nat) (a61 : PFd) (s58 : (List Int) × (List U64)) => bnd (e_pack_field_get a61 x1) fun q97 => bnd (s58.1[k60]?) fun a105 => bnd ((s58.1.set k60 q97)[k60]?) fun a117 => if a61.size ≤ a117 then (some (.ret (([] : List Int), (⟨2⟩ : Err)))) else (bnd (atI s58.2 a61.word) fun a128 => bnd (e_pack_field_mask a61) fun q139 => bnd (atI s58.2 a61.word) fun a146 => some (.next ((s58.1.set k60 q97), (s58.2.set (a61.word : Int).toNat (a128 &&& ~~~q139)))))) x0.fields 0 (u25, q38)) fun res56 => fin res56 fun (s163 : (List Int) × (List U64)) => bnd (rng (ρ := (List Int) × Err) (fun (k171 : Nat) (a172 : U64) (s169 : Unit) => bnd (s163.2[k171]?) fun a182 => if (a182.toNat : Int) ≠ ((0 : U64).toNat : Int) then (some (.ret (([] : List Int), (⟨2⟩ : Err)))) else (some (.next ()))) q38 0 ()) fun res167 => fin res167 fun (s196 : Unit) => some (s163.1, (⟨0⟩ : Err)))
theorem le_pack_Packer_Unpack (x0 : Pkr) (x1 : List U64) : Le (e_pack_Packer_Unpack x0 x1) (m_pack_Packer_Unpack x0 x1) := by
  unfold e_pack_Packer_Unpack m_pack_Packer_Unpack
  repeat' (first | apply le_pack_field_get | apply le_pack_field_mask | apply le_slices_Clone_Luint64_uint64 | apply Le.ite | apply Le.bnd | apply Le.fin | apply Le.rng | apply Le.rngN | apply Le.lop | exact Le.rf | intro _)
noncomputable def e_pack_Packer_Hash (x0 : Pkr) (x1 : List U64) : Option Int :=
  bnd (rng (ρ := Int) (fun (k13 : Nat) (a14 : U64) (s11 : U64) => bnd (shrU ((s11 ^^^ a14) * (13787848793156543929 : U64)) 29) fun n31 => some (.next (((s11 ^^^ a14) * (13787848793156543929 : U64)) ^^^ n31))) x1 0 ((BitVec.ofInt 64 (x1.length : Int)) + (11400714819323198485 : U64))) fun res9 => fin res9 fun (s37 : U64) => bnd (shrU s37 2) fun n39 => some n39.toInt
theorem le_pack_Packer_Hash (x0 : Pkr) (x1 : List U64) : Le (e_pack_Packer_Hash x0 x1) (m_pack_Packer_Hash x0 x1) := by
  unfold e_pack_Packer_Hash m_pack_Packer_Hash
  repeat' (first | apply Le.ite | apply Le.bnd | apply Le.fin | apply Le.rng | apply Le.rngN | apply Le.lop | exact Le.rf | intro _)
noncomputable def e_slices_Equal_Luint64_uint64 (x0 : List U64) (x1 : List U64) : Option Bool :=
  if (x0.length : Int) ≠ (x1.length : Int) then (some false) else (bnd (rng (ρ := Bool) (fun (k18 : Nat) (a19 : U64) (s16 : Unit) => bnd (x1[k18]?) fun a36 => if (a19.toNat : Int) ≠ (a36.toNat : Int) then (some (.ret false)) else (some (.next ()))) x0 0 ()) fun res14 => fin res14 fun (s50 : Unit) => some true)
theorem le_slices_Equal_Luint64_uint64 (x0 : List U64) (x1 : List U64) : Le (e_slices_Equal_Luint64_uint64 x0 x1) (m_slices_Equal_Luint64_uint64 x0 x1) := by
  unfold e_slices_Equal_Luint64_uint64 m_slices_Equal_Luint64_uint64
  repeat' (first | apply Le.ite | apply Le.bnd | apply Le.fin | apply Le.rng | apply Le.rngN | apply Le.lop | exact Le.rf | intro _)
noncomputable def e_registry_New (x0 : List Int) : Option ((Option Reg) × Err) :=
  bnd (e_pack_New x0) fun q4 => if q4.2.n ≠ 0 then (some (none, (⟨q4.2.n⟩ : Err))) else (bnd q4.1 fun o22 => some ((some (⟨o22, ([] : List REn), (⟨[]⟩ : MapR 3 Int Int)⟩ : Reg)), (⟨0⟩ : Err)))
theorem le_registry_New (x0 : List Int) : Le (e_registry_New x0) (m_registry_New x0) := by
  unfold e_registry_New m_registry_New
  repeat' (first | apply le_pack_New | apply Le.ite | apply Le.bnd | apply Le.fin | apply Le.rng | apply Le.rngN | apply Le.lop | exact Le.rf | intro _)
noncomputable def e_registry_Registry_find (x0 : Reg) (x1 : List Int) : Option ((List U64) × Int × Int × Err) :=
  bnd (e_pack_Packer_Pack x0.packer x1) fun q20 => if q20.2.n ≠ 0 then (some (([] : List U64), 0, (-1), (⟨2⟩ : Err))) else (bnd (e_pack_Packer_Hash x0.packer q20.1) fun q41 => bnd (rng (ρ := (List U64) × Int × Int × Err) (fun (k66 : Nat) (a67 : Int) (s64 : Unit) => bnd (atI x0.entries a67) fun a100 => bnd (e_slices_Equal_Luint64_uint64 a100.words q20.1) fun q118 => if q118 = true then some (.ret (q20.1, q41, a67, (⟨0⟩ : Err))) else some (.next ())) (mget ([] : List Int) x0.table.l q41) 0 ()) fun res62 => fin res62 fun (s139 : Unit) => some (q20.1, q41, (-1), (⟨0⟩ : Err)))
theorem le_registry_Registry_find (x0 : Reg) (x1 : List Int) : Le (e_registry_Registry_find x0 x1) (m_registry_Registry_find x0 x1) := by
  unfold e_registry_Registry_find m_registry_Registry_find
  repeat' (first | apply le_pack_Packer_Hash | apply le_pack_Packer_Pack | apply le_slices_Equal_Luint64_uint64 | apply Le.ite | apply Le.bnd | apply Le.fin | apply Le.rng | apply Le.rngN | apply Le.lop | exact Le.rf | intro _)
noncomputable def e_registry_Registry_Add (x0 : Reg) (x1 : List Int) : Option (Int × Bool × Err × Reg) :=
  bnd (e_registry_Registry_find x0 x1) fun q5 => if q5.2.2.2.n ≠ 0 then (some (0, false, (⟨q5.2.2.2.n⟩ : Err), x0)) else (if 0 ≤ q5.2.2.1 then (some (q5.2.2.1, false, (⟨0⟩ : Err), x0)) else (if 65536 ≤ (x0.entries.length : Int) then (some (0, false, (⟨10⟩ : Err), x0)) else (bnd (appI 48 x0.entries [(⟨q5.1, (⟨(-1), (-1), 0⟩ : RLk)⟩ : REn)]) fun u53 => bnd (appI 8 (mget ([] : List Int) x0.table.l q5.2.1) ([(x0.entries.length : Int)] : List Int)) fun u82 => some ((x0.entries.length : Int), true, (⟨0⟩ : Err), (⟨x0.packer, u53, (⟨mput x0.table.l q5.2.1 u82⟩ : MapR 3 Int Int)⟩ : Reg)))))
theorem le_registry_Registry_Add (x0 : Reg) (x1 : List Int) : Le (e_registry_Registry_Add x0 x1) (m_registry_Registry_Add x0 x1) := by
  unfold e_registry_Registry_Add m_registry_Registry_Add
  repeat' (first | apply le_registry_Registry_find | apply Le.ite | apply Le.bnd | apply Le.fin | apply Le.rng | apply Le.rngN | apply Le.lop | exact Le.rf | intro _)
noncomputable def e_registry_Registry_Len (x0 : Reg) : Option Int :=
  some (x0.entries.length : Int)
theorem le_registry_Registry_Len (x0 : Reg) : Le (e_registry_Registry_Len x0) (m_registry_Registry_Len x0) := by
  unfold e_registry_Registry_Len m_registry_Registry_Len
  repeat' (first | apply Le.ite | apply Le.bnd | apply Le.fin | apply Le.rng | apply Le.rngN | apply Le.lop | exact Le.rf | intro _)
noncomputable def e_registry_Registry_has (x0 : Reg) (x1 : Int) : Option Bool :=
  bnd (if 0 ≤ x1 then (if x1 < (x0.entries.length : Int) then (some true) else (some false)) else (some false) : Option Bool) fun y3 => some y3
theorem le_registry_Registry_has (x0 : Reg) (x1 : Int) : Le (e_registry_Registry_has x0 x1) (m_registry_Registry_has x0 x1) := by
  unfold e_registry_Registry_has m_registry_Registry_has
  repeat' (first | apply Le.ite | apply Le.bnd | apply Le.fin | apply Le.rng | apply Le.rngN | apply Le.lop | exact Le.rf | intro _)
noncomputable def e_registry_Registry_State (x0 : Reg) (x1 : Int) : Option ((List Int) × Err) :=
  bnd (e_registry_Registry_has x0 x1) fun q3 => if q3 = true then bnd (atI x0.entries x1) fun a27 => bnd (e_pack_Packer_Unpack x0.packer a27.words) fun q45 => some (q45.1, (⟨q45.2.n⟩ : Err)) else some (([] : List Int), (⟨1⟩ : Err))
theorem le_registry_Registry_State (x0 : Reg) (x1 : Int) : Le (e_registry_Registry_State x0 x1) (m_registry_Registry_State x0 x1) := by
  unfold e_registry_Registry_State m_registry_Registry_State
  repeat' (first | apply le_pack_Packer_Unpack | apply le_registry_Registry_has | apply Le.ite | apply Le.bnd | apply Le.fin | apply Le.rng | apply Le.rngN | apply Le.lop | exact Le.rf | intro _)
noncomputable def e_registry_Registry_SetLink (x0 : Reg) (x1 : Int) (x2 : Int) (x3 : Int) (x4 : Int) : Option (Err × Reg) :=
  bnd (bnd (e_registry_Registry_has x0 x1) fun q10 => if q10 = true then if x2 ≠ (-1) then (bnd (e_registry_Registry_has x0 x2) fun q20 => if q20 = true then some false else some true) else (some false) else some true : Option Bool) fun y6 => if y6 = true then (some ((⟨1⟩ : Err), x0)) else (bnd (atI x0.entries x1) fun a49 => some ((⟨0⟩ : Err), (⟨x0.packer, (x0.entries.set (x1 : Int).toNat ({ a49 with link := (⟨x2, x3, x4⟩ : RLk) } : REn)), x0.table⟩ : Reg)))
theorem le_registry_Registry_SetLink (x0 : Reg) (x1 : Int) (x2 : Int) (x3 : Int) (x4 : Int) : Le (e_registry_Registry_SetLink x0 x1 x2 x3 x4) (m_registry_Registry_SetLink x0 x1 x2 x3 x4) := by
  unfold e_registry_Registry_SetLink m_registry_Registry_SetLink
  repeat' (first | apply le_registry_Registry_has | apply Le.ite | apply Le.bnd | apply Le.fin | apply Le.rng | apply Le.rngN | apply Le.lop | exact Le.rf | intro _)
noncomputable def e_slices_Reverse_Lint_int (x0 : List Int) : Option (List Int) :=
  bnd (chkI ((x0.length : Int) - 1)) fun n4 => bnd (lopE (ρ := (List Int)) (fun (s9 : (List Int) × Int × Int) => if s9.2.1 < s9.2.2 then (bnd (atI s9.1 s9.2.2) fun a31 => bnd (atI s9.1 s9.2.1) fun a43 => bnd (atI s9.1 s9.2.1) fun a55 => bnd (atI (s9.1.set (s9.2.1 : Int).toNat a31) s9.2.2) fun a69 => bnd (chkI (s9.2.1 + 1)) fun n83 => bnd (chkI (s9.2.2 - 1)) fun n86 => some (.next (((s9.1.set (s9.2.1 : Int).toNat a31).set (s9.2.2 : Int).toNat a43), n83, n86))) else (some (.brk (s9.1, s9.2.1, s9.2.2)))) (x0, 0, n4)) fun res7 => fin res7 fun (s93 : (List Int) × Int × Int) => some s93.1
theorem le_slices_Reverse_Lint_int (x0 : List Int) : Le (e_slices_Reverse_Lint_int x0) (m_slices_Reverse_Lint_int x0) := by
  unfold e_slices_Reverse_Lint_int m_slices_Reverse_Lint_int
  repeat' (first | apply Le.ite | apply Le.bnd | apply Le.fin | apply Le.rng | apply Le.rngN | apply Le.lop | exact Le.rf | intro _)
noncomputable def e_registry_Registry_Path (x0 : Reg) (x1 : Int) : Option ((List Int) × Err) :=
  bnd (e_registry_Registry_has x0 x1) fun q3 => if q3 = true then bnd (lopE (ρ := (List Int) × Err) (fun (s14 : Int × (List Int)) => bnd (atI x0.entries s14.1) fun a48 => if a48.link.parent < 0 then (bnd (e_slices_Reverse_Lint_int s14.2) fun q74 => some (.ret (q74, (⟨0⟩ : Err)))) else (bnd (appI 8 s14.2 [a48.link.op]) fun u89 => if (x0.entries.length : Int) < (u89.length : Int) then (some (.ret (([] : List Int), (⟨21⟩ : Err)))) else (some (.next (a48.link.parent, u89))))) (x1, ([] : List Int))) fun res12 => fin res12 fun (_ : Int × (List Int)) => none else some (([] : List Int), (⟨1⟩ : Err))
theorem le_registry_Registry_Path (x0 : Reg) (x1 : Int) : Le (e_registry_Registry_Path x0 x1) (m_registry_Registry_Path x0 x1) := by
  unfold e_registry_Registry_Path m_registry_Registry_Path
  repeat' (first | apply le_registry_Registry_has | apply le_slices_Reverse_Lint_int | apply Le.ite | apply Le.bnd | apply Le.fin | apply Le.rng | apply Le.rngN | apply Le.lop | exact Le.rf | intro _)
noncomputable def e_succgen_Generator_Successors (x0 : Option Gnr) (x1 : List Int) : Option (List Suc) :=
  bnd (e_succgen_Generator_Applicable x0 x1) fun q7 => bnd (rng (ρ := (List Suc)) (fun (k23 : Nat) (a24 : Int) (s21 : (List Suc)) => bnd (e_slices_Clone_Lint_int x1) fun q46 => bnd (x0) fun o56 => bnd (atI o56.t.ops a24) fun a88 => bnd (rng (ρ := Ctl (List Suc) (List Suc)) (fun (k115 : Nat) (a116 : Eff) (s113 : (List Int)) => bnd (e_task_Holds a116.cond x1) fun q150 => if q150 = true then bnd (atI s113 a116.var) fun a157 => some (.next (s113.set (a116.var : Int).toNat a116.val)) else some (.next s113)) a88.effs 0 q46) fun res111 => fin res111 fun (s175 : (List Int)) => bnd (appI 32 s21 [(⟨a24, s175⟩ : Suc)]) fun u179 => some (.next u179)) q7 0 ([] : List Suc)) fun res19 => fin res19 fun (s195 : (List Suc)) => some s195
theorem le_succgen_Generator_Successors (x0 : Option Gnr) (x1 : List Int) : Le (e_succgen_Generator_Successors x0 x1) (m_succgen_Generator_Successors x0 x1) := by
  unfold e_succgen_Generator_Successors m_succgen_Generator_Successors
  repeat' (first | apply le_slices_Clone_Lint_int | apply le_succgen_Generator_Applicable | apply le_task_Holds | apply Le.ite | apply Le.bnd | apply Le.fin | apply Le.rng | apply Le.rngN | apply Le.lop | exact Le.rf | intro _)
noncomputable def e_breadth_begin (x0 : Tsk) : Option ((Option Spc) × Err) :=
  bnd (e_succgen_New x0) fun q24 => if q24.2.n ≠ 0 then (some (none, (⟨q24.2.n⟩ : Err))) else (bnd (e_registry_New x0.vars) fun q39 => if q39.2.n ≠ 0 then (some (none, (⟨q39.2.n⟩ : Err))) else (bnd q39.1 fun o52 => bnd (e_registry_Registry_Add o52 x0.init) fun q55 => if q55.2.2.1.n ≠ 0 then (some (none, (⟨q55.2.2.1.n⟩ : Err))) else (some ((some (⟨(⟨x0.vars, x0.init, x0.goal, x0.ops⟩ : Tsk), q55.2.2.2, q24.1⟩ : Spc)), (⟨0⟩ : Err)))))
theorem le_breadth_begin (x0 : Tsk) : Le (e_breadth_begin x0) (m_breadth_begin x0) := by
  unfold e_breadth_begin m_breadth_begin
  repeat' (first | apply le_registry_New | apply le_registry_Registry_Add | apply le_succgen_New | apply Le.ite | apply Le.bnd | apply Le.fin | apply Le.rng | apply Le.rngN | apply Le.lop | exact Le.rf | intro _)
noncomputable def e_breadth_space_solved (x0 : Spc) (x1 : Int) (x2 : Int) : Option (Rsl × Err) :=
  bnd (e_registry_Registry_Path x0.reg x1) fun q36 => if q36.2.n ≠ 0 then (some ((⟨0, ([] : List Int), 0, 0⟩ : Rsl), (⟨q36.2.n⟩ : Err))) else (bnd (rng (ρ := Rsl × Err) (fun (k77 : Nat) (a78 : Int) (s75 : Int) => bnd (atI x0.t.ops a78) fun a125 => bnd (chkI (s75 + a125.cost)) fun n146 => some (.next n146)) q36.1 0 0) fun res73 => fin res73 fun (s160 : Int) => some ((⟨1, q36.1, s160, x2⟩ : Rsl), (⟨0⟩ : Err)))
theorem le_breadth_space_solved (x0 : Spc) (x1 : Int) (x2 : Int) : Le (e_breadth_space_solved x0 x1 x2) (m_breadth_space_solved x0 x1 x2) := by
  unfold e_breadth_space_solved m_breadth_space_solved
  repeat' (first | apply le_registry_Registry_Path | apply Le.ite | apply Le.bnd | apply Le.fin | apply Le.rng | apply Le.rngN | apply Le.lop | exact Le.rf | intro _)
noncomputable def e_breadth_failed (x0 : Int) (x1 : Int) : Option (Rsl × Err) :=
  some ((⟨x0, ([] : List Int), 0, x1⟩ : Rsl), (⟨0⟩ : Err))
theorem le_breadth_failed (x0 : Int) (x1 : Int) : Le (e_breadth_failed x0 x1) (m_breadth_failed x0 x1) := by
  unfold e_breadth_failed m_breadth_failed
  repeat' (first | apply Le.ite | apply Le.bnd | apply Le.fin | apply Le.rng | apply Le.rngN | apply Le.lop | exact Le.rf | intro _)
noncomputable def e_breadth_Search (x0 : Tsk) (x1 : Int) : Option (Rsl × Err) :=
  bnd (e_breadth_begin x0) fun q30 => if q30.2.n ≠ 0 then (some ((⟨0, ([] : List Int), 0, 0⟩ : Rsl), (⟨q30.2.n⟩ : Err))) else (bnd q30.1 fun o45 => bnd (lopE (ρ := Rsl × Err) (fun (s50 : Int × Spc) => bnd (e_registry_Registry_Len s50.2.reg) fun q94 => if s50.1 < q94 then (bnd (e_registry_Registry_State s50.2.reg s50.1) fun q105 => if q105.2.n ≠ 0 then (some (.ret ((⟨0, ([] : List Int), 0, 0⟩ : Rsl), (⟨q105.2.n⟩ : Err)))) else (bnd (e_task_Holds x0.goal q105.1) fun q123 => if q123 = true then bnd (e_breadth_space_solved s50.2 s50.1 s50.1) fun q312 => some (.ret (q312.1, (⟨q312.2.n⟩ : Err))) else if x1 ≤ s50.1 then (bnd (e_breadth_failed 3 s50.1) fun q131 => some (.ret (q131.1, (⟨q131.2.n⟩ : Err)))) else (bnd (e_succgen_Generator_Successors s50.2.gen q105.1) fun q153 => bnd (rng (ρ := Ctl (Int × Spc) (Rsl × Err)) (fun (k173 : Nat) (a174 : Suc) (s171 : Spc) => bnd (e_registry_Registry_Add s171.reg a174.state) fun q232 => if q232.2.2.1.n ≠ 0 then (bnd (chkI (s50.1 + 1)) fun n249 => bnd (e_breadth_failed 3 n249) fun q252 => some (.ret (.ret (q252.1, (⟨q252.2.n⟩ : Err))))) else (if q232.2.1 = true then (bnd (e_registry_Registry_SetLink q232.2.2.2 q232.1 s50.1 a174.op 0) fun q275 => if q275.1.n ≠ 0 then (some (.ret (.ret ((⟨0, ([] : List Int), 0, 0⟩ : Rsl), (⟨q275.1.n⟩ : Err))))) else (some (.next (⟨(⟨s171.t.vars, s171.t.init, s171.t.goal, s171.t.ops⟩ : Tsk), q275.2, s171.gen⟩ : Spc)))) else (some (.next (⟨(⟨s171.t.vars, s171.t.init, s171.t.goal, s171.t.ops⟩ : Tsk), q232.2.2.2, s171.gen⟩ : Spc))))) q153 0 s50.2) fun res169 => fin res169 fun (s302 : Spc) => bnd (chkI (s50.1 + 1)) fun n304 => some (.next (n304, s302))))) else (some (.brk (s50.1, s50.2)))) (0, o45)) fun res48 => fin res48 fun (s344 : Int × Spc) => bnd (e_registry_Registry_Len s344.2.reg) fun q373 => bnd (e_breadth_failed 2 q373) fun q383 => some (q383.1, (⟨q383.2.n⟩ : Err)))
theorem le_breadth_Search (x0 : Tsk) (x1 : Int) : Le (e_breadth_Search x0 x1) (m_breadth_Search x0 x1) := by
  unfold e_breadth_Search m_breadth_Search
  repeat' (first | apply le_breadth_begin | apply le_breadth_failed | apply le_breadth_space_solved | apply le_registry_Registry_Add | apply le_registry_Registry_Len | apply le_registry_Registry_SetLink | apply le_registry_Registry_State | apply le_succgen_Generator_Successors | apply le_task_Holds | apply Le.ite | apply Le.bnd | apply Le.fin | apply Le.rng | apply Le.rngN | apply Le.lop | exact Le.rf | intro _)
noncomputable def e_breadth_Uniform (x0 : Tsk) (x1 : Int) : Option (Rsl × Err) :=
  bnd (e_breadth_begin x0) fun q30 => if q30.2.n ≠ 0 then (some ((⟨0, ([] : List Int), 0, 0⟩ : Rsl), (⟨q30.2.n⟩ : Err))) else (bnd q30.1 fun o68 => bnd (lopE (ρ := Rsl × Err) (fun (s78 : (List Int) × (List Bool) × Int × Int × Spc × (BxR 98 96 Itm)) => bnd (e_breadth_queue_Len s78.2.2.2.2.2.l) fun q116 => if 0 < q116 then (bnd (e_container_heap_Pop s78.2.2.2.2.2) fun q130 => bnd (atI s78.2.1 q130.1.x.id) fun a152 => if a152 = true then (some (.next (s78.1, s78.2.1, s78.2.2.1, s78.2.2.2.1, s78.2.2.2.2.1, q130.2))) else (bnd (e_registry_Registry_State s78.2.2.2.2.1.reg q130.1.x.id) fun q191 => if q191.2.n ≠ 0 then (some (.ret ((⟨0, ([] : List Int), 0, 0⟩ : Rsl), (⟨q191.2.n⟩ : Err)))) else (bnd (e_task_Holds x0.goal q191.1) fun q209 => if q209 = true then bnd (e_breadth_space_solved s78.2.2.2.2.1 q130.1.x.id s78.2.2.2.1) fun q581 => some (.ret (q581.1, (⟨q581.2.n⟩ : Err))) else if x1 ≤ s78.2.2.2.1 then (bnd (e_breadth_failed 3 s78.2.2.2.1) fun q217 => some (.ret (q217.1, (⟨q217.2.n⟩ : Err)))) else (bnd (atI s78.2.1 q130.1.x.id) fun a239 => bnd (chkI (s78.2.2.2.1 + 1)) fun n252 => bnd (e_succgen_Generator_Successors s78.2.2.2.2.1.gen q191.1) fun q255 => bnd (rng (ρ := Ctl ((List Int) × (List Bool) × Int × Int × Spc × (BxR 98 96 Itm)) (Rsl × Err)) (fun (k275 : Nat) (a276 : Suc) (s273 : (List Int) × (List Bool) × Int × Spc × (BxR 98 96 Itm)) => bnd (e_registry_Registry_Add s273.2.2.2.1.reg a276.state) fun q346 => if q346.2.2.1.n ≠ 0 then (bnd (e_breadth_failed 3 n252) fun q363 => some (.ret (.ret (q363.1, (⟨q363.2.n⟩ : Err))))) else (bnd (atI x0.ops a276.op) fun a385 => bnd (chkI (q130.1.x.cost + a385.cost)) fun n406 => bnd (if q346.2.1 = true then (bnd (appI 8 s273.1 [n406]) fun u418 => bnd (appI 1 s273.2.1 [false]) fun u430 => some (.done (u418, u430))) else (bnd (bnd (atI s273.2.1 q346.1) fun a451 => if a451 = true then (some true) else (bnd (atI s273.1 q346.1) fun a468 => if a468 ≤ n406 then (some true) else (some false)) : Option Bool) fun y447 => if y447 = true then (some (.ret (.next (s273.1, s273.2.1, s273.2.2.1, (⟨(⟨s273.2.2.2.1.t.vars, s273.2.2.2.1.t.init, s273.2.2.2.1.t.goal, s273.2.2.2.1.t.ops⟩ : Tsk), q346.2.2.2, s273.2.2.2.1.gen⟩ : Spc), s273.2.2.2.2)))) else (some (.done (s273.1, s273.2.1)))) : Option (Fin ((List Int) × (List Bool)) (Ctl ((List Int) × (List Bool) × Int × Spc × (BxR 98 96 Itm)) (Ctl ((List Int) × (List Bool) × Int × Int × Spc × (BxR 98 96 Itm)) (Rsl × Err))))) fun y409 => fin y409 fun (s411 : (List Int) × (List Bool)) => bnd (atI s411.1 q346.1) fun a500 => bnd (e_registry_Registry_SetLink ((⟨(⟨s273.2.2.2.1.t.vars, s273.2.2.2.1.t.init, s273.2.2.2.1.t.goal, s273.2.2.2.1.t.ops⟩ : Tsk), q346.2.2.2, s273.2.2.2.1.gen⟩ : Spc).reg) q346.1 q130.1.x.id a276.op n406) fun q541 => if q541.1.n ≠ 0 then (some (.ret (.ret ((⟨0, ([] : List Int), 0, 0⟩ : Rsl), (⟨q541.1.n⟩ : Err))))) else (bnd (e_container_heap_Push s273.2.2.2.2 (⟨(⟨n406, s273.2.2.1, q346.1⟩ : Itm)⟩ : An 96 Itm)) fun q554 => bnd (chkI (s273.2.2.1 + 1)) fun n562 => some (.next ((s411.1.set (q346.1 : Int).toNat n406), s411.2, n562, (⟨(⟨(⟨(⟨s273.2.2.2.1.t.vars, s273.2.2.2.1.t.init, s273.2.2.2.1.t.goal, s273.2.2.2.1.t.ops⟩ : Tsk), q346.2.2.2, s273.2.2.2.1.gen⟩ : Spc).t.vars, (⟨(⟨s273.2.2.2.1.t.vars, s273.2.2.2.1.t.init, s273.2.2.2.1.t.goal, s273.2.2.2.1.t.ops⟩ : Tsk), q346.2.2.2, s273.2.2.2.1.gen⟩ : Spc).t.init, (⟨(⟨s273.2.2.2.1.t.vars, s273.2.2.2.1.t.init, s273.2.2.2.1.t.goal, s273.2.2.2.1.t.ops⟩ : Tsk), q346.2.2.2, s273.2.2.2.1.gen⟩ : Spc).t.goal, (⟨(⟨s273.2.2.2.1.t.vars, s273.2.2.2.1.t.init, s273.2.2.2.1.t.goal, s273.2.2.2.1.t.ops⟩ : Tsk), q346.2.2.2, s273.2.2.2.1.gen⟩ : Spc).t.ops⟩ : Tsk), q541.2, (⟨(⟨s273.2.2.2.1.t.vars, s273.2.2.2.1.t.init, s273.2.2.2.1.t.goal, s273.2.2.2.1.t.ops⟩ : Tsk), q346.2.2.2, s273.2.2.2.1.gen⟩ : Spc).gen⟩ : Spc), q554))))) q255 0 (s78.1, (s78.2.1.set (q130.1.x.id : Int).toNat true), s78.2.2.1, s78.2.2.2.2.1, q130.2)) fun res271 => fin res271 fun (s574 : (List Int) × (List Bool) × Int × Spc × (BxR 98 96 Itm)) => some (.next (s574.1, s574.2.1, s574.2.2.1, n252, s574.2.2.2.1, s574.2.2.2.2)))))) else (some (.brk (s78.1, s78.2.1, s78.2.2.1, s78.2.2.2.1, s78.2.2.2.2.1, s78.2.2.2.2.2)))) (([0] : List Int), [false], 1, 0, o68, (⟨[(⟨0, 0, 0⟩ : Itm)]⟩ : BxR 98 96 Itm))) fun res76 => fin res76 fun (s613 : (List Int) × (List Bool) × Int × Int × Spc × (BxR 98 96 Itm)) => bnd (e_breadth_failed 2 s613.2.2.2.1) fun q615 => some (q615.1, (⟨q615.2.n⟩ : Err)))
theorem le_breadth_Uniform (x0 : Tsk) (x1 : Int) : Le (e_breadth_Uniform x0 x1) (m_breadth_Uniform x0 x1) := by
  unfold e_breadth_Uniform m_breadth_Uniform
  repeat' (first | apply le_breadth_begin | apply le_breadth_failed | apply le_breadth_queue_Len | apply le_breadth_space_solved | apply le_container_heap_Pop | apply le_container_heap_Push | apply le_registry_Registry_Add | apply le_registry_Registry_SetLink | apply le_registry_Registry_State | apply le_succgen_Generator_Successors | apply le_task_Holds | apply Le.ite | apply Le.bnd | apply Le.fin | apply Le.rng | apply Le.rngN | apply Le.lop | exact Le.rf | intro _)
noncomputable def e_breadth_Reachable (x0 : Tsk) (x1 : Int) : Option (Int × Err) :=
  bnd (e_breadth_begin x0) fun q25 => if q25.2.n ≠ 0 then (some (0, (⟨q25.2.n⟩ : Err))) else (bnd q25.1 fun o38 => bnd (lopE (ρ := Int × Err) (fun (s43 : Int × Spc) => bnd (e_registry_Registry_Len s43.2.reg) fun q87 => if s43.1 < q87 then (bnd (e_registry_Registry_Len s43.2.reg) fun q98 => if x1 < q98 then (some (.ret (0, (⟨10⟩ : Err)))) else (bnd (e_registry_Registry_State s43.2.reg s43.1) fun q109 => if q109.2.n ≠ 0 then (some (.ret (0, (⟨q109.2.n⟩ : Err)))) else (bnd (e_succgen_Generator_Successors s43.2.gen q109.1) fun q125 => bnd (rng (ρ := Ctl (Int × Spc) (Int × Err)) (fun (k145 : Nat) (a146 : Suc) (s143 : Spc) => bnd (e_registry_Registry_Add s143.reg a146.state) fun q204 => if q204.2.2.1.n ≠ 0 then (some (.ret (.ret (0, (⟨10⟩ : Err))))) else (some (.next (⟨(⟨s143.t.vars, s143.t.init, s143.t.goal, s143.t.ops⟩ : Tsk), q204.2.2.2, s143.gen⟩ : Spc)))) q125 0 s43.2) fun res141 => fin res141 fun (s230 : Spc) => bnd (chkI (s43.1 + 1)) fun n232 => some (.next (n232, s230))))) else (some (.brk (s43.1, s43.2)))) (0, o38)) fun res41 => fin res41 fun (s244 : Int × Spc) => bnd (e_registry_Registry_Len s244.2.reg) fun q273 => if x1 < q273 then (some (0, (⟨10⟩ : Err))) else (bnd (e_registry_Registry_Len s244.2.reg) fun q284 => some (q284, (⟨0⟩ : Err))))
theorem le_breadth_Reachable (x0 : Tsk) (x1 : Int) : Le (e_breadth_Reachable x0 x1) (m_breadth_Reachable x0 x1) := by
  unfold e_breadth_Reachable m_breadth_Reachable
  repeat' (first | apply le_breadth_begin | apply le_registry_Registry_Add | apply le_registry_Registry_Len | apply le_registry_Registry_State | apply le_succgen_Generator_Successors | apply Le.ite | apply Le.bnd | apply Le.fin | apply Le.rng | apply Le.rngN | apply Le.lop | exact Le.rf | intro _)
noncomputable def e_base_Apply (x0 : Tsk) (x1 : List Int) (x2 : Int) : Option ((List Int) × Bool) :=
  bnd (if x2 < 0 then (some true) else (if (x0.ops.length : Int) ≤ x2 then (some true) else (bnd (atI x0.ops x2) fun a36 => bnd (e_base_Holds a36.pre x1) fun q57 => if q57 = true then some false else some true)) : Option Bool) fun y28 => if y28 = true then (some (([] : List Int), false)) else (bnd (appI 8 ([] : List Int) x1) fun u75 => bnd (atI x0.ops x2) fun a86 => bnd (rng (ρ := (List Int) × Bool) (fun (k113 : Nat) (a114 : Eff) (s111 : (List Int)) => bnd (e_base_Holds a114.cond x1) fun q148 => if q148 = true then bnd (atI s111 a114.var) fun a155 => some (.next (s111.set (a114.var : Int).toNat a114.val)) else some (.next s111)) a86.effs 0 u75) fun res109 => fin res109 fun (s173 : (List Int)) => some (s173, true))
theorem le_base_Apply (x0 : Tsk) (x1 : List Int) (x2 : Int) : Le (e_base_Apply x0 x1 x2) (m_base_Apply x0 x1 x2) := by
  unfold e_base_Apply m_base_Apply
  repeat' (first | apply le_base_Holds | apply Le.ite | apply Le.bnd | apply Le.fin | apply Le.rng | apply Le.rngN | apply Le.lop | exact Le.rf | intro _)
noncomputable def e_base_Cost (x0 : Tsk) (x1 : List Int) (x2 : List Int) : Option (Int × Bool) :=
  bnd (rng (ρ := Int × Bool) (fun (k36 : Nat) (a37 : Int) (s34 : (List Int) × Int) => bnd (e_base_Apply x0 s34.1 a37) fun q59 => if (!q59.2) = true then (some (.ret (0, false))) else (bnd (atI x0.ops a37) fun a73 => bnd (chkI (s34.2 + a73.cost)) fun n94 => some (.next (q59.1, n94)))) x2 0 (x1, 0)) fun res32 => fin res32 fun (s101 : (List Int) × Int) => bnd (bnd (e_base_Holds x0.goal s101.1) fun q107 => if q107 = true then some true else some false : Option Bool) fun y103 => some (s101.2, y103)
theorem le_base_Cost (x0 : Tsk) (x1 : List Int) (x2 : List Int) : Le (e_base_Cost x0 x1 x2) (m_base_Cost x0 x1 x2) := by
  unfold e_base_Cost m_base_Cost
  repeat' (first | apply le_base_Apply | apply le_base_Holds | apply Le.ite | apply Le.bnd | apply Le.fin | apply Le.rng | apply Le.rngN | apply Le.lop | exact Le.rf | intro _)
noncomputable def e_base_Result (x0 : Tsk) (x1 : Rsl) (x2 : Int) : Option Bool :=
  if 1125899906842624 ≤ x2 then (bnd (if x1.verdict = 2 then (if (x1.plan.length : Int) = 0 then (if x1.cost = 0 then (some true) else (some false)) else (some false)) else (some false) : Option Bool) fun y40 => some y40) else (bnd (e_base_Cost x0 x0.init x1.plan) fun q53 => bnd (if x1.verdict = 1 then (if q53.2 = true then (if q53.1 = x2 then (if x1.cost = x2 then (some true) else (some false)) else (some false)) else (some false)) else (some false) : Option Bool) fun y65 => some y65)
theorem le_base_Result (x0 : Tsk) (x1 : Rsl) (x2 : Int) : Le (e_base_Result x0 x1 x2) (m_base_Result x0 x1 x2) := by
  unfold e_base_Result m_base_Result
  repeat' (first | apply le_base_Cost | apply Le.ite | apply Le.bnd | apply Le.fin | apply Le.rng | apply Le.rngN | apply Le.lop | exact Le.rf | intro _)
noncomputable def e_law48_example : Option Tsk := m_law48_example
theorem le_law48_example : Le e_law48_example m_law48_example := Le.rf
noncomputable def e_law48_awake  : Option Bool :=
  bnd (e_law48_example) fun q1 => bnd (e_breadth_Search q1 100) fun q25 => bnd (e_law48_example) fun q52 => bnd (e_breadth_Uniform q52 100) fun q76 => bnd (e_law48_example) fun q103 => bnd (e_breadth_Reachable q103 100) fun q127 => bnd (if q25.2.n = 0 then (if q76.2.n = 0 then (if q127.2.n = 0 then (bnd (e_base_Ints q25.1.plan ([3] : List Int)) fun q153 => if q153 = true then if q25.1.cost = 5 then (if q25.1.expanded = 2 then (bnd (e_law48_example) fun q162 => bnd (e_base_Result q162 q76.1 3) fun q186 => if q186 = true then if q127.1 = 4 then (some true) else (some false) else some false) else (some false)) else (some false) else some false) else (some false)) else (some false)) else (some false) : Option Bool) fun y140 => some y140
theorem le_law48_awake  : Le (e_law48_awake ) (m_law48_awake ) := by
  unfold e_law48_awake m_law48_awake
  repeat' (first | apply le_base_Ints | apply le_base_Result | apply le_breadth_Reachable | apply le_breadth_Search | apply le_breadth_Uniform | apply le_law48_example | apply Le.ite | apply Le.bnd | apply Le.fin | apply Le.rng | apply Le.rngN | apply Le.lop | exact Le.rf | intro _)
set_option maxRecDepth 100000 in
theorem awake48 : m_law48_awake = some true := le_law48_awake true (by kernel_rfl)
end
section
open Go Go.RowKit
theorem buniform_eq (t : Tsk) : m_law48_BreadthUniform t = some true := by
  unfold m_law48_BreadthUniform m_base_Small
  rw [bnd_some, awake48, bnd_some, if_t]
  by_cases hs : SmallOk t
  case neg => rw [bof_f hs, if_f, bnd_some, if_t, bnd_some, if_t, bnd_some]
  obtain ⟨r, r1, r2, _⟩ := uniform_eq hs 512
  obtain ⟨b, b1, b2, b3, b4, b5⟩ := best_eq hs
  have hv := uni_enough hs r2 (by omega)
  rw [bof_t hs, if_t, bnd_some, if_f, r1, bnd_some, if_pos (by simp), b1, bnd_some]
  dsimp only
  rw [uni_right hs r2 hv b4 b5, bnd_some, if_t, bnd_some]
end
section
open Go Go.RowKit Go.ChangeShapes Go.WideShapes Go.Deep
theorem lawBUniform {w : World} {v0 : Value} {a0 : Tsk} (h0 : V w v0 a0) : Fn Try.prog 5 [v0] w fun v w' => v = .bool true ∧ Ext w w' := by
  exact (c_law48_BreadthUniform (fun _ h => h) h0 (buniform_eq a0)).mono fun _ _ h => ⟨h.2.bool, h.1⟩
set_option maxRecDepth 100000 in
theorem breadthUniform_lifted (os : Os) (started : os.Started) (H : Type) (enc : TypeId × Value → H) :
    ReturnsInHanded {} Try.checked os 5 .any (Rows.breadthUniformSpec.pre6 enc Try.prog Try.f5 Rows.breadthUniformRow.domain false) (Rows.breadthUniformSpec.post enc Try.prog Try.f5 false true false false) := by
  refine returnsInHanded_of_change (C := Try.checked) ownTry started (by kernel_rfl) Try.func5 (ChangeSpec.witness6 (enc := enc) (C := Try.checked) false ⟨#[], #[(.agg #[.slice none 0 0, .slice none 0 0, .slice none 0 0, .slice none 0 0])], []⟩ 8 (by kernel_rfl) (by kernel_rfl) (by kernel_rfl) (by kernel_rfl)) ?_
  intro W base args ds gs before hval hW _ _
  have hopen : ∀ p, DataW.TrodAll enc Try.prog W 0 (fun _ => true) true Try.f5.params.toList args.toList ds p → ∃ v0 d0, args = #[v0] ∧ ds = [d0] ∧ (∃ a : Tsk, V W v0 a) := by
    intro p hA
    rw [Try.params5] at hA
    replace hval : ∀ (j : Nat) t v, (#[26] : Array TypeId)[j]? = some t → args[j]? = some v → Value.okWide Try.prog W .any base t v := by rw [← Try.params5]; exact hval
    obtain ⟨v0, vs0, d0, ds0, p0, q0, g0, e0, _, h0, r0⟩ := trodAll_cons hA
    obtain ⟨g, e, _⟩ := trodAll_nil r0
    rw [g] at g0; rw [e] at e0
    obtain rfl : args = #[v0] := by cases args; simp_all
    exact ⟨v0, d0, rfl, e0, (by first | exact openAgg rfl (hval 0 26 v0 rfl rfl) h0 | exact openOne rfl (hval 0 26 v0 rfl rfl) h0)⟩
  refine lawPost rfl (by kernel_rfl) (by rw [Try.params5]; exact of_decide_eq_true (by kernel_rfl)) hW ?_ ?_
  · intro p hA
    obtain ⟨v0, d0, _, rfl, _⟩ := hopen p hA
    rfl
  · intro p hA
    obtain ⟨v0, d0, rfl, _, ⟨a0, h0⟩⟩ := hopen p hA
    exact lawBUniform h0
theorem breadthUniform_holds : Rows.BreadthUniformSaid :=
  OpenClaim.holds_of_wide 5 Try.f5 rfl rfl rfl rfl rfl rfl rfl ⟨rfl, rfl, rfl, rfl, rfl⟩ rfl rfl rfl rfl rfl (by kernel_rfl) Try.func5 (by kernel_rfl)
    (of_decide_eq_true (by kernel_rfl)) (by unfold Func.isWrapper; first | (rw [if_pos (by decide +kernel)]; kernel_rfl) | (rw [if_neg (by decide +kernel)]; exact ⟨rfl, rfl⟩))
    (fun os started H enc _ => breadthUniform_lifted os started H enc)
#print axioms breadthUniform_holds
end
end Go.Proofs.Ythomfnkaicjmbaa

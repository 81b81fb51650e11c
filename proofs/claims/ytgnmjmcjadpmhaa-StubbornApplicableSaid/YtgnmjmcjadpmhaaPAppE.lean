/- StubbornApplicable returns true for every task and every list of numbers, and both read behind the call as before. No conditions. -/
import Derived.Test.YtgnmjmcjadpmhaaPAppD
import Derived.Test.YtgnmjmcjadpmhaaRows
namespace Go.Proofs.Ytgnmjmcjadpmhaa
open Go Go.RowKit
section
open Go Go.RowKit
attribute [local irreducible] ewp owp hwp hwq Ev Evg Fn retPost Res1
attribute [local irreducible] hwx loudX
noncomputable def m_law53_switches  : Option Tsk :=
  some (⟨[2, 2], [0, 0], [(⟨0, 1⟩ : Fct), (⟨1, 1⟩ : Fct)], [(⟨(⟨#[]⟩ : ByteArray), 1, [(⟨0, 0⟩ : Fct)], [(⟨([] : List Fct), 0, 1⟩ : Eff)]⟩ : Opr), (⟨(⟨#[]⟩ : ByteArray), 1, [(⟨1, 0⟩ : Fct)], [(⟨([] : List Fct), 1, 1⟩ : Eff)]⟩ : Opr)]⟩ : Tsk)
theorem c_law53_switches {w : World} {A : Nat → Prop} (hA : ∀ k, A k → k < w.heap.size)  {r : Tsk} (hm : m_law53_switches  = some r) :
    Fn Try.prog 30 [] w fun v w' => Ext w w' ∧ Vb w' (upA A w w') v r := by
 obtain ⟨O, hB, hA0⟩ := enter hA
 refine fn_enter Try.func30 rfl Try.ntmps30 rfl ?_
 unfold m_law53_switches at hm
 refine ewp_seq (ewp_region (l_alloc 2 O rfl fun g1 w2 O3 S4 h5 => ?_))
 refine o_z ?_
 refine ewp_seq (ewp_region (l_bslice 3 (by decide) O3 (xs := ([2, 2] : List Int)) rfl rfl rfl rfl ⟨(vInt (show inI64 (2) from by decide)), (vInt (show inI64 (2) from by decide)), trivial⟩ (by decide) (by decide) rfl fun g6 w7 O8 S9 h10 => ?_))
 refine l_bslice 4 (by decide) O8 (xs := ([0, 0] : List Int)) rfl rfl rfl rfl ⟨(vInt (show inI64 (0) from by decide)), (vInt (show inI64 (0) from by decide)), trivial⟩ (by decide) (by decide) rfl fun g12 w13 O14 S15 h16 => ?_
 refine o_bd rfl rfl rfl ?_
 refine o_bd rfl rfl rfl ?_
 refine l_bslice 5 (by decide) O14 (xs := ([(⟨0, 1⟩ : Fct), (⟨1, 1⟩ : Fct)] : List Fct)) rfl rfl rfl rfl ⟨(Vb.ofAgg (cs := [(.int .i64 0), (.int .i64 1)]) (x := (⟨0, 1⟩ : Fct)) rfl ⟨rfl, (show inI64 (0) from by decide), (show inI64 (1) from by decide)⟩), (Vb.ofAgg (cs := [(.int .i64 1), (.int .i64 1)]) (x := (⟨1, 1⟩ : Fct)) rfl ⟨rfl, (show inI64 (1) from by decide), (show inI64 (1) from by decide)⟩), trivial⟩ (by decide) (by decide) rfl fun g18 w19 O20 S21 h22 => ?_
 refine o_bd rfl rfl rfl ?_
 refine l_bslice 6 (by decide) O20 (xs := ([(⟨0, 0⟩ : Fct)] : List Fct)) rfl rfl rfl rfl ⟨(Vb.ofAgg (cs := [(.int .i64 0), (.int .i64 0)]) (x := (⟨0, 0⟩ : Fct)) rfl ⟨rfl, (show inI64 (0) from by decide), (show inI64 (0) from by decide)⟩), trivial⟩ (by decide) (by decide) rfl fun g24 w25 O26 S27 h28 => ?_
 refine o_bd rfl rfl rfl ?_
 refine l_bslice 7 (by decide) O26 (xs := ([(⟨([] : List Fct), 0, 1⟩ : Eff)] : List Eff)) rfl rfl rfl rfl ⟨(Vb.ofAgg (cs := [(.slice none 0 0), (.int .i64 0), (.int .i64 1)]) (x := (⟨([] : List Fct), 0, 1⟩ : Eff)) rfl ⟨_, rfl, (Vb.nil _ _), (show inI64 (0) from by decide), (show inI64 (1) from by decide)⟩), trivial⟩ (by decide) (by decide) rfl fun g30 w31 O32 S33 h34 => ?_
 refine o_bd rfl rfl rfl ?_
 refine o_bd rfl rfl rfl ?_
 refine l_bslice 8 (by decide) O32 (xs := ([(⟨1, 0⟩ : Fct)] : List Fct)) rfl rfl rfl rfl ⟨(Vb.ofAgg (cs := [(.int .i64 1), (.int .i64 0)]) (x := (⟨1, 0⟩ : Fct)) rfl ⟨rfl, (show inI64 (1) from by decide), (show inI64 (0) from by decide)⟩), trivial⟩ (by decide) (by decide) rfl fun g36 w37 O38 S39 h40 => ?_
 refine o_bd rfl rfl rfl ?_
 refine l_bslice 9 (by decide) O38 (xs := ([(⟨([] : List Fct), 1, 1⟩ : Eff)] : List Eff)) rfl rfl rfl rfl ⟨(Vb.ofAgg (cs := [(.slice none 0 0), (.int .i64 1), (.int .i64 1)]) (x := (⟨([] : List Fct), 1, 1⟩ : Eff)) rfl ⟨_, rfl, (Vb.nil _ _), (show inI64 (1) from by decide), (show inI64 (1) from by decide)⟩), trivial⟩ (by decide) (by decide) rfl fun g42 w43 O44 S45 h46 => ?_
 refine o_bd rfl rfl rfl ?_
 replace h28 := ((h28.st S33).st S39).st S45
 obtain ⟨O48, S49, h28⟩ := h28.freeze
 replace h34 := ((h34.st S39).st S45).st S49
 obtain ⟨O50, S51, h34⟩ := h34.freeze
 replace h40 := ((h40.st S45).st S49).st S51
 obtain ⟨O52, S53, h40⟩ := h40.freeze
 replace h46 := ((h46.st S49).st S51).st S53
 obtain ⟨O54, S55, h46⟩ := h46.freeze
 replace h28 := ((h28.st S51).st S53).st S55
 replace h34 := (h34.st S53).st S55
 replace h40 := h40.st S55
 refine l_bslice 10 (by decide) O54 (xs := ([(⟨(⟨#[]⟩ : ByteArray), 1, [(⟨0, 0⟩ : Fct)], [(⟨([] : List Fct), 0, 1⟩ : Eff)]⟩ : Opr), (⟨(⟨#[]⟩ : ByteArray), 1, [(⟨1, 0⟩ : Fct)], [(⟨([] : List Fct), 1, 1⟩ : Eff)]⟩ : Opr)] : List Opr)) rfl rfl rfl rfl ⟨(Vb.ofAgg (cs := [(.string (⟨#[]⟩ : ByteArray)), (.int .i64 1), (.slice (some ⟨g24, 0, none⟩) [(⟨0, 0⟩ : Fct)].length 1), (.slice (some ⟨g30, 0, none⟩) [(⟨([] : List Fct), 0, 1⟩ : Eff)].length 1)]) (x := (⟨(⟨#[]⟩ : ByteArray), 1, [(⟨0, 0⟩ : Fct)], [(⟨([] : List Fct), 0, 1⟩ : Eff)]⟩ : Opr)) rfl ⟨_, _, rfl, h28, h34, (show inI64 (1) from by decide), (show (⟨#[]⟩ : ByteArray).size ≤ 9223372036854775807 from by decide)⟩), (Vb.ofAgg (cs := [(.string (⟨#[]⟩ : ByteArray)), (.int .i64 1), (.slice (some ⟨g36, 0, none⟩) [(⟨1, 0⟩ : Fct)].length 1), (.slice (some ⟨g42, 0, none⟩) [(⟨([] : List Fct), 1, 1⟩ : Eff)].length 1)]) (x := (⟨(⟨#[]⟩ : ByteArray), 1, [(⟨1, 0⟩ : Fct)], [(⟨([] : List Fct), 1, 1⟩ : Eff)]⟩ : Opr)) rfl ⟨_, _, rfl, h40, h46, (show inI64 (1) from by decide), (show (⟨#[]⟩ : ByteArray).size ≤ 9223372036854775807 from by decide)⟩), trivial⟩ (by decide) (by decide) rfl fun g56 w57 O58 S59 h60 => ?_
 refine o_bd rfl rfl rfl ?_
 replace h5 := (((((((((((h5.st S9).st S15).st S21).st S27).st S33).st S39).st S45).st S49).st S51).st S53).st S55).st S59
 refine l_store h5 rfl rfl rfl (Nat.le_of_ble_eq_true rfl) (by first | exact allOne rfl | simp [Value.cells, Value.oneCell', errV_one]) fun w62 S63 h5 => ?_
 replace h5 : Lc 2 w62 O58 g1 26 [(.slice (some ⟨g6, 0, none⟩) [2, 2].length 2), (.slice (some ⟨g12, 0, none⟩) [0, 0].length 2), (.slice (some ⟨g18, 0, none⟩) [(⟨0, 1⟩ : Fct), (⟨1, 1⟩ : Fct)].length 2), (.slice (some ⟨g56, 0, none⟩) [(⟨(⟨#[]⟩ : ByteArray), 1, [(⟨0, 0⟩ : Fct)], [(⟨([] : List Fct), 0, 1⟩ : Eff)]⟩ : Opr), (⟨(⟨#[]⟩ : ByteArray), 1, [(⟨1, 0⟩ : Fct)], [(⟨([] : List Fct), 1, 1⟩ : Eff)]⟩ : Opr)].length 2)] := h5
 refine o_z ?_
 refine ewp_ret ?_
 replace h10 := (((((((((((h10.st S15).st S21).st S27).st S33).st S39).st S45).st S49).st S51).st S53).st S55).st S59).st S63
 obtain ⟨O64, S65, h10⟩ := h10.freeze
 replace h16 := (((((((((((h16.st S21).st S27).st S33).st S39).st S45).st S49).st S51).st S53).st S55).st S59).st S63).st S65
 obtain ⟨O66, S67, h16⟩ := h16.freeze
 replace h22 := (((((((((((h22.st S27).st S33).st S39).st S45).st S49).st S51).st S53).st S55).st S59).st S63).st S65).st S67
 obtain ⟨O68, S69, h22⟩ := h22.freeze
 replace h60 := (((h60.st S63).st S65).st S67).st S69
 obtain ⟨O70, S71, h60⟩ := h60.freeze
 obtain rfl := sm hm
 replace hB := (((((((((((((((((hB.st S4).st S9).st S15).st S21).st S27).st S33).st S39).st S45).st S49).st S51).st S53).st S55).st S59).st S63).st S65).st S67).st S69).st S71
 replace h5 := (((h5.st S65).st S67).st S69).st S71
 replace h10 := ((h10.st S67).st S69).st S71
 replace h16 := (h16.st S69).st S71
 replace h22 := h22.st S71
 exact ret1v rfl (res_cell (cs := [(.slice (some ⟨g6, 0, none⟩) [2, 2].length 2), (.slice (some ⟨g12, 0, none⟩) [0, 0].length 2), (.slice (some ⟨g18, 0, none⟩) [(⟨0, 1⟩ : Fct), (⟨1, 1⟩ : Fct)].length 2), (.slice (some ⟨g56, 0, none⟩) [(⟨(⟨#[]⟩ : ByteArray), 1, [(⟨0, 0⟩ : Fct)], [(⟨([] : List Fct), 0, 1⟩ : Eff)]⟩ : Opr), (⟨(⟨#[]⟩ : ByteArray), 1, [(⟨1, 0⟩ : Fct)], [(⟨([] : List Fct), 1, 1⟩ : Eff)]⟩ : Opr)].length 2)]) rfl rfl h5.1.cellsAt) ⟨hB.ext, (Vb.mono (F := Fr 0 w62 O70) (Vb.ofAgg (cs := [(.slice (some ⟨g6, 0, none⟩) [2, 2].length 2), (.slice (some ⟨g12, 0, none⟩) [0, 0].length 2), (.slice (some ⟨g18, 0, none⟩) [(⟨0, 1⟩ : Fct), (⟨1, 1⟩ : Fct)].length 2), (.slice (some ⟨g56, 0, none⟩) [(⟨(⟨#[]⟩ : ByteArray), 1, [(⟨0, 0⟩ : Fct)], [(⟨([] : List Fct), 0, 1⟩ : Eff)]⟩ : Opr), (⟨(⟨#[]⟩ : ByteArray), 1, [(⟨1, 0⟩ : Fct)], [(⟨([] : List Fct), 1, 1⟩ : Eff)]⟩ : Opr)].length 2)]) (x := (⟨[2, 2], [0, 0], [(⟨0, 1⟩ : Fct), (⟨1, 1⟩ : Fct)], [(⟨(⟨#[]⟩ : ByteArray), 1, [(⟨0, 0⟩ : Fct)], [(⟨([] : List Fct), 0, 1⟩ : Eff)]⟩ : Opr), (⟨(⟨#[]⟩ : ByteArray), 1, [(⟨1, 0⟩ : Fct)], [(⟨([] : List Fct), 1, 1⟩ : Eff)]⟩ : Opr)]⟩ : Tsk)) rfl ⟨_, _, _, _, rfl, h10, h16, h22, h60⟩) hB.out)⟩
noncomputable def m_law53_awake  : Option Bool :=
  bnd (m_law53_switches) fun q1 => bnd (m_stubborn_Set q1 [0, 0]) fun q33 => bnd (m_law53_switches) fun q47 => bnd (m_stubborn_Search q47 10) fun q71 => bnd (if q33.2.n = 0 then (if q71.2.n = 0 then (bnd (m_base_Ints q33.1 [0]) fun q110 => if q110 = true then if q71.1.verdict = 1 then (if q71.1.cost = 2 then (if q71.1.expanded = 2 then (some true) else (some false)) else (some false)) else (some false) else some false) else (some false)) else (some false) : Option Bool) fun y98 => some y98
theorem c_law53_awake {w : World} {A : Nat → Prop} (hA : ∀ k, A k → k < w.heap.size)  {r : Bool} (hm : m_law53_awake  = some r) :
    Fn Try.prog 10 [] w fun v w' => Ext w w' ∧ Vb w' (upA A w w') v r := by
 obtain ⟨O, hB, hA0⟩ := enter hA
 refine fn_enter Try.func10 rfl Try.ntmps10 rfl ?_
 unfold m_law53_awake at hm
 refine ewp_seq (ewp_region (o_as rfl rfl (o_z ?_)))
 refine ewp_seq (ewp_region ?_)
 obtain ⟨q1, e2, hm⟩ := bs hm
 refine l_call (O := O) (R := fun w' F v => Vb w' F v q1) (c_law53_switches Fr.lt  e2) rfl rfl fun v7 w3 O4 S5 h6 => ?_
 obtain ⟨cs8, rfl, v9, v10, v11, v12, rfl, h13, h16, h19, h22⟩ := h6
 obtain ⟨A14, c15, rfl⟩ := h13.form
 obtain ⟨A17, c18, rfl⟩ := h16.form
 obtain ⟨A20, c21, rfl⟩ := h19.form
 obtain ⟨A23, c24, rfl⟩ := h22.form
 refine l_bslice 2 (by decide) O4 (xs := ([0, 0] : List Int)) rfl rfl rfl rfl ⟨(vInt (show inI64 (0) from by decide)), (vInt (show inI64 (0) from by decide)), trivial⟩ (by decide) (by decide) rfl fun g25 w26 O27 S28 h29 => ?_
 obtain ⟨O31, S32, h29⟩ := h29.freeze
 obtain ⟨q33, e34, hm⟩ := bs hm
 replace h13 := (h13.st S28).st S32
 replace h16 := (h16.st S28).st S32
 replace h19 := (h19.st S28).st S32
 replace h22 := (h22.st S28).st S32
 refine l_call (O := O31) (R := fun w' F v => T2 w' F v q33) (c_stubborn_Set Fr.lt (Vb.ofAgg (cs := [(.slice A14 q1.vars.length c15), (.slice A17 q1.init.length c18), (.slice A20 q1.goal.length c21), (.slice A23 q1.ops.length c24)]) (x := q1) rfl ⟨_, _, _, _, rfl, h13, h16, h19, h22⟩) h29 e34) rfl rfl fun v39 w35 O36 S37 h38 => ?_
 obtain ⟨v40, v41, rfl, h42, h43⟩ := h38
 obtain ⟨A44, c45, rfl⟩ := h42.form
 obtain ⟨rfl, r46⟩ := h43.err
 refine o_mv rfl rfl (o_ex rfl rfl rfl (o_ex rfl rfl rfl (o_as rfl rfl (o_as rfl rfl (o_z ?_)))))
 refine ewp_seq (ewp_region ?_)
 obtain ⟨q47, e48, hm⟩ := bs hm
 refine l_call (O := O36) (R := fun w' F v => Vb w' F v q47) (c_law53_switches Fr.lt  e48) rfl rfl fun v53 w49 O50 S51 h52 => ?_
 obtain ⟨cs54, rfl, v55, v56, v57, v58, rfl, h59, h62, h65, h68⟩ := h52
 obtain ⟨A60, c61, rfl⟩ := h59.form
 obtain ⟨A63, c64, rfl⟩ := h62.form
 obtain ⟨A66, c67, rfl⟩ := h65.form
 obtain ⟨A69, c70, rfl⟩ := h68.form
 obtain ⟨q71, e72, hm⟩ := bs hm
 refine l_call (O := O50) (R := fun w' F v => T2 w' F v q71) (c_stubborn_Search Fr.lt (Vb.ofAgg (cs := [(.slice A60 q47.vars.length c61), (.slice A63 q47.init.length c64), (.slice A66 q47.goal.length c67), (.slice A69 q47.ops.length c70)]) (x := q47) rfl ⟨_, _, _, _, rfl, h59, h62, h65, h68⟩) (show inI64 (10) from by decide) e72) rfl rfl fun v77 w73 O74 S75 h76 => ?_
 obtain ⟨v78, v79, rfl, h80, h81⟩ := h76
 obtain ⟨cs82, rfl, v83, rfl, h84, r87, r88, r89⟩ := h80
 obtain ⟨A85, c86, rfl⟩ := h84.form
 obtain ⟨rfl, r90⟩ := h81.err
 refine o_mv rfl rfl (o_ex rfl rfl rfl (o_ex rfl rfl rfl (l_alloc 3 O74 rfl fun g91 w92 O93 S94 h95 => ?_)))
 refine l_store h95 rfl rfl rfl (Nat.le_of_ble_eq_true rfl) (by first | exact allOne rfl | simp [Value.cells, Value.oneCell', errV_one]) fun w96 S97 h95 => ?_
 replace h95 : Lc 3 w96 O93 g91 50 [(.int .i64 q71.1.verdict), (.slice A85 q71.1.plan.length c86), (.int .i64 q71.1.cost), (.int .i64 q71.1.expanded)] := h95
 refine o_as rfl rfl (o_z ?_)
 refine ewp_seq ?_
 obtain ⟨y98, hy99, hm⟩ := bs hm
 refine ewp_join (fun l' w' => ∃ (x101 : Unit) (O' : Lab), subs l' [(0, (.bool y98))] ∧ Bs w A w' O') ?_ ?_
 ·
  refine ewp_region (o_mv rfl rfl (o_erS rfl rfl (fun c102 => ?_) fun c102 => ?_))
  ·
   replace hy99 := ip hy99 c102
   refine o_mv rfl rfl (owp_yes rfl rfl (o_mv rfl rfl (owp_yes rfl rfl (o_erS rfl rfl (fun c103 => ?_) fun c103 => ?_))))
   ·
    replace hy99 := ip hy99 c103
    refine o_pt rfl rfl rfl (o_mv rfl rfl (owp_yes rfl rfl (o_mv rfl rfl (owp_yes rfl rfl (l_bslice 4 (by decide) O93 (xs := ([0] : List Int)) rfl rfl rfl rfl ⟨(vInt (show inI64 (0) from by decide)), trivial⟩ (by decide) (by decide) rfl fun g104 w105 O106 S107 h108 => ?_)))))
    refine owp_yes rfl rfl ?_
    obtain ⟨q110, e111, hy99⟩ := bs hy99
    replace h42 := ((((h42.st S51).st S75).st S94).st S97).st S107
    refine l_callA (O := O106) (A := All w105) (R := fun w' F v => Vb w' F v q110) (c_base_Ints (fun _ h => h) (Vb.mono (F := Fr 0 w105 O106) h42 Fr.lt) (h108).all e111) rfl rfl fun v116 w112 O113 S114 h115 => ?_
    obtain rfl := h115.bool
    cases q110
    case false =>
     replace hy99 := iF hy99
     refine o_pt rfl rfl rfl (o_mv rfl rfl (owp_no rfl rfl rfl rfl (owp_no rfl rfl rfl rfl (owp_no rfl rfl rfl rfl (o_pf rfl rfl rfl (o_mv rfl rfl (owp_no rfl rfl rfl rfl (owp_no rfl rfl rfl rfl (owp_no rfl rfl rfl rfl (o_pf rfl rfl rfl (o_mv rfl rfl (owp_no rfl rfl rfl rfl (owp_no rfl rfl rfl rfl (owp_no rfl rfl rfl rfl ?_))))))))))))))
     refine o_pf rfl rfl rfl (o_as rfl rfl (o_z ?_))
     obtain rfl := sm hy99
     replace hB := (((((((((hB.st S5).st S28).st S32).st S37).st S51).st S75).st S94).st S97).st S107).st S114
     exact ⟨(), _, ⟨rfl, trivial⟩, hB⟩
    replace hy99 := iT hy99
    refine o_pt rfl rfl rfl (o_mv rfl rfl (owp_yes rfl rfl (o_fa rfl rfl (owp_yes rfl rfl ?_))))
    replace h95 := (h95.st S107).st S114
    refine o_ld (hc := Blk.cell (i := 0) (h95.1) rfl) rfl rfl ?_
    refine owp_yes rfl rfl (o_eeS rfl rfl rfl (fun c117 => ?_) fun c117 => ?_)
    ·
     replace hy99 := ip hy99 c117
     refine o_pt rfl rfl rfl (o_mv rfl rfl (owp_yes rfl rfl (o_fa rfl rfl (owp_yes rfl rfl (o_ld (hc := Blk.cell (i := 2) (h95.1) rfl) rfl rfl ?_)))))
     refine owp_yes rfl rfl (o_eeS rfl rfl rfl (fun c118 => ?_) fun c118 => ?_)
     ·
      replace hy99 := ip hy99 c118
      refine o_pt rfl rfl rfl (o_mv rfl rfl (owp_yes rfl rfl (o_fa rfl rfl (owp_yes rfl rfl (o_ld (hc := Blk.cell (i := 3) (h95.1) rfl) rfl rfl ?_)))))
      refine owp_yes rfl rfl (o_eeS rfl rfl rfl (fun c119 => ?_) fun c119 => ?_)
      ·
       replace hy99 := ip hy99 c119
       refine o_pt rfl rfl rfl (o_as rfl rfl (o_z ?_))
       obtain rfl := sm hy99
       replace hB := (((((((((hB.st S5).st S28).st S32).st S37).st S51).st S75).st S94).st S97).st S107).st S114
       exact ⟨(), _, ⟨rfl, trivial⟩, hB⟩
      ·
       replace hy99 := im hy99 c119
       refine o_pt rfl rfl rfl (o_as rfl rfl (o_z ?_))
       obtain rfl := sm hy99
       replace hB := (((((((((hB.st S5).st S28).st S32).st S37).st S51).st S75).st S94).st S97).st S107).st S114
       exact ⟨(), _, ⟨rfl, trivial⟩, hB⟩
     ·
      replace hy99 := im hy99 c118
      refine o_pt rfl rfl rfl (o_mv rfl rfl (owp_no rfl rfl rfl rfl (owp_no rfl rfl rfl rfl (owp_no rfl rfl rfl rfl (o_pf rfl rfl rfl (o_as rfl rfl (o_z ?_)))))))
      obtain rfl := sm hy99
      replace hB := (((((((((hB.st S5).st S28).st S32).st S37).st S51).st S75).st S94).st S97).st S107).st S114
      exact ⟨(), _, ⟨rfl, trivial⟩, hB⟩
    ·
     replace hy99 := im hy99 c117
     refine o_pt rfl rfl rfl (o_mv rfl rfl (owp_no rfl rfl rfl rfl (owp_no rfl rfl rfl rfl (owp_no rfl rfl rfl rfl (o_pf rfl rfl rfl (o_mv rfl rfl (owp_no rfl rfl rfl rfl (owp_no rfl rfl rfl rfl (owp_no rfl rfl rfl rfl (o_pf rfl rfl rfl (o_as rfl rfl (o_z ?_))))))))))))
     obtain rfl := sm hy99
     replace hB := (((((((((hB.st S5).st S28).st S32).st S37).st S51).st S75).st S94).st S97).st S107).st S114
     exact ⟨(), _, ⟨rfl, trivial⟩, hB⟩
   ·
    replace hy99 := im hy99 c103
    refine o_pt rfl rfl rfl (o_mv rfl rfl (owp_no rfl rfl rfl rfl (owp_no rfl rfl rfl rfl (owp_no rfl rfl rfl rfl (o_pf rfl rfl rfl (o_mv rfl rfl (owp_no rfl rfl rfl rfl (owp_no rfl rfl rfl rfl (owp_no rfl rfl rfl rfl (o_pf rfl rfl rfl (o_mv rfl rfl (owp_no rfl rfl rfl rfl (owp_no rfl rfl rfl rfl (owp_no rfl rfl rfl rfl ?_))))))))))))))
    refine o_pf rfl rfl rfl (o_mv rfl rfl (owp_no rfl rfl rfl rfl (owp_no rfl rfl rfl rfl (owp_no rfl rfl rfl rfl (o_pf rfl rfl rfl (o_as rfl rfl (o_z ?_)))))))
    obtain rfl := sm hy99
    replace hB := (((((((hB.st S5).st S28).st S32).st S37).st S51).st S75).st S94).st S97
    exact ⟨(), _, ⟨rfl, trivial⟩, hB⟩
  ·
   replace hy99 := im hy99 c102
   refine o_mv rfl rfl (owp_no rfl rfl rfl rfl (owp_no rfl rfl rfl rfl (o_pf rfl rfl rfl (o_mv rfl rfl (owp_no rfl rfl rfl rfl (owp_no rfl rfl rfl rfl (owp_no rfl rfl rfl rfl (o_pf rfl rfl rfl (o_mv rfl rfl (owp_no rfl rfl rfl rfl (owp_no rfl rfl rfl rfl (owp_no rfl rfl rfl rfl (o_pf rfl rfl rfl (o_mv rfl rfl ?_))))))))))))))
   refine owp_no rfl rfl rfl rfl (owp_no rfl rfl rfl rfl (owp_no rfl rfl rfl rfl (o_pf rfl rfl rfl (o_mv rfl rfl (owp_no rfl rfl rfl rfl (owp_no rfl rfl rfl rfl (owp_no rfl rfl rfl rfl (o_pf rfl rfl rfl (o_as rfl rfl (o_z ?_))))))))))
   obtain rfl := sm hy99
   replace hB := (((((((hB.st S5).st S28).st S32).st S37).st S51).st S75).st S94).st S97
   exact ⟨(), _, ⟨rfl, trivial⟩, hB⟩
 replace hB := (((((((hB.st S5).st S28).st S32).st S37).st S51).st S75).st S94).st S97
 rintro l120 w121 ⟨x101, O122, hs123, hB⟩
 refine ewp_sub _ hs123 ?_
 refine ewp_ret ?_
 obtain rfl := sm hm
 exact ret1v rfl (res_tmp rfl) ⟨hB.ext, vBool⟩
noncomputable def m_law53_StubbornApplicable (x0 : Tsk) (x1 : List Int) : Option Bool :=
  bnd (bnd (m_law53_awake) fun q31 => if q31 = true then if 12 < (x0.vars.length : Int) then (some true) else (if 20 < (x0.ops.length : Int) then (some true) else (if 20 < (x1.length : Int) then (some true) else (some false))) else some true : Option Bool) fun y27 => if y27 = true then (bnd (bnd (m_law53_awake) fun q56 => if q56 = true then some true else some false : Option Bool) fun y52 => some y52) else (bnd (m_stubborn_Set x0 x1) fun q67 => bnd (m_base_Good x0) fun q81 => if q81 = true then if q67.2.n ≠ 0 then (bnd (bnd (m_base_Is (⟨q67.2.n⟩ : Err) 2) fun q151 => if q151 = true then bnd (m_base_State x0.vars x1) fun q158 => if q158 = true then some false else some true else some false : Option Bool) fun y147 => some y147) else (bnd (rng (ρ := Bool) (fun (k175 : Nat) (a176 : Int) (s173 : Unit) => bnd (if a176 < 0 then (some true) else (if (x0.ops.length : Int) ≤ a176 then (some true) else (if 0 < (k175 : Int) then (bnd (chkI ((k175 : Int) - 1)) fun n203 => bnd (atI q67.1 n203) fun a206 => if a176 ≤ a206 then (some true) else (bnd (atI x0.ops a176) fun a219 => bnd (m_base_Holds a219.pre x1) fun q240 => if q240 = true then some false else some true)) else (bnd (atI x0.ops a176) fun a247 => bnd (m_base_Holds a247.pre x1) fun q268 => if q268 = true then some false else some true))) : Option Bool) fun y194 => if y194 = true then (some (.ret false)) else (some (.next ()))) q67.1 0 ()) fun res171 => fin res171 fun (s284 : Unit) => bnd (rng (ρ := Bool) (fun (k292 : Nat) (a293 : Opr) (s290 : Int) => bnd (m_base_Holds a293.pre x1) fun q329 => if q329 = true then bnd (chkI (s290 + 1)) fun n336 => some (.next n336) else some (.next s290)) x0.ops 0 0) fun res288 => fin res288 fun (s343 : Int) => bnd (bnd (m_base_Holds x0.goal x1) fun q349 => if q349 = true then if s343 = (q67.1.length : Int) then (some true) else (some false) else some true : Option Bool) fun y345 => some y345) else bnd (m_stubborn_Search x0 10) fun q88 => bnd (if (q67.1.length : Int) = 0 then (if q67.2.n ≠ 0 then (if q88.2.n ≠ 0 then (if q88.1.verdict = 0 then (bnd (m_base_Num (⟨q67.2.n⟩ : Err)) fun q125 => bnd (m_base_Num (⟨q88.2.n⟩ : Err)) fun q133 => if q125 = q133 then (some true) else (some false)) else (some false)) else (some false)) else (some false)) else (some false) : Option Bool) fun y115 => some y115)
theorem c_law53_StubbornApplicable {w : World} {A : Nat → Prop} (hA : ∀ k, A k → k < w.heap.size) {vx0 : Value} {x0 : Tsk} (hx0 : Vb w A vx0 x0) {vx1 : Value} {x1 : List Int} (hx1 : Vb w A vx1 x1) {r : Bool} (hm : m_law53_StubbornApplicable x0 x1 = some r) :
    Fn Try.prog 7 [vx0, vx1] w fun v w' => Ext w w' ∧ Vb w' (upA A w w') v r := by
 obtain ⟨O, hB, hA0⟩ := enter hA
 replace hx0 := hx0.mono hA0
 obtain ⟨cs3, rfl, v4, v5, v6, v7, rfl, h8, h11, h14, h17⟩ := hx0
 obtain ⟨A9, c10, rfl⟩ := h8.form
 obtain ⟨A12, c13, rfl⟩ := h11.form
 obtain ⟨A15, c16, rfl⟩ := h14.form
 obtain ⟨A18, c19, rfl⟩ := h17.form
 replace hx1 := hx1.mono hA0
 obtain ⟨A20, c21, rfl⟩ := hx1.form
 refine fn_enter Try.func7 rfl Try.ntmps7 rfl ?_
 unfold m_law53_StubbornApplicable at hm
 refine ewp_seq (ewp_region (l_box 2 O rfl rfl fun g22 w23 O24 S25 h26 => ?_))
 replace h26 : Lc 2 w23 O24 g22 26 [(.slice A9 x0.vars.length c10), (.slice A12 x0.init.length c13), (.slice A15 x0.goal.length c16), (.slice A18 x0.ops.length c19)] := h26
 refine o_as rfl rfl (o_z ?_)
 refine ewp_seq (ewp_seq ?_)
 obtain ⟨y27, hy28, hm⟩ := bs hm
 refine ewp_join (fun l' w' => ∃ (x30 : Unit) (O' : Lab), subs l' [(1, (.slice A20 x1.length c21)), (2, (.pointer (some ⟨g22, 0, none⟩))), (32, (.bool y27))] ∧ Bs w A w' O' ∧ Vb w' (Fr 0 w' O') (.slice A20 x1.length c21) x1 ∧ Lc 2 w' O' g22 26 [(.slice A9 x0.vars.length c10), (.slice A12 x0.init.length c13), (.slice A15 x0.goal.length c16), (.slice A18 x0.ops.length c19)] ∧ Vb w' (Fr 0 w' O') (.slice A9 x0.vars.length c10) x0.vars ∧ Vb w' (Fr 0 w' O') (.slice A12 x0.init.length c13) x0.init ∧ Vb w' (Fr 0 w' O') (.slice A15 x0.goal.length c16) x0.goal ∧ Vb w' (Fr 0 w' O') (.slice A18 x0.ops.length c19) x0.ops) ?_ ?_
 ·
  refine ewp_region ?_
  obtain ⟨q31, e32, hy28⟩ := bs hy28
  refine l_callA (O := O24) (A := All w23) (R := fun w' F v => Vb w' F v q31) (c_law53_awake (fun _ h => h)  e32) rfl rfl fun v37 w33 O34 S35 h36 => ?_
  obtain rfl := h36.bool
  cases q31
  case false =>
   replace hy28 := iF hy28
   refine o_nf rfl rfl (o_mv rfl rfl (owp_no rfl rfl rfl rfl (owp_no rfl rfl rfl rfl (owp_no rfl rfl rfl rfl (owp_no rfl rfl rfl rfl (o_pt rfl rfl rfl (o_mv rfl rfl (owp_no rfl rfl rfl rfl (owp_no rfl rfl rfl rfl (owp_no rfl rfl rfl rfl (owp_no rfl rfl rfl rfl (o_pt rfl rfl rfl (o_mv rfl rfl (owp_no rfl rfl rfl rfl ?_))))))))))))))
   refine owp_no rfl rfl rfl rfl (owp_no rfl rfl rfl rfl (o_pt rfl rfl rfl (o_z ?_)))
   obtain rfl := sm hy28
   replace hB := (hB.st S25).st S35
   replace hx1 := (hx1.st S25).st S35
   replace h8 := (h8.st S25).st S35
   replace h11 := (h11.st S25).st S35
   replace h14 := (h14.st S25).st S35
   replace h17 := (h17.st S25).st S35
   replace h26 := h26.st S35
   exact ⟨(), _, ⟨rfl, rfl, rfl, trivial⟩, hB, hx1, h26, h8, h11, h14, h17⟩
  replace hy28 := iT hy28
  refine o_nt rfl rfl (o_mv rfl rfl (owp_yes rfl rfl (o_fa rfl rfl (owp_yes rfl rfl ?_))))
  replace h26 := h26.st S35
  refine o_ld (hc := Blk.cell (i := 0) (h26.1) rfl) rfl rfl ?_
  refine owp_yes rfl rfl (o_ln rfl rfl ?_)
  replace h8 := (h8.st S25).st S35
  have l39 : x0.vars.length ≤ 9223372036854775807 := Nat.le_trans h8.len.2.1 h8.len.2.2
  have r38 : inI64 (x0.vars.length : Int) := rngNat l39
  refine owp_yes rfl rfl (o_gtS rfl rfl rfl (fun c40 => ?_) fun c40 => ?_)
  ·
   replace hy28 := ip hy28 c40
   refine o_pf rfl rfl rfl (o_mv rfl rfl (owp_no rfl rfl rfl rfl (owp_no rfl rfl rfl rfl (owp_no rfl rfl rfl rfl (owp_no rfl rfl rfl rfl (o_pt rfl rfl rfl (o_mv rfl rfl (owp_no rfl rfl rfl rfl (owp_no rfl rfl rfl rfl (owp_no rfl rfl rfl rfl (o_pt rfl rfl rfl (o_z ?_))))))))))))
   obtain rfl := sm hy28
   replace hB := (hB.st S25).st S35
   replace hx1 := (hx1.st S25).st S35
   replace h11 := (h11.st S25).st S35
   replace h14 := (h14.st S25).st S35
   replace h17 := (h17.st S25).st S35
   exact ⟨(), _, ⟨rfl, rfl, rfl, trivial⟩, hB, hx1, h26, h8, h11, h14, h17⟩
  ·
   replace hy28 := im hy28 c40
   refine o_pf rfl rfl rfl (o_mv rfl rfl (owp_yes rfl rfl (o_fa rfl rfl (owp_yes rfl rfl (o_ld (hc := Blk.cell (i := 3) (h26.1) rfl) rfl rfl ?_)))))
   refine owp_yes rfl rfl (o_ln rfl rfl ?_)
   replace h17 := (h17.st S25).st S35
   have l42 : x0.ops.length ≤ 9223372036854775807 := Nat.le_trans h17.len.2.1 h17.len.2.2
   have r41 : inI64 (x0.ops.length : Int) := rngNat l42
   refine owp_yes rfl rfl (o_gtS rfl rfl rfl (fun c43 => ?_) fun c43 => ?_)
   ·
    replace hy28 := ip hy28 c43
    refine o_pf rfl rfl rfl (o_mv rfl rfl (owp_no rfl rfl rfl rfl (owp_no rfl rfl rfl rfl (owp_no rfl rfl rfl rfl (o_pt rfl rfl rfl (o_z ?_))))))
    obtain rfl := sm hy28
    replace hB := (hB.st S25).st S35
    replace hx1 := (hx1.st S25).st S35
    replace h11 := (h11.st S25).st S35
    replace h14 := (h14.st S25).st S35
    exact ⟨(), _, ⟨rfl, rfl, rfl, trivial⟩, hB, hx1, h26, h8, h11, h14, h17⟩
   ·
    replace hy28 := im hy28 c43
    refine o_pf rfl rfl rfl (o_mv rfl rfl (owp_yes rfl rfl (o_mv rfl rfl (owp_yes rfl rfl (o_ln rfl rfl ?_)))))
    replace hx1 := (hx1.st S25).st S35
    have l45 : x1.length ≤ 9223372036854775807 := Nat.le_trans hx1.len.2.1 hx1.len.2.2
    have r44 : inI64 (x1.length : Int) := rngNat l45
    refine owp_yes rfl rfl (o_gtS rfl rfl rfl (fun c46 => ?_) fun c46 => ?_)
    ·
     replace hy28 := ip hy28 c46
     refine o_pf rfl rfl rfl (o_z ?_)
     obtain rfl := sm hy28
     replace hB := (hB.st S25).st S35
     replace h11 := (h11.st S25).st S35
     replace h14 := (h14.st S25).st S35
     exact ⟨(), _, ⟨rfl, rfl, rfl, trivial⟩, hB, hx1, h26, h8, h11, h14, h17⟩
    ·
     replace hy28 := im hy28 c46
     refine o_pf rfl rfl rfl (o_z ?_)
     obtain rfl := sm hy28
     replace hB := (hB.st S25).st S35
     replace h11 := (h11.st S25).st S35
     replace h14 := (h14.st S25).st S35
     exact ⟨(), _, ⟨rfl, rfl, rfl, trivial⟩, hB, hx1, h26, h8, h11, h14, h17⟩
 replace hB := hB.st S25
 replace hx1 := hx1.st S25
 replace h8 := h8.st S25
 replace h11 := h11.st S25
 replace h14 := h14.st S25
 replace h17 := h17.st S25
 rintro l47 w48 ⟨x30, O49, hs50, hB, hx1, h26, h8, h11, h14, h17⟩
 refine ewp_sub _ hs50 ?_
 refine ewp_cond rfl (fun c51 => ?_) (fun c51 => ?_)
 ·
  replace hm := ip hm c51
  refine ewp_seq ?_
  obtain ⟨y52, hy53, hm⟩ := bs hm
  refine ewp_join (fun l' w' => ∃ (x55 : Unit) (O' : Lab), subs l' [(4, (.bool y52))] ∧ Bs w A w' O') ?_ ?_
  ·
   refine ewp_region ?_
   obtain ⟨q56, e57, hy53⟩ := bs hy53
   refine l_callA (O := O49) (A := All w48) (R := fun w' F v => Vb w' F v q56) (c_law53_awake (fun _ h => h)  e57) rfl rfl fun v62 w58 O59 S60 h61 => ?_
   obtain rfl := h61.bool
   cases q56
   case false =>
    replace hy53 := iF hy53
    refine o_as rfl rfl (o_z ?_)
    obtain rfl := sm hy53
    replace hB := hB.st S60
    exact ⟨(), _, ⟨rfl, trivial⟩, hB⟩
   replace hy53 := iT hy53
   refine o_as rfl rfl (o_z ?_)
   obtain rfl := sm hy53
   replace hB := hB.st S60
   exact ⟨(), _, ⟨rfl, trivial⟩, hB⟩
  rintro l63 w64 ⟨x55, O65, hs66, hB⟩
  refine ewp_sub _ hs66 ?_
  refine ewp_ret ?_
  obtain rfl := sm hm
  exact ret1v rfl (res_tmp rfl) ⟨hB.ext, vBool⟩
 ·
  replace hm := im' hm c51
  refine ewp_skip (ewp_seq (ewp_region (o_la (hl := rfl) (hc := (h26.1).cellsAt) rfl rfl ?_)))
  refine o_mv rfl rfl ?_
  obtain ⟨q67, e68, hm⟩ := bs hm
  refine l_call (O := O49) (R := fun w' F v => T2 w' F v q67) (c_stubborn_Set Fr.lt (Vb.ofAgg (cs := [(.slice A9 x0.vars.length c10), (.slice A12 x0.init.length c13), (.slice A15 x0.goal.length c16), (.slice A18 x0.ops.length c19)]) (x := x0) rfl ⟨_, _, _, _, rfl, h8, h11, h14, h17⟩) hx1 e68) rfl rfl fun v73 w69 O70 S71 h72 => ?_
  obtain ⟨v74, v75, rfl, h76, h77⟩ := h72
  obtain ⟨A78, c79, rfl⟩ := h76.form
  obtain ⟨rfl, r80⟩ := h77.err
  refine o_mv rfl rfl (o_ex rfl rfl rfl (o_ex rfl rfl rfl (o_as rfl rfl (o_as rfl rfl (o_z ?_)))))
  refine ewp_seq (ewp_seq (ewp_region ?_))
  replace h26 := h26.st S71
  refine o_la (hl := rfl) (hc := (h26.1).cellsAt) rfl rfl ?_
  obtain ⟨q81, e82, hm⟩ := bs hm
  replace h8 := h8.st S71
  replace h11 := h11.st S71
  replace h14 := h14.st S71
  replace h17 := h17.st S71
  refine l_callA (O := O70) (A := All w69) (R := fun w' F v => Vb w' F v q81) (c_base_Good (fun _ h => h) (Vb.mono (F := Fr 0 w69 O70) (Vb.ofAgg (cs := [(.slice A9 x0.vars.length c10), (.slice A12 x0.init.length c13), (.slice A15 x0.goal.length c16), (.slice A18 x0.ops.length c19)]) (x := x0) rfl ⟨_, _, _, _, rfl, h8, h11, h14, h17⟩) Fr.lt) e82) rfl rfl fun v87 w83 O84 S85 h86 => ?_
  obtain rfl := h86.bool
  cases q81
  case false =>
   replace hm := iF hm
   refine o_nf rfl rfl (o_z ?_)
   refine ewp_true rfl (ewp_seq (ewp_region ?_))
   replace h26 := h26.st S85
   refine o_la (hl := rfl) (hc := (h26.1).cellsAt) rfl rfl ?_
   obtain ⟨q88, e89, hm⟩ := bs hm
   replace h8 := h8.st S85
   replace h11 := h11.st S85
   replace h14 := h14.st S85
   replace h17 := h17.st S85
   refine l_call (O := O84) (R := fun w' F v => T2 w' F v q88) (c_stubborn_Search Fr.lt (Vb.ofAgg (cs := [(.slice A9 x0.vars.length c10), (.slice A12 x0.init.length c13), (.slice A15 x0.goal.length c16), (.slice A18 x0.ops.length c19)]) (x := x0) rfl ⟨_, _, _, _, rfl, h8, h11, h14, h17⟩) (show inI64 (10) from by decide) e89) rfl rfl fun v94 w90 O91 S92 h93 => ?_
   obtain ⟨v95, v96, rfl, h97, h98⟩ := h93
   obtain ⟨cs99, rfl, v100, rfl, h101, r104, r105, r106⟩ := h97
   obtain ⟨A102, c103, rfl⟩ := h101.form
   obtain ⟨rfl, r107⟩ := h98.err
   refine o_mv rfl rfl (o_ex rfl rfl rfl (o_ex rfl rfl rfl (l_alloc 3 O91 rfl fun g108 w109 O110 S111 h112 => ?_)))
   refine l_store h112 rfl rfl rfl (Nat.le_of_ble_eq_true rfl) (by first | exact allOne rfl | simp [Value.cells, Value.oneCell', errV_one]) fun w113 S114 h112 => ?_
   replace h112 : Lc 3 w113 O110 g108 50 [(.int .i64 q88.1.verdict), (.slice A102 q88.1.plan.length c103), (.int .i64 q88.1.cost), (.int .i64 q88.1.expanded)] := h112
   refine o_as rfl rfl (o_z ?_)
   refine ewp_seq ?_
   obtain ⟨y115, hy116, hm⟩ := bs hm
   refine ewp_join (fun l' w' => ∃ (x118 : Unit) (O' : Lab), subs l' [(4, (.bool y115))] ∧ Bs w A w' O') ?_ ?_
   ·
    refine ewp_region (o_mv rfl rfl (o_ln rfl rfl ?_))
    replace h76 := (((h76.st S85).st S92).st S111).st S114
    have l120 : q67.1.length ≤ 9223372036854775807 := Nat.le_trans h76.len.2.1 h76.len.2.2
    have r119 : inI64 (q67.1.length : Int) := rngNat l120
    refine o_eeS rfl rfl rfl (fun c121 => ?_) fun c121 => ?_
    ·
     replace hy116 := ip hy116 c121
     refine o_mv rfl rfl (owp_yes rfl rfl (o_mv rfl rfl (owp_yes rfl rfl (o_rnS rfl rfl (fun c122 => ?_) fun c122 => ?_))))
     ·
      replace hy116 := ip hy116 c122
      refine o_pt rfl rfl rfl (o_mv rfl rfl (owp_yes rfl rfl (o_mv rfl rfl (owp_yes rfl rfl (o_rnS rfl rfl (fun c123 => ?_) fun c123 => ?_)))))
      ·
       replace hy116 := ip hy116 c123
       refine o_pt rfl rfl rfl (o_mv rfl rfl (owp_yes rfl rfl (o_fa rfl rfl (owp_yes rfl rfl (o_ld (hc := Blk.cell (i := 0) (h112.1) rfl) rfl rfl ?_)))))
       refine owp_yes rfl rfl (o_eeS rfl rfl rfl (fun c124 => ?_) fun c124 => ?_)
       ·
        replace hy116 := ip hy116 c124
        refine o_pt rfl rfl rfl (o_mv rfl rfl (owp_yes rfl rfl (o_mv rfl rfl (owp_yes rfl rfl ?_))))
        obtain ⟨q125, e126, hy116⟩ := bs hy116
        refine l_callA (O := O110) (A := All w113) (R := fun w' F v => Vb w' F v q125) (c_base_Num (fun _ h => h) r80 e126) rfl rfl fun v131 w127 O128 S129 h130 => ?_
        obtain ⟨rfl, r132⟩ := h130.int
        refine owp_yes rfl rfl (o_mv rfl rfl (owp_yes rfl rfl ?_))
        obtain ⟨q133, e134, hy116⟩ := bs hy116
        refine l_callA (O := O128) (A := All w127) (R := fun w' F v => Vb w' F v q133) (c_base_Num (fun _ h => h) r107 e134) rfl rfl fun v139 w135 O136 S137 h138 => ?_
        obtain ⟨rfl, r140⟩ := h138.int
        refine owp_yes rfl rfl (o_eeS rfl rfl rfl (fun c141 => ?_) fun c141 => ?_)
        ·
         replace hy116 := ip hy116 c141
         refine o_pt rfl rfl rfl (o_as rfl rfl (o_z ?_))
         obtain rfl := sm hy116
         replace hB := ((((((hB.st S71).st S85).st S92).st S111).st S114).st S129).st S137
         exact ⟨(), _, ⟨rfl, trivial⟩, hB⟩
        ·
         replace hy116 := im hy116 c141
         refine o_pt rfl rfl rfl (o_as rfl rfl (o_z ?_))
         obtain rfl := sm hy116
         replace hB := ((((((hB.st S71).st S85).st S92).st S111).st S114).st S129).st S137
         exact ⟨(), _, ⟨rfl, trivial⟩, hB⟩
       ·
        replace hy116 := im hy116 c124
        refine o_pt rfl rfl rfl (o_mv rfl rfl (owp_no rfl rfl rfl rfl (owp_no rfl rfl rfl rfl (owp_no rfl rfl rfl rfl (owp_no rfl rfl rfl rfl (owp_no rfl rfl rfl rfl (o_pf rfl rfl rfl (o_as rfl rfl (o_z ?_)))))))))
        obtain rfl := sm hy116
        replace hB := ((((hB.st S71).st S85).st S92).st S111).st S114
        exact ⟨(), _, ⟨rfl, trivial⟩, hB⟩
      ·
       replace hy116 := im hy116 c123
       refine o_pt rfl rfl rfl (o_mv rfl rfl (owp_no rfl rfl rfl rfl (owp_no rfl rfl rfl rfl (owp_no rfl rfl rfl rfl (o_pf rfl rfl rfl (o_mv rfl rfl (owp_no rfl rfl rfl rfl (owp_no rfl rfl rfl rfl (owp_no rfl rfl rfl rfl (owp_no rfl rfl rfl rfl (owp_no rfl rfl rfl rfl (o_pf rfl rfl rfl (o_as rfl rfl (o_z ?_))))))))))))))
       obtain rfl := sm hy116
       replace hB := ((((hB.st S71).st S85).st S92).st S111).st S114
       exact ⟨(), _, ⟨rfl, trivial⟩, hB⟩
     ·
      replace hy116 := im hy116 c122
      refine o_pt rfl rfl rfl (o_mv rfl rfl (owp_no rfl rfl rfl rfl (owp_no rfl rfl rfl rfl (o_pf rfl rfl rfl (o_mv rfl rfl (owp_no rfl rfl rfl rfl (owp_no rfl rfl rfl rfl (owp_no rfl rfl rfl rfl (o_pf rfl rfl rfl (o_mv rfl rfl (owp_no rfl rfl rfl rfl (owp_no rfl rfl rfl rfl (owp_no rfl rfl rfl rfl (owp_no rfl rfl rfl rfl ?_))))))))))))))
      refine owp_no rfl rfl rfl rfl (o_pf rfl rfl rfl (o_as rfl rfl (o_z ?_)))
      obtain rfl := sm hy116
      replace hB := ((((hB.st S71).st S85).st S92).st S111).st S114
      exact ⟨(), _, ⟨rfl, trivial⟩, hB⟩
    ·
     replace hy116 := im hy116 c121
     refine o_mv rfl rfl (owp_no rfl rfl rfl rfl (owp_no rfl rfl rfl rfl (o_pf rfl rfl rfl (o_mv rfl rfl (owp_no rfl rfl rfl rfl (owp_no rfl rfl rfl rfl (o_pf rfl rfl rfl (o_mv rfl rfl (owp_no rfl rfl rfl rfl (owp_no rfl rfl rfl rfl (owp_no rfl rfl rfl rfl (o_pf rfl rfl rfl (o_mv rfl rfl (owp_no rfl rfl rfl rfl ?_))))))))))))))
     refine owp_no rfl rfl rfl rfl (owp_no rfl rfl rfl rfl (owp_no rfl rfl rfl rfl (owp_no rfl rfl rfl rfl (o_pf rfl rfl rfl (o_as rfl rfl (o_z ?_))))))
     obtain rfl := sm hy116
     replace hB := ((((hB.st S71).st S85).st S92).st S111).st S114
     exact ⟨(), _, ⟨rfl, trivial⟩, hB⟩
   replace hB := ((((hB.st S71).st S85).st S92).st S111).st S114
   rintro l142 w143 ⟨x118, O144, hs145, hB⟩
   refine ewp_sub _ hs145 ?_
   refine ewp_ret ?_
   obtain rfl := sm hm
   exact ret1v rfl (res_tmp rfl) ⟨hB.ext, vBool⟩
  replace hm := iT hm
  refine o_nt rfl rfl (o_z ?_)
  refine ewp_false rfl (ewp_skip (ewp_seq (ewp_seq (ewp_region (o_mv rfl rfl (o_rnS rfl rfl (fun c146 => ?_) fun c146 => ?_))))))
  ·
   replace hm := ip hm c146
   refine o_z ?_
   refine ewp_true rfl (ewp_seq ?_)
   obtain ⟨y147, hy148, hm⟩ := bs hm
   refine ewp_join (fun l' w' => ∃ (x150 : Unit) (O' : Lab), subs l' [(4, (.bool y147))] ∧ Bs w A w' O') ?_ ?_
   ·
    refine ewp_region (o_mv rfl rfl ?_)
    obtain ⟨q151, e152, hy148⟩ := bs hy148
    refine l_callA (O := O84) (A := All w83) (R := fun w' F v => Vb w' F v q151) (c_base_Is (fun _ h => h) r80 (show inI64 (2) from by decide) e152) rfl rfl fun v157 w153 O154 S155 h156 => ?_
    obtain rfl := h156.bool
    cases q151
    case false =>
     replace hy148 := iF hy148
     refine o_mv rfl rfl (owp_no rfl rfl rfl rfl (owp_no rfl rfl rfl rfl (owp_no rfl rfl rfl rfl (owp_no rfl rfl rfl rfl (owp_no rfl rfl rfl rfl (o_pf rfl rfl rfl (o_as rfl rfl (o_z ?_))))))))
     obtain rfl := sm hy148
     replace hB := ((hB.st S71).st S85).st S155
     exact ⟨(), _, ⟨rfl, trivial⟩, hB⟩
    replace hy148 := iT hy148
    refine o_mv rfl rfl (owp_yes rfl rfl (o_fa rfl rfl (owp_yes rfl rfl ?_)))
    replace h26 := (h26.st S85).st S155
    refine o_ld (hc := Blk.cell (i := 0) (h26.1) rfl) rfl rfl ?_
    refine owp_yes rfl rfl (o_mv rfl rfl (owp_yes rfl rfl ?_))
    obtain ⟨q158, e159, hy148⟩ := bs hy148
    replace hx1 := ((hx1.st S71).st S85).st S155
    replace h8 := (h8.st S85).st S155
    refine l_callA (O := O154) (A := All w153) (R := fun w' F v => Vb w' F v q158) (c_base_State (fun _ h => h) (Vb.mono (F := Fr 0 w153 O154) h8 Fr.lt) (Vb.mono (F := Fr 0 w153 O154) hx1 Fr.lt) e159) rfl rfl fun v164 w160 O161 S162 h163 => ?_
    obtain rfl := h163.bool
    cases q158
    case false =>
     replace hy148 := iF hy148
     refine owp_yes rfl rfl (o_nf rfl rfl (o_pt rfl rfl rfl (o_as rfl rfl (o_z ?_))))
     obtain rfl := sm hy148
     replace hB := (((hB.st S71).st S85).st S155).st S162
     exact ⟨(), _, ⟨rfl, trivial⟩, hB⟩
    replace hy148 := iT hy148
    refine owp_yes rfl rfl (o_nt rfl rfl (o_pt rfl rfl rfl (o_as rfl rfl (o_z ?_))))
    obtain rfl := sm hy148
    replace hB := (((hB.st S71).st S85).st S155).st S162
    exact ⟨(), _, ⟨rfl, trivial⟩, hB⟩
   replace hB := (hB.st S71).st S85
   rintro l165 w166 ⟨x150, O167, hs168, hB⟩
   refine ewp_sub _ hs168 ?_
   refine ewp_ret ?_
   obtain rfl := sm hm
   exact ret1v rfl (res_tmp rfl) ⟨hB.ext, vBool⟩
  ·
   replace hm := im hm c146
   refine o_z ?_
   refine ewp_false rfl (ewp_skip (ewp_seq (ewp_region (o_as rfl rfl (o_z ?_)))))
   refine ewp_seq (ewp_seq (ewp_region (o_mv rfl rfl (o_ln rfl rfl ?_))))
   replace h76 := h76.st S85
   have l170 : q67.1.length ≤ 9223372036854775807 := Nat.le_trans h76.len.2.1 h76.len.2.2
   have r169 : inI64 (q67.1.length : Int) := rngNat l170
   refine o_mv rfl rfl (o_z ?_)
   obtain ⟨res171, hL172, hm⟩ := bs hm
   refine ewp_join (aft res171 (fun (s173 : Unit) (x174 : Unit) => [(1, (.slice A20 x1.length c21)), (2, (.pointer (some ⟨g22, 0, none⟩))), (5, (.slice A78 q67.1.length c79)), (9, (.int .i64 0))]) (fun s173 x174 w' => ∃ O' : Lab, Bs w A w' O' ∧ Vb w' (Fr 0 w' O') (.slice A20 x1.length c21) x1 ∧ Lc 2 w' O' g22 26 [(.slice A9 x0.vars.length c10), (.slice A12 x0.init.length c13), (.slice A15 x0.goal.length c16), (.slice A18 x0.ops.length c19)] ∧ Vb w' (Fr 0 w' O') (.slice A9 x0.vars.length c10) x0.vars ∧ Vb w' (Fr 0 w' O') (.slice A12 x0.init.length c13) x0.init ∧ Vb w' (Fr 0 w' O') (.slice A15 x0.goal.length c16) x0.goal ∧ Vb w' (Fr 0 w' O') (.slice A18 x0.ops.length c19) x0.ops ∧ Vb w' (Fr 0 w' O') (.slice A78 q67.1.length c79) q67.1)) ?_ ?_
   ·
    refine ewp_block ?_
    replace hB := (hB.st S71).st S85
    replace hx1 := (hx1.st S71).st S85
    replace h8 := h8.st S85
    replace h11 := h11.st S85
    replace h14 := h14.st S85
    replace h17 := h17.st S85
    replace h26 := h26.st S85
    refine ewp_rng (σ := Unit) (X := Unit) (q67.1.length) hL172 rfl l170 (fun (s173 : Unit) (x174 : Unit) => [(1, (.slice A20 x1.length c21)), (2, (.pointer (some ⟨g22, 0, none⟩))), (5, (.slice A78 q67.1.length c79)), (9, (.int .i64 0)), (82, (.slice A78 q67.1.length c79))]) _ (fun s173 x174 w' => ∃ O' : Lab, Bs w A w' O' ∧ Vb w' (Fr 0 w' O') (.slice A20 x1.length c21) x1 ∧ Lc 2 w' O' g22 26 [(.slice A9 x0.vars.length c10), (.slice A12 x0.init.length c13), (.slice A15 x0.goal.length c16), (.slice A18 x0.ops.length c19)] ∧ Vb w' (Fr 0 w' O') (.slice A9 x0.vars.length c10) x0.vars ∧ Vb w' (Fr 0 w' O') (.slice A12 x0.init.length c13) x0.init ∧ Vb w' (Fr 0 w' O') (.slice A15 x0.goal.length c16) x0.goal ∧ Vb w' (Fr 0 w' O') (.slice A18 x0.ops.length c19) x0.ops ∧ Vb w' (Fr 0 w' O') (.slice A78 q67.1.length c79) q67.1) _ () ⟨O84, hB, hx1, h26, h8, h11, h14, h17, h76⟩ ⟨rfl, rfl, rfl, rfl, rfl, rfl, rfl, trivial⟩ (fun _ _ => ⟨rfl, rfl⟩) (fun _ _ => ⟨rfl, rfl, rfl, rfl, trivial⟩) (fun _ _ _ ⟨O', hB, hx1, h26, h8, h11, h14, h17, h76⟩ => ⟨O', hB, hx1, h26, h8, h11, h14, h17, h76⟩) ⟨rfl, rfl, rfl⟩ ⟨rfl, rfl⟩ ?_
    rintro k175 a176 s173 x174 w177 cc179 hx180 ⟨O178, hB, hx1, h26, h8, h11, h14, h17, h76⟩ hf181 hret182 hbrk183
    have rk175 : inI64 (k175 : Int) := rngK hx180 l170
    refine ewp_seq (ewp_region (o_mv rfl rfl ?_))
    obtain ⟨b186, o187, ce188, hA189, hl190, hd191, rfl, r193⟩ := h76.elem' hx180
    refine o_iaE (hA := hA189) (hj := rfl) (hlt := hl190) rfl rfl rfl ?_
    refine o_ld (hc := cat0 hd191) rfl rfl ?_
    refine o_as rfl rfl (o_as rfl rfl (o_z ?_))
    refine ewp_seq ?_
    obtain ⟨y194, hy195, hf181⟩ := bs hf181
    refine ewp_join (fun l' w' => ∃ (x197 : Unit) (O' : Lab), subs l' [(1, (.slice A20 x1.length c21)), (2, (.pointer (some ⟨g22, 0, none⟩))), (5, (.slice A78 q67.1.length c79)), (9, (.int .i64 0)), (82, (.slice A78 q67.1.length c79)), (83, (.int .i64 (q67.1.length : Int))), (84, (.int .i64 (k175 : Int))), (121, (.bool y194))] ∧ Bs w A w' O' ∧ Vb w' (Fr 0 w' O') (.slice A20 x1.length c21) x1 ∧ Lc 2 w' O' g22 26 [(.slice A9 x0.vars.length c10), (.slice A12 x0.init.length c13), (.slice A15 x0.goal.length c16), (.slice A18 x0.ops.length c19)] ∧ Vb w' (Fr 0 w' O') (.slice A9 x0.vars.length c10) x0.vars ∧ Vb w' (Fr 0 w' O') (.slice A12 x0.init.length c13) x0.init ∧ Vb w' (Fr 0 w' O') (.slice A15 x0.goal.length c16) x0.goal ∧ Vb w' (Fr 0 w' O') (.slice A18 x0.ops.length c19) x0.ops ∧ Vb w' (Fr 0 w' O') (.slice A78 q67.1.length c79) q67.1) ?_ ?_
    ·
     refine ewp_region (o_mv rfl rfl (o_ltS rfl rfl rfl (fun c198 => ?_) fun c198 => ?_))
     ·
      replace hy195 := ip hy195 c198
      refine o_mv rfl rfl (owp_no rfl rfl rfl rfl (owp_no rfl rfl rfl rfl (owp_no rfl rfl rfl rfl (owp_no rfl rfl rfl rfl (owp_no rfl rfl rfl rfl (o_pt rfl rfl rfl (o_mv rfl rfl (owp_no rfl rfl rfl rfl (owp_no rfl rfl rfl rfl (owp_no rfl rfl rfl rfl (owp_no rfl rfl rfl rfl (owp_no rfl rfl rfl rfl (owp_no rfl rfl rfl rfl (owp_no rfl rfl rfl rfl ?_))))))))))))))
      refine owp_no rfl rfl rfl rfl (owp_no rfl rfl rfl rfl (owp_no rfl rfl rfl rfl (owp_no rfl rfl rfl rfl (o_pt rfl rfl rfl (o_mv rfl rfl (owp_no rfl rfl rfl rfl (owp_no rfl rfl rfl rfl (owp_no rfl rfl rfl rfl (owp_no rfl rfl rfl rfl (owp_no rfl rfl rfl rfl (owp_no rfl rfl rfl rfl (owp_no rfl rfl rfl rfl (owp_no rfl rfl rfl rfl (owp_no rfl rfl rfl rfl ?_))))))))))))))
      refine o_pt rfl rfl rfl (o_z ?_)
      obtain rfl := sm hy195
      exact ⟨(), _, ⟨rfl, rfl, rfl, rfl, rfl, rfl, rfl, rfl, trivial⟩, hB, hx1, h26, h8, h11, h14, h17, h76⟩
     ·
      replace hy195 := im hy195 c198
      refine o_mv rfl rfl (owp_yes rfl rfl (o_mv rfl rfl (owp_yes rfl rfl (o_fa rfl rfl (owp_yes rfl rfl (o_ld (hc := Blk.cell (i := 3) (h26.1) rfl) rfl rfl ?_))))))
      refine owp_yes rfl rfl (o_ln rfl rfl ?_)
      have l200 : x0.ops.length ≤ 9223372036854775807 := Nat.le_trans h17.len.2.1 h17.len.2.2
      have r199 : inI64 (x0.ops.length : Int) := rngNat l200
      refine owp_yes rfl rfl (o_geS rfl rfl rfl (fun c201 => ?_) fun c201 => ?_)
      ·
       replace hy195 := ip hy195 c201
       refine o_pf rfl rfl rfl (o_mv rfl rfl (owp_no rfl rfl rfl rfl (owp_no rfl rfl rfl rfl (owp_no rfl rfl rfl rfl (owp_no rfl rfl rfl rfl (owp_no rfl rfl rfl rfl (owp_no rfl rfl rfl rfl (owp_no rfl rfl rfl rfl (owp_no rfl rfl rfl rfl (owp_no rfl rfl rfl rfl (owp_no rfl rfl rfl rfl (owp_no rfl rfl rfl rfl (o_pt rfl rfl rfl (o_mv rfl rfl ?_))))))))))))))
       refine owp_no rfl rfl rfl rfl (owp_no rfl rfl rfl rfl (owp_no rfl rfl rfl rfl (owp_no rfl rfl rfl rfl (owp_no rfl rfl rfl rfl (owp_no rfl rfl rfl rfl (owp_no rfl rfl rfl rfl (owp_no rfl rfl rfl rfl (owp_no rfl rfl rfl rfl (o_pt rfl rfl rfl (o_z ?_))))))))))
       obtain rfl := sm hy195
       exact ⟨(), _, ⟨rfl, rfl, rfl, rfl, rfl, rfl, rfl, rfl, trivial⟩, hB, hx1, h26, h8, h11, h14, h17, h76⟩
      ·
       replace hy195 := im hy195 c201
       refine o_pf rfl rfl rfl (o_mv rfl rfl (owp_yes rfl rfl (o_mv rfl rfl (owp_yes rfl rfl (o_gtS rfl rfl rfl (fun c202 => ?_) fun c202 => ?_)))))
       ·
        replace hy195 := ip hy195 c202
        refine owp_yes rfl rfl (o_mv rfl rfl (owp_yes rfl rfl (o_mv rfl rfl (owp_yes rfl rfl (o_mv rfl rfl (owp_yes rfl rfl ?_))))))
        obtain ⟨n203, e204, hy195⟩ := bs hy195
        have r205 := (chkI_rng e204)
        refine o_sbE (he := e204) rfl rfl rfl ?_
        refine owp_yes rfl rfl ?_
        obtain ⟨a206, e207, hy195⟩ := bs hy195
        obtain ⟨p209, x208⟩ := atI_some' e207
        obtain ⟨b210, o211, ce212, hA213, hl214, hd215, rfl, r217⟩ := h76.elem' x208
        refine o_iaE (hA := hA213) (hj := (Int.toNat_of_nonneg p209).symm) (hlt := hl214) rfl rfl rfl ?_
        refine owp_yes rfl rfl (o_ld (hc := cat0 hd215) rfl rfl ?_)
        refine owp_yes rfl rfl (o_mv rfl rfl (owp_yes rfl rfl (o_geS rfl rfl rfl (fun c218 => ?_) fun c218 => ?_)))
        ·
         replace hy195 := ip hy195 c218
         refine owp_yes rfl rfl (o_pt rfl rfl rfl (o_pf rfl rfl rfl (o_mv rfl rfl (owp_no rfl rfl rfl rfl (owp_no rfl rfl rfl rfl (owp_no rfl rfl rfl rfl (owp_no rfl rfl rfl rfl (owp_no rfl rfl rfl rfl (owp_no rfl rfl rfl rfl (owp_no rfl rfl rfl rfl (owp_no rfl rfl rfl rfl (owp_no rfl rfl rfl rfl (o_pt rfl rfl rfl (o_z ?_))))))))))))))
         obtain rfl := sm hy195
         exact ⟨(), _, ⟨rfl, rfl, rfl, rfl, rfl, rfl, rfl, rfl, trivial⟩, hB, hx1, h26, h8, h11, h14, h17, h76⟩
        ·
         replace hy195 := im hy195 c218
         refine owp_yes rfl rfl (o_pt rfl rfl rfl (o_pf rfl rfl rfl (o_mv rfl rfl (owp_yes rfl rfl (o_fa rfl rfl (owp_yes rfl rfl (o_ld (hc := Blk.cell (i := 3) (h26.1) rfl) rfl rfl ?_)))))))
         refine owp_yes rfl rfl (o_mv rfl rfl (owp_yes rfl rfl ?_))
         obtain ⟨a219, e220, hy195⟩ := bs hy195
         obtain ⟨p222, x221⟩ := atI_some' e220
         obtain ⟨b223, o224, ce225, hA226, hl227, hd228, v230, v231, rfl, h232, h235, r238, z239⟩ := h17.elem' x221
         obtain ⟨A233, c234, rfl⟩ := h232.form
         obtain ⟨A236, c237, rfl⟩ := h235.form
         refine o_iaE (hA := hA226) (hj := (Int.toNat_of_nonneg p222).symm) (hlt := hl227) rfl rfl rfl ?_
         refine owp_yes rfl rfl (o_fa rfl rfl (owp_yes rfl rfl (o_ld (hc := cat2 hd228) rfl rfl ?_)))
         refine owp_yes rfl rfl (o_mv rfl rfl (owp_yes rfl rfl ?_))
         obtain ⟨q240, e241, hy195⟩ := bs hy195
         refine l_callA (O := O178) (A := All w177) (R := fun w' F v => Vb w' F v q240) (c_base_Holds (fun _ h => h) (Vb.mono (F := Fr 0 w177 O178) h232 Fr.lt) (Vb.mono (F := Fr 0 w177 O178) hx1 Fr.lt) e241) rfl rfl fun v246 w242 O243 S244 h245 => ?_
         obtain rfl := h245.bool
         cases q240
         case false =>
          replace hy195 := iF hy195
          refine owp_yes rfl rfl (o_nf rfl rfl (o_pf rfl rfl rfl (o_z ?_)))
          obtain rfl := sm hy195
          replace hB := hB.st S244
          replace hx1 := hx1.st S244
          replace h8 := h8.st S244
          replace h11 := h11.st S244
          replace h14 := h14.st S244
          replace h17 := h17.st S244
          replace h26 := h26.st S244
          replace h76 := h76.st S244
          exact ⟨(), _, ⟨rfl, rfl, rfl, rfl, rfl, rfl, rfl, rfl, trivial⟩, hB, hx1, h26, h8, h11, h14, h17, h76⟩
         replace hy195 := iT hy195
         refine owp_yes rfl rfl (o_nt rfl rfl (o_pf rfl rfl rfl (o_z ?_)))
         obtain rfl := sm hy195
         replace hB := hB.st S244
         replace hx1 := hx1.st S244
         replace h8 := h8.st S244
         replace h11 := h11.st S244
         replace h14 := h14.st S244
         replace h17 := h17.st S244
         replace h26 := h26.st S244
         replace h76 := h76.st S244
         exact ⟨(), _, ⟨rfl, rfl, rfl, rfl, rfl, rfl, rfl, rfl, trivial⟩, hB, hx1, h26, h8, h11, h14, h17, h76⟩
       ·
        replace hy195 := im hy195 c202
        refine owp_yes rfl rfl (o_mv rfl rfl (owp_no rfl rfl rfl rfl (owp_no rfl rfl rfl rfl (owp_no rfl rfl rfl rfl (owp_no rfl rfl rfl rfl (owp_no rfl rfl rfl rfl (owp_no rfl rfl rfl rfl (owp_no rfl rfl rfl rfl (owp_yes rfl rfl (o_pf rfl rfl rfl (o_pf rfl rfl rfl (o_mv rfl rfl (owp_yes rfl rfl (o_fa rfl rfl ?_))))))))))))))
        refine owp_yes rfl rfl (o_ld (hc := Blk.cell (i := 3) (h26.1) rfl) rfl rfl ?_)
        refine owp_yes rfl rfl (o_mv rfl rfl (owp_yes rfl rfl ?_))
        obtain ⟨a247, e248, hy195⟩ := bs hy195
        obtain ⟨p250, x249⟩ := atI_some' e248
        obtain ⟨b251, o252, ce253, hA254, hl255, hd256, v258, v259, rfl, h260, h263, r266, z267⟩ := h17.elem' x249
        obtain ⟨A261, c262, rfl⟩ := h260.form
        obtain ⟨A264, c265, rfl⟩ := h263.form
        refine o_iaE (hA := hA254) (hj := (Int.toNat_of_nonneg p250).symm) (hlt := hl255) rfl rfl rfl ?_
        refine owp_yes rfl rfl (o_fa rfl rfl (owp_yes rfl rfl (o_ld (hc := cat2 hd256) rfl rfl ?_)))
        refine owp_yes rfl rfl (o_mv rfl rfl (owp_yes rfl rfl ?_))
        obtain ⟨q268, e269, hy195⟩ := bs hy195
        refine l_callA (O := O178) (A := All w177) (R := fun w' F v => Vb w' F v q268) (c_base_Holds (fun _ h => h) (Vb.mono (F := Fr 0 w177 O178) h260 Fr.lt) (Vb.mono (F := Fr 0 w177 O178) hx1 Fr.lt) e269) rfl rfl fun v274 w270 O271 S272 h273 => ?_
        obtain rfl := h273.bool
        cases q268
        case false =>
         replace hy195 := iF hy195
         refine owp_yes rfl rfl (o_nf rfl rfl (o_pf rfl rfl rfl (o_z ?_)))
         obtain rfl := sm hy195
         replace hB := hB.st S272
         replace hx1 := hx1.st S272
         replace h8 := h8.st S272
         replace h11 := h11.st S272
         replace h14 := h14.st S272
         replace h17 := h17.st S272
         replace h26 := h26.st S272
         replace h76 := h76.st S272
         exact ⟨(), _, ⟨rfl, rfl, rfl, rfl, rfl, rfl, rfl, rfl, trivial⟩, hB, hx1, h26, h8, h11, h14, h17, h76⟩
        replace hy195 := iT hy195
        refine owp_yes rfl rfl (o_nt rfl rfl (o_pf rfl rfl rfl (o_z ?_)))
        obtain rfl := sm hy195
        replace hB := hB.st S272
        replace hx1 := hx1.st S272
        replace h8 := h8.st S272
        replace h11 := h11.st S272
        replace h14 := h14.st S272
        replace h17 := h17.st S272
        replace h26 := h26.st S272
        replace h76 := h76.st S272
        exact ⟨(), _, ⟨rfl, rfl, rfl, rfl, rfl, rfl, rfl, rfl, trivial⟩, hB, hx1, h26, h8, h11, h14, h17, h76⟩
    rintro l275 w276 ⟨x197, O277, hs278, hB, hx1, h26, h8, h11, h14, h17, h76⟩
    refine ewp_sub _ hs278 ?_
    refine ewp_cond rfl (fun c279 => ?_) (fun c279 => ?_)
    ·
     replace hf181 := ip hf181 c279
     refine ewp_seq (ewp_region (o_as rfl rfl (o_z ?_)))
     refine ewp_ret ?_
     obtain rfl := sm hf181
     obtain rfl := hret182 _ rfl
     obtain rfl := sm (fin_ret hm)
     exact ret1v rfl (res_tmp rfl) ⟨hB.ext, vBool⟩
    ·
     replace hf181 := im' hf181 c279
     refine ewp_skip ?_
     obtain rfl := sm hf181
     refine (?_ : Exists _)
     exact ⟨_, (), rfl, ⟨rfl, rfl, rfl, rfl, rfl, rfl, rfl, trivial⟩, _, hB, hx1, h26, h8, h11, h14, h17, h76⟩
   replace hB := (hB.st S71).st S85
   replace hx1 := (hx1.st S71).st S85
   replace h8 := h8.st S85
   replace h11 := h11.st S85
   replace h14 := h14.st S85
   replace h17 := h17.st S85
   replace h26 := h26.st S85
   rintro l280 w281 ⟨s284, x285, rfl, hs283, O282, hB, hx1, h26, h8, h11, h14, h17, h76⟩
   replace hm := fin_done hm
   refine ewp_sub _ hs283 ?_
   refine ewp_seq (ewp_seq (ewp_region (o_fa rfl rfl (o_ld (hc := Blk.cell (i := 3) (h26.1) rfl) rfl rfl ?_))))
   refine o_ln rfl rfl ?_
   have l287 : x0.ops.length ≤ 9223372036854775807 := Nat.le_trans h17.len.2.1 h17.len.2.2
   have r286 : inI64 (x0.ops.length : Int) := rngNat l287
   refine o_mv rfl rfl (o_z ?_)
   obtain ⟨res288, hL289, hm⟩ := bs hm
   refine ewp_join (aft res288 (fun (s290 : Int) (x291 : Unit) => [(1, (.slice A20 x1.length c21)), (2, (.pointer (some ⟨g22, 0, none⟩))), (5, (.slice A78 q67.1.length c79)), (9, (.int .i64 s290))]) (fun s290 x291 w' => ∃ O' : Lab, Bs w A w' O' ∧ Vb w' (Fr 0 w' O') (.slice A20 x1.length c21) x1 ∧ Lc 2 w' O' g22 26 [(.slice A9 x0.vars.length c10), (.slice A12 x0.init.length c13), (.slice A15 x0.goal.length c16), (.slice A18 x0.ops.length c19)] ∧ Vb w' (Fr 0 w' O') (.slice A9 x0.vars.length c10) x0.vars ∧ Vb w' (Fr 0 w' O') (.slice A12 x0.init.length c13) x0.init ∧ Vb w' (Fr 0 w' O') (.slice A15 x0.goal.length c16) x0.goal ∧ Vb w' (Fr 0 w' O') (.slice A18 x0.ops.length c19) x0.ops ∧ Vb w' (Fr 0 w' O') (.slice A78 q67.1.length c79) q67.1 ∧ inI64 s290)) ?_ ?_
   ·
    refine ewp_block (ewp_rng (σ := Int) (X := Unit) (x0.ops.length) hL289 rfl l287 (fun (s290 : Int) (x291 : Unit) => [(1, (.slice A20 x1.length c21)), (2, (.pointer (some ⟨g22, 0, none⟩))), (5, (.slice A78 q67.1.length c79)), (9, (.int .i64 s290)), (124, (.slice A18 x0.ops.length c19))]) _ (fun s290 x291 w' => ∃ O' : Lab, Bs w A w' O' ∧ Vb w' (Fr 0 w' O') (.slice A20 x1.length c21) x1 ∧ Lc 2 w' O' g22 26 [(.slice A9 x0.vars.length c10), (.slice A12 x0.init.length c13), (.slice A15 x0.goal.length c16), (.slice A18 x0.ops.length c19)] ∧ Vb w' (Fr 0 w' O') (.slice A9 x0.vars.length c10) x0.vars ∧ Vb w' (Fr 0 w' O') (.slice A12 x0.init.length c13) x0.init ∧ Vb w' (Fr 0 w' O') (.slice A15 x0.goal.length c16) x0.goal ∧ Vb w' (Fr 0 w' O') (.slice A18 x0.ops.length c19) x0.ops ∧ Vb w' (Fr 0 w' O') (.slice A78 q67.1.length c79) q67.1 ∧ inI64 s290) _ () ⟨O282, hB, hx1, h26, h8, h11, h14, h17, h76, (show inI64 (0) from by decide)⟩ ⟨rfl, rfl, rfl, rfl, rfl, rfl, rfl, trivial⟩ (fun _ _ => ⟨rfl, rfl⟩) (fun _ _ => ⟨rfl, rfl, rfl, rfl, trivial⟩) (fun _ _ _ ⟨O', hB, hx1, h26, h8, h11, h14, h17, h76, r304⟩ => ⟨O', hB, hx1, h26, h8, h11, h14, h17, h76, r304⟩) ⟨rfl, rfl, rfl⟩ ⟨rfl, rfl⟩ ?_)
    rintro k292 a293 s290 x291 w294 cc296 hx297 ⟨O295, hB, hx1, h26, h8, h11, h14, h17, h76, r304⟩ hf298 hret299 hbrk300
    have rk292 : inI64 (k292 : Int) := rngK hx297 l287
    refine ewp_seq (ewp_region ?_)
    obtain ⟨b305, o306, ce307, hA308, hl309, hd310, v312, v313, rfl, h314, h317, r320, z321⟩ := h17.elem' hx297
    obtain ⟨A315, c316, rfl⟩ := h314.form
    obtain ⟨A318, c319, rfl⟩ := h317.form
    refine o_iaE (hA := hA308) (hj := rfl) (hlt := hl309) rfl rfl rfl ?_
    refine o_la (hl := rfl) (hc := hd310) rfl rfl ?_
    refine l_alloc 4 O295 rfl fun g322 w323 O324 S325 h326 => ?_
    refine l_store h326 rfl rfl rfl (Nat.le_of_ble_eq_true rfl) (by first | exact allOne rfl | simp [Value.cells, Value.oneCell', errV_one]) fun w327 S328 h326 => ?_
    replace h326 : Lc 4 w327 O324 g322 48 [(.string a293.name), (.int .i64 a293.cost), (.slice A315 a293.pre.length c316), (.slice A318 a293.effs.length c319)] := h326
    refine o_z ?_
    refine ewp_seq (ewp_region (o_fa rfl rfl (o_ld (hc := Blk.cell (i := 2) (h326.1) rfl) rfl rfl ?_)))
    refine o_mv rfl rfl ?_
    obtain ⟨q329, e330, hf298⟩ := bs hf298
    replace hx1 := (hx1.st S325).st S328
    replace h314 := (h314.st S325).st S328
    refine l_callA (O := O324) (A := All w327) (R := fun w' F v => Vb w' F v q329) (c_base_Holds (fun _ h => h) (Vb.mono (F := Fr 0 w327 O324) h314 Fr.lt) (Vb.mono (F := Fr 0 w327 O324) hx1 Fr.lt) e330) rfl rfl fun v335 w331 O332 S333 h334 => ?_
    obtain rfl := h334.bool
    cases q329
    case false =>
     replace hf298 := iF hf298
     refine o_z ?_
     refine ewp_false rfl (ewp_skip ?_)
     obtain rfl := sm hf298
     refine (?_ : Exists _)
     replace hB := ((hB.st S325).st S328).st S333
     replace hx1 := hx1.st S333
     replace h8 := ((h8.st S325).st S328).st S333
     replace h11 := ((h11.st S325).st S328).st S333
     replace h14 := ((h14.st S325).st S328).st S333
     replace h17 := ((h17.st S325).st S328).st S333
     replace h26 := ((h26.st S325).st S328).st S333
     replace h76 := ((h76.st S325).st S328).st S333
     exact ⟨_, (), rfl, ⟨rfl, rfl, rfl, rfl, rfl, rfl, rfl, trivial⟩, _, hB, hx1, h26, h8, h11, h14, h17, h76, r304⟩
    replace hf298 := iT hf298
    refine o_z ?_
    refine ewp_true rfl (ewp_region (o_mv rfl rfl ?_))
    obtain ⟨n336, e337, hf298⟩ := bs hf298
    have r338 := (chkI_rng e337)
    refine o_adE (he := e337) rfl rfl rfl ?_
    refine o_as rfl rfl (o_z ?_)
    obtain rfl := sm hf298
    refine (?_ : Exists _)
    replace hB := ((hB.st S325).st S328).st S333
    replace hx1 := hx1.st S333
    replace h8 := ((h8.st S325).st S328).st S333
    replace h11 := ((h11.st S325).st S328).st S333
    replace h14 := ((h14.st S325).st S328).st S333
    replace h17 := ((h17.st S325).st S328).st S333
    replace h26 := ((h26.st S325).st S328).st S333
    replace h76 := ((h76.st S325).st S328).st S333
    exact ⟨_, (), rfl, ⟨rfl, rfl, rfl, rfl, rfl, rfl, rfl, trivial⟩, _, hB, hx1, h26, h8, h11, h14, h17, h76, r338⟩
   rintro l339 w340 ⟨s343, x344, rfl, hs342, O341, hB, hx1, h26, h8, h11, h14, h17, h76, r304⟩
   replace hm := fin_done hm
   refine ewp_sub _ hs342 ?_
   refine ewp_seq ?_
   obtain ⟨y345, hy346, hm⟩ := bs hm
   refine ewp_join (fun l' w' => ∃ (x348 : Unit) (O' : Lab), subs l' [(4, (.bool y345))] ∧ Bs w A w' O') ?_ ?_
   ·
    refine ewp_region (o_fa rfl rfl (o_ld (hc := Blk.cell (i := 2) (h26.1) rfl) rfl rfl ?_))
    refine o_mv rfl rfl ?_
    obtain ⟨q349, e350, hy346⟩ := bs hy346
    refine l_callA (O := O341) (A := All w340) (R := fun w' F v => Vb w' F v q349) (c_base_Holds (fun _ h => h) (Vb.mono (F := Fr 0 w340 O341) h14 Fr.lt) (Vb.mono (F := Fr 0 w340 O341) hx1 Fr.lt) e350) rfl rfl fun v355 w351 O352 S353 h354 => ?_
    obtain rfl := h354.bool
    cases q349
    case false =>
     replace hy346 := iF hy346
     refine o_nf rfl rfl (o_mv rfl rfl (owp_no rfl rfl rfl rfl (owp_no rfl rfl rfl rfl (owp_no rfl rfl rfl rfl (owp_no rfl rfl rfl rfl (o_pt rfl rfl rfl (o_as rfl rfl (o_z ?_))))))))
     obtain rfl := sm hy346
     replace hB := hB.st S353
     exact ⟨(), _, ⟨rfl, trivial⟩, hB⟩
    replace hy346 := iT hy346
    refine o_nt rfl rfl (o_mv rfl rfl (owp_yes rfl rfl (o_mv rfl rfl (owp_yes rfl rfl (o_mv rfl rfl (owp_yes rfl rfl (o_ln rfl rfl ?_)))))))
    replace h76 := h76.st S353
    have l357 : q67.1.length ≤ 9223372036854775807 := Nat.le_trans h76.len.2.1 h76.len.2.2
    have r356 : inI64 (q67.1.length : Int) := rngNat l357
    refine owp_yes rfl rfl (o_eeS rfl rfl rfl (fun c358 => ?_) fun c358 => ?_)
    ·
     replace hy346 := ip hy346 c358
     refine o_pf rfl rfl rfl (o_as rfl rfl (o_z ?_))
     obtain rfl := sm hy346
     replace hB := hB.st S353
     exact ⟨(), _, ⟨rfl, trivial⟩, hB⟩
    ·
     replace hy346 := im hy346 c358
     refine o_pf rfl rfl rfl (o_as rfl rfl (o_z ?_))
     obtain rfl := sm hy346
     replace hB := hB.st S353
     exact ⟨(), _, ⟨rfl, trivial⟩, hB⟩
   rintro l359 w360 ⟨x348, O361, hs362, hB⟩
   refine ewp_sub _ hs362 ?_
   refine ewp_ret ?_
   obtain rfl := sm hm
   exact ret1v rfl (res_tmp rfl) ⟨hB.ext, vBool⟩
end
section
open Go Go.RowKit
def Le {α : Type} (x y : Option α) : Prop := ∀ r, x = some r → y = some r
theorem Le.rf {α : Type} {x : Option α} : Le x x := fun _ h => h
theorem Le.bnd {α β : Type} {x x' : Option α} {f f' : α → Option β} (h : Le x x') (hf : ∀ a, Le (f a) (f' a)) : Le (bnd x f) (bnd x' f') := fun r hr => by
  obtain ⟨a, ha, hb⟩ := bs hr
  rw [h a ha, bnd_some]
  exact hf a r hb
theorem Le.ite {α : Type} {p : Prop} [Decidable p] {x x' y y' : Option α} (h : Le x x') (k : Le y y') : Le (if p then x else y) (if p then x' else y') := by
  by_cases hp : p
  · rw [if_pos hp, if_pos hp]; exact h
  · rw [if_neg hp, if_neg hp]; exact k
theorem Le.fin {σ κ : Type} {y : Fin σ κ} {f f' : σ → Option κ} (hf : ∀ a, Le (f a) (f' a)) : Le (fin y f) (fin y f') := by
  cases y with
  | done s => exact hf s
  | ret c => exact Le.rf
theorem Le.rng {α σ ρ : Type} {f f' : Nat → α → σ → Option (Ctl σ ρ)} (hf : ∀ k a s, Le (f k a s) (f' k a s)) : ∀ {xs : List α} {k : Nat} {s : σ}, Le (rng f xs k s) (rng f' xs k s)
  | [], _, _ => Le.rf
  | x :: xs, k, s => fun r hr => by
    simp only [Proofs.Ytgnmjmcjadpmhaa.rng] at hr ⊢
    cases hc : f k x s with
    | none => rw [hc] at hr; cases hr
    | some c =>
      rw [hc] at hr
      rw [hf k x s c hc]
      cases c with
      | next s' => exact Le.rng hf r hr
      | brk s' => exact hr
      | ret q => exact hr
theorem Le.rngN {σ ρ : Type} {f f' : Nat → σ → Option (Ctl σ ρ)} {n : Nat} {s : σ} (hf : ∀ k s, Le (f k s) (f' k s)) : Le (rngN f n s) (rngN f' n s) := Le.rng fun _ k s => hf k s
theorem Le.itr {σ ρ : Type} {f f' : σ → Option (Ctl σ ρ)} (hf : ∀ s, Le (f s) (f' s)) : ∀ (n : Nat) (s : σ), Le (itr f n s) (itr f' n s)
  | 0, _ => Le.rf
  | n + 1, s => fun r hr => by
    simp only [Proofs.Ytgnmjmcjadpmhaa.itr] at hr ⊢
    cases hc : f s with
    | none => rw [hc] at hr; cases hr
    | some c =>
      rw [hc] at hr
      rw [hf s c hc]
      cases c with
      | next s' => exact Le.itr hf n s' r hr
      | brk s' => exact hr
      | ret q => exact hr
def lopE {σ ρ : Type} (f : σ → Option (Ctl σ ρ)) (s : σ) : Option (Fin σ ρ) := itr f 600 s
theorem Le.lop {σ ρ : Type} {f f' : σ → Option (Ctl σ ρ)} {s : σ} (hf : ∀ s, Le (f s) (f' s)) : Le (lopE f s) (lop f' s) := fun r hr => lop_some.2 ⟨600, Le.itr hf 600 s r hr⟩
end
section
open Go Go.RowKit
def factB (vars : List Int) (x : Fct) : Bool := decide (0 ≤ x.var) && (decide (0 ≤ x.val) && (match vars[x.var.toNat]? with | some y => decide (x.val < y) | none => false))
theorem factB_ok {vars : List Int} {x : Fct} (h : factB vars x = true) : FactOk vars x := by
  unfold factB at h
  simp only [Bool.and_eq_true, decide_eq_true_eq] at h
  obtain ⟨h1, h2, h3⟩ := h
  cases hv : vars[x.var.toNat]? with
  | none => rw [hv] at h3; cases h3
  | some y => rw [hv] at h3; exact ⟨h1, h2, y, hv, by simpa using h3⟩
def ascB : List Fct → Bool
  | x :: y :: r => decide (x.var < y.var) && ascB (y :: r)
  | _ => true
theorem ascB_ok : ∀ {f : List Fct}, ascB f = true → ∀ (i : Nat) x y, f[i]? = some x → f[i + 1]? = some y → x.var < y.var
  | [], _, i, x, y, h, _ => by simp at h
  | [_], _, i, x, y, _, h => by simp at h
  | a :: b :: r, h, i, x, y, h1, h2 => by
    simp only [ascB, Bool.and_eq_true, decide_eq_true_eq] at h
    cases i with
    | zero => simp at h1 h2; subst h1; subst h2; exact h.1
    | succ i => exact ascB_ok h.2 i x y (by simpa using h1) (by simpa using h2)
def factsB (vars : List Int) (f : List Fct) : Bool := f.all (factB vars) && ascB f
theorem factsB_ok {vars : List Int} {f : List Fct} (h : factsB vars f = true) : FactsOk vars f := by
  unfold factsB at h
  rw [Bool.and_eq_true, List.all_eq_true] at h
  exact ⟨fun i x hx => factB_ok (h.1 x (List.mem_of_getElem? hx)), ascB_ok h.2⟩
def stateB : List Int → List Int → Bool
  | [], [] => true
  | y :: vars, x :: s => decide (0 ≤ x) && (decide (x < y) && stateB vars s)
  | _, _ => false
theorem stateB_ok : ∀ {vars s : List Int}, stateB vars s = true → StateOk vars s
  | [], [], _ => ⟨rfl, fun i x y h => by simp at h⟩
  | y :: vars, x :: s, h => by
    simp only [stateB, Bool.and_eq_true, decide_eq_true_eq] at h
    obtain ⟨h1, h2⟩ := stateB_ok h.2.2
    refine ⟨by simp [h1], fun i a b ha hb => ?_⟩
    cases i with
    | zero => simp at ha hb; subst ha; subst hb; exact ⟨h.1, h.2.1⟩
    | succ i => exact h2 i a b (by simpa using ha) (by simpa using hb)
  | [], _ :: _, h => by simp [stateB] at h
  | _ :: _, [], h => by simp [stateB] at h
def nameB (s : ByteArray) : Bool := decide (s.size ≤ 256) && s.data.toList.all fun c => decide (32 ≤ c.toNat) && decide (c.toNat ≤ 126)
theorem nameB_ok {s : ByteArray} (h : nameB s = true) : NameOk s := by
  unfold nameB at h
  simp only [Bool.and_eq_true, decide_eq_true_eq, List.all_eq_true] at h
  refine ⟨h.1, fun i hi => h.2 _ ?_⟩
  show s.data[i] ∈ _
  simp
def opB (vars : List Int) (o : Opr) : Bool := decide (0 ≤ o.cost) && (decide (o.cost ≤ 1048576) && (decide (o.effs.length ≤ 64) && (nameB o.name && (factsB vars o.pre && o.effs.all fun e => factsB vars e.cond && factB vars ⟨e.var, e.val⟩))))
theorem opB_ok {vars : List Int} {o : Opr} (h : opB vars o = true) : OpOk vars o := by
  unfold opB at h
  simp only [Bool.and_eq_true, decide_eq_true_eq, List.all_eq_true] at h
  obtain ⟨h1, h2, h3, h4, h5, h6⟩ := h
  exact ⟨h1, h2, h3, nameB_ok h4, factsB_ok h5, fun i e he => ⟨factsB_ok (h6 e (List.mem_of_getElem? he)).1, factB_ok (h6 e (List.mem_of_getElem? he)).2⟩⟩
def taskB (t : Tsk) : Bool := decide (t.vars.length ≤ 64) && (decide (t.ops.length ≤ 4096) && ((t.vars.all fun n => decide (1 ≤ n) && decide (n ≤ 64)) && (stateB t.vars t.init && (factsB t.vars t.goal && t.ops.all (opB t.vars)))))
theorem taskB_ok {t : Tsk} (h : taskB t = true) : TaskOk t := by
  unfold taskB at h
  simp only [Bool.and_eq_true, decide_eq_true_eq, List.all_eq_true] at h
  obtain ⟨h1, h2, h3, h4, h5, h6⟩ := h
  exact ⟨h1, h2, fun i n hn => h3 n (List.mem_of_getElem? hn), stateB_ok h4, factsB_ok h5, fun i o ho => opB_ok (h6 o (List.mem_of_getElem? ho))⟩
def e_task_Check (t : Tsk) : Option Err := if taskB t = true then some ⟨0⟩ else none
theorem le_task_Check (t : Tsk) : Le (e_task_Check t) (m_task_Check t) := fun r h => by
  obtain ⟨h1, rfl⟩ := ite_some h
  unfold m_task_Check
  rw [check_ok.2 (taskB_ok h1)]
def e_task_Proper (x y : List Int) : Option Bool := if stateB x y = true then some true else none
theorem le_task_Proper (x y : List Int) : Le (e_task_Proper x y) (m_task_Proper x y) := fun r h => by
  obtain ⟨h1, rfl⟩ := ite_some h
  unfold m_task_Proper
  rw [bof_t (stateB_ok h1)]
def e_base_Ints (x y : List Int) : Option Bool := some (decide (x = y))
theorem le_base_Ints (x y : List Int) : Le (e_base_Ints x y) (m_base_Ints x y) := fun r h => by
  unfold e_base_Ints at h
  unfold m_base_Ints
  rw [← h]
  by_cases hx : x = y
  · rw [bof_t hx]; simp [hx]
  · rw [bof_f hx]; simp [hx]
def e_task_Holds (f : List Fct) (s : List Int) : Option Bool := m_task_Holds f s
theorem le_task_Holds (f : List Fct) (s : List Int) : Le (e_task_Holds f s) (m_task_Holds f s) := Le.rf
def e_slices_Clone_Lint_int (x : List Int) : Option (List Int) := m_slices_Clone_Lint_int x
theorem le_slices_Clone_Lint_int (x : List Int) : Le (e_slices_Clone_Lint_int x) (m_slices_Clone_Lint_int x) := Le.rf
end
section
open Go Go.RowKit
def e_slices_Sort_Lint_int (xs : List Int) : Option (List Int) := if xs.length ≤ 1000000 then some (insS xs) else none
theorem le_slices_Sort_Lint_int (xs : List Int) : Le (e_slices_Sort_Lint_int xs) (m_slices_Sort_Lint_int xs) := fun r h => by
  unfold e_slices_Sort_Lint_int at h
  unfold m_slices_Sort_Lint_int
  rw [sortL_ins]; exact h
def e_slices_Clone_Luint64_uint64 (x : List U64) : Option (List U64) := m_slices_Clone_Luint64_uint64 x
theorem le_slices_Clone_Luint64_uint64 (x : List U64) : Le (e_slices_Clone_Luint64_uint64 x) (m_slices_Clone_Luint64_uint64 x) := Le.rf
noncomputable def e_pqueue_New  : Option (Option Que) :=
  some (some (⟨([] : List QEn), 0⟩ : Que))
theorem le_pqueue_New  : Le (e_pqueue_New ) (m_pqueue_New ) := by
  unfold e_pqueue_New m_pqueue_New
  repeat' (first | apply Le.ite | apply Le.bnd | apply Le.fin | apply Le.rng | apply Le.rngN | apply Le.lop | exact Le.rf | intro _)
noncomputable def e_pqueue_before (x0 : QEn) (x1 : QEn) : Option Bool :=
  if x0.key ≠ x1.key then (bnd (if x0.key < x1.key then (some true) else (some false) : Option Bool) fun y24 => some y24) else (if x0.tie ≠ x1.tie then (bnd (if x0.tie < x1.tie then (some true) else (some false) : Option Bool) fun y34 => some y34) else (bnd (if x0.number < x1.number then (some true) else (some false) : Option Bool) fun y43 => some y43))
theorem le_pqueue_before (x0 : QEn) (x1 : QEn) : Le (e_pqueue_before x0 x1) (m_pqueue_before x0 x1) := by
  unfold e_pqueue_before m_pqueue_before
  repeat' (first | apply Le.ite | apply Le.bnd | apply Le.fin | apply Le.rng | apply Le.rngN | apply Le.lop | exact Le.rf | intro _)
noncomputable def e_pqueue_Queue_Len (x0 : Que) : Option Int :=
  some (x0.heap.length : Int)
theorem le_pqueue_Queue_Len (x0 : Que) : Le (e_pqueue_Queue_Len x0) (m_pqueue_Queue_Len x0) := by
  unfold e_pqueue_Queue_Len m_pqueue_Queue_Len
  repeat' (first | apply Le.ite | apply Le.bnd | apply Le.fin | apply Le.rng | apply Le.rngN | apply Le.lop | exact Le.rf | intro _)
noncomputable def e_pqueue_Queue_Peek (x0 : Que) : Option (Int × Int × Int × Err) :=
  if (x0.heap.length : Int) = 0 then (some (0, 0, 0, (⟨3⟩ : Err))) else (bnd (atI x0.heap 0) fun a20 => some (a20.key, a20.tie, a20.item, (⟨0⟩ : Err)))
theorem le_pqueue_Queue_Peek (x0 : Que) : Le (e_pqueue_Queue_Peek x0) (m_pqueue_Queue_Peek x0) := by
  unfold e_pqueue_Queue_Peek m_pqueue_Queue_Peek
  repeat' (first | apply Le.ite | apply Le.bnd | apply Le.fin | apply Le.rng | apply Le.rngN | apply Le.lop | exact Le.rf | intro _)
noncomputable def e_pqueue_Queue_up (x0 : Que) (x1 : Int) : Option Que :=
  bnd (lopE (ρ := Que) (fun (s5 : Int × Que) => if 0 < s5.1 then (bnd (chkI (s5.1 - 1)) fun n23 => bnd (quoI n23 2) fun n26 => bnd (atI s5.2.heap s5.1) fun a39 => bnd (atI s5.2.heap n26) fun a54 => bnd (e_pqueue_before a39 a54) fun q69 => if q69 = true then bnd (atI s5.2.heap n26) fun a81 => bnd (atI s5.2.heap s5.1) fun a96 => bnd (atI s5.2.heap s5.1) fun a111 => bnd (atI (s5.2.heap.set (s5.1 : Int).toNat a81) n26) fun a128 => some (.next (n26, (⟨((s5.2.heap.set (s5.1 : Int).toNat a81).set (n26 : Int).toNat a96), s5.2.next⟩ : Que))) else some (.ret s5.2)) else (some (.brk (s5.1, s5.2)))) (x1, x0)) fun res3 => fin res3 fun (s154 : Int × Que) => some s154.2
theorem le_pqueue_Queue_up (x0 : Que) (x1 : Int) : Le (e_pqueue_Queue_up x0 x1) (m_pqueue_Queue_up x0 x1) := by
  unfold e_pqueue_Queue_up m_pqueue_Queue_up
  repeat' (first | apply le_pqueue_before | apply Le.ite | apply Le.bnd | apply Le.fin | apply Le.rng | apply Le.rngN | apply Le.lop | exact Le.rf | intro _)
noncomputable def e_pqueue_Queue_down (x0 : Que) (x1 : Int) : Option Que :=
  bnd (lopE (ρ := Que) (fun (s5 : Int × Que) => bnd (chkI (2 * s5.1)) fun n22 => bnd (chkI (n22 + 1)) fun n25 => if (s5.2.heap.length : Int) ≤ n25 then (some (.ret s5.2)) else (bnd (bnd (bnd (chkI (n25 + 1)) fun n55 => if n55 < (s5.2.heap.length : Int) then (bnd (chkI (n25 + 1)) fun n61 => bnd (atI s5.2.heap n61) fun a64 => bnd (atI s5.2.heap n25) fun a79 => bnd (e_pqueue_before a64 a79) fun q94 => if q94 = true then some true else some false) else (some false) : Option Bool) fun y51 => if y51 = true then (bnd (chkI (n25 + 1)) fun n121 => some n121) else (some n25) : Option Int) fun y46 => bnd (atI s5.2.heap y46) fun a138 => bnd (atI s5.2.heap s5.1) fun a153 => bnd (e_pqueue_before a138 a153) fun q168 => if q168 = true then bnd (atI s5.2.heap y46) fun a180 => bnd (atI s5.2.heap s5.1) fun a195 => bnd (atI s5.2.heap s5.1) fun a210 => bnd (atI (s5.2.heap.set (s5.1 : Int).toNat a180) y46) fun a227 => some (.next (y46, (⟨((s5.2.heap.set (s5.1 : Int).toNat a180).set (y46 : Int).toNat a195), s5.2.next⟩ : Que))) else some (.ret s5.2))) (x1, x0)) fun res3 => fin res3 fun (_ : Int × Que) => none
theorem le_pqueue_Queue_down (x0 : Que) (x1 : Int) : Le (e_pqueue_Queue_down x0 x1) (m_pqueue_Queue_down x0 x1) := by
  unfold e_pqueue_Queue_down m_pqueue_Queue_down
  repeat' (first | apply le_pqueue_before | apply Le.ite | apply Le.bnd | apply Le.fin | apply Le.rng | apply Le.rngN | apply Le.lop | exact Le.rf | intro _)
noncomputable def e_pqueue_Queue_Push (x0 : Que) (x1 : Int) (x2 : Int) (x3 : Int) : Option (Err × Que) :=
  if 65536 ≤ (x0.heap.length : Int) then (some ((⟨10⟩ : Err), x0)) else (bnd (appI 32 x0.heap [(⟨x1, x2, x3, x0.next⟩ : QEn)]) fun u29 => bnd (chkI (x0.next + 1)) fun n42 => bnd (chkI ((u29.length : Int) - 1)) fun n49 => bnd (e_pqueue_Queue_up (⟨u29, n42⟩ : Que) n49) fun q57 => some ((⟨0⟩ : Err), q57))
theorem le_pqueue_Queue_Push (x0 : Que) (x1 : Int) (x2 : Int) (x3 : Int) : Le (e_pqueue_Queue_Push x0 x1 x2 x3) (m_pqueue_Queue_Push x0 x1 x2 x3) := by
  unfold e_pqueue_Queue_Push m_pqueue_Queue_Push
  repeat' (first | apply le_pqueue_Queue_up | apply Le.ite | apply Le.bnd | apply Le.fin | apply Le.rng | apply Le.rngN | apply Le.lop | exact Le.rf | intro _)
noncomputable def e_pqueue_Queue_Pop (x0 : Que) : Option (Int × Int × Int × Err × Que) :=
  bnd (e_pqueue_Queue_Peek x0) fun q2 => if q2.2.2.2.n ≠ 0 then (some (0, 0, 0, (⟨q2.2.2.2.n⟩ : Err), x0)) else (bnd (chkI ((x0.heap.length : Int) - 1)) fun n35 => bnd (atI x0.heap n35) fun a38 => bnd (atI x0.heap 0) fun a53 => bnd (cutI (x0.heap.set (0 : Int).toNat a38) 0 n35) fun u70 => bnd (e_pqueue_Queue_down (⟨u70, x0.next⟩ : Que) 0) fun q82 => some (q2.1, q2.2.1, q2.2.2.1, (⟨0⟩ : Err), q82))
theorem le_pqueue_Queue_Pop (x0 : Que) : Le (e_pqueue_Queue_Pop x0) (m_pqueue_Queue_Pop x0) := by
  unfold e_pqueue_Queue_Pop m_pqueue_Queue_Pop
  repeat' (first | apply le_pqueue_Queue_Peek | apply le_pqueue_Queue_down | apply Le.ite | apply Le.bnd | apply Le.fin | apply Le.rng | apply Le.rngN | apply Le.lop | exact Le.rf | intro _)
noncomputable def e_pack_New (x0 : List Int) : Option ((Option Pkr) × Err) :=
  if 64 < (x0.length : Int) then (some (none, (⟨5⟩ : Err))) else (bnd (rng (ρ := (Option Pkr) × Err) (fun (k25 : Nat) (a26 : Int) (s23 : Int × Pkr) => bnd (if a26 < 1 then (some true) else (if 64 < a26 then (some true) else (some false)) : Option Bool) fun y48 => if y48 = true then (some (.ret (none, (⟨1⟩ : Err)))) else (bnd (lopE (ρ := Ctl (Int × Pkr) ((Option Pkr) × Err)) (fun (s61 : Int) => bnd (shlI 1 s61) fun n76 => if n76 < a26 then (bnd (chkI (s61 + 1)) fun n80 => some (.next n80)) else (some (.brk s61))) 0) fun res59 => fin res59 fun (s87 : Int) => bnd (bnd (chkI (s23.1 + s87)) fun n95 => if 64 < n95 then (bnd (chkI (s23.2.words + 1)) fun n109 => some (0, (⟨s23.2.fields, n109⟩ : Pkr))) else (some (s23.1, s23.2)) : Option (Int × Pkr)) fun y89 => bnd (chkI (y89.2.words - 1)) fun n133 => bnd (appI 32 y89.2.fields [(⟨n133, y89.1, s87, a26⟩ : PFd)]) fun u142 => bnd (chkI (y89.1 + s87)) fun n155 => some (.next (n155, (⟨u142, y89.2.words⟩ : Pkr))))) x0 0 (0, (⟨([] : List PFd), 1⟩ : Pkr))) fun res21 => fin res21 fun (s167 : Int × Pkr) => some ((some s167.2), (⟨0⟩ : Err)))
theorem le_pack_New (x0 : List Int) : Le (e_pack_New x0) (m_pack_New x0) := by
  unfold e_pack_New m_pack_New
  repeat' (first | apply Le.ite | apply Le.bnd | apply Le.fin | apply Le.rng | apply Le.rngN | apply Le.lop | exact Le.rf | intro _)
noncomputable def e_pack_field_mask (x0 : PFd) : Option U64 :=
  bnd (shlU (1 : U64) x0.width) fun n12 => bnd (shlU (n12 - (1 : U64)) x0.bit) fun n14 => some n14
theorem le_pack_field_mask (x0 : PFd) : Le (e_pack_field_mask x0) (m_pack_field_mask x0) := by
  unfold e_pack_field_mask m_pack_field_mask
  repeat' (first | apply Le.ite | apply Le.bnd | apply Le.fin | apply Le.rng | apply Le.rngN | apply Le.lop | exact Le.rf | intro _)
noncomputable def e_pack_field_get (x0 : PFd) (x1 : List U64) : Option Int :=
  bnd (atI x1 x0.word) fun a15 => bnd (e_pack_field_mask x0) fun q26 => bnd (shrU (a15 &&& q26) x0.bit) fun n33 => some n33.toInt
theorem le_pack_field_get (x0 : PFd) (x1 : List U64) : Le (e_pack_field_get x0 x1) (m_pack_field_get x0 x1) := by
  unfold e_pack_field_get m_pack_field_get
  repeat' (first | apply le_pack_field_mask | apply Le.ite | apply Le.bnd | apply Le.fin | apply Le.rng | apply Le.rngN | apply Le.lop | exact Le.rf | intro _)
noncomputable def e_pack_Packer_Pack (x0 : Pkr) (x1 : List Int) : Option ((List U64) × Err) :=
  if (x1.length : Int) ≠ (x0.fields.length : Int) then (some (([] : List U64), (⟨2⟩ : Err))) else (bnd (mkI 8 ((0 : U64) : U64) x0.words) fun u25 => bnd (rng (ρ := (List U64) × Err) (fun (k50 : Nat) (a51 : PFd) (s48 : (List U64)) => bnd (bnd (x1[k50]?) fun a87 => if a87 < 0 then (some true) else (bnd (x1[k50]?) fun a98 => if a51.size ≤ a98 then (some true) else (some false)) : Option Bool) fun y83 => if y83 = true then (some (.ret (([] : List U64), (⟨2⟩ : Err)))) else (bnd (atI s48 a51.word) fun a114 => bnd (x1[k50]?) fun a125 => bnd (shlU (BitVec.ofInt 64 a125) a51.bit) fun n135 => bnd (atI s48 a51.word) fun a137 => some (.next (s48.set (a51.word : Int).toNat (a114 ||| n135))))) x0.fields 0 u25) fun res46 => fin res46 fun (s154 : (List U64)) => some (s154, (⟨0⟩ : Err)))
theorem le_pack_Packer_Pack (x0 : Pkr) (x1 : List Int) : Le (e_pack_Packer_Pack x0 x1) (m_pack_Packer_Pack x0 x1) := by
  unfold e_pack_Packer_Pack m_pack_Packer_Pack
  repeat' (first | apply Le.ite | apply Le.bnd | apply Le.fin | apply Le.rng | apply Le.rngN | apply Le.lop | exact Le.rf | intro _)
noncomputable def e_pack_Packer_Unpack (x0 : Pkr) (x1 : List U64) : Option ((List Int) × Err) :=
  if (x1.length : Int) ≠ x0.words then (some (([] : List Int), (⟨2⟩ : Err))) else (bnd (mkI 8 (0 : Int) (x0.fields.length : Int)) fun u25 => bnd (e_slices_Clone_Luint64_uint64 x1) fun q38 => bnd (rng (ρ := (List Int) × Err) (fun (k60 : Nat) (a61 : PFd) (s58 : (List Int) × (List U64)) => bnd (e_pack_field_get a61 x1) fun q97 => bnd (s58.1[k60]?) fun a105 => bnd ((s58.1.set k60 q97)[k60]?) fun a117 => if a61.size ≤ a117 then (some (.ret (([] : List Int), (⟨2⟩ : Err)))) else (bnd (atI s58.2 a61.word) fun a128 => bnd (e_pack_field_mask a61) fun q139 => bnd (atI s58.2 a61.word) fun a146 => some (.next ((s58.1.set k60 q97), (s58.2.set (a61.word : Int).toNat (a128 &&& ~~~q139)))))) x0.fields 0 (u25, q38)) fun res56 => fin res56 fun (s163 : (List Int) × (List U64)) => bnd (rng (ρ := (List Int) × Err) (fun (k171 : Nat) (a172 : U64) (s169 : Unit) => bnd (s163.2[k171]?) fun a182 => if (a182.toNat : Int) ≠ ((0 : U64).toNat : Int) then (some (.ret (([] : List Int), (⟨2⟩ : Err)))) else (some (.next ()))) q38 0 ()) fun res167 => fin res167 fun (s196 : Unit) => some (s163.1, (⟨0⟩ : Err)))
theorem le_pack_Packer_Unpack (x0 : Pkr) (x1 : List U64) : Le (e_pack_Packer_Unpack x0 x1) (m_pack_Packer_Unpack x0 x1) := by
  unfold e_pack_Packer_Unpack m_pack_Packer_Unpack
  repeat' (first | apply le_pack_field_get | apply le_pack_field_mask | apply le_slices_Clone_Luint64_uint64 | apply Le.ite | apply Le.bnd | apply Le.fin | apply Le.rng | apply Le.rngN | apply Le.lop | exact Le.rf | intro _)
noncomputable def e_pack_Packer_Hash (x0 : Pkr) (x1 : List U64) : Option Int :=
  bnd (rng (ρ := Int) (fun (k13 : Nat) (a14 : U64) (s11 : U64) => bnd (shrU ((s11 ^^^ a14) * (13787848793156543929 : U64)) 29) fun n31 => some (.next (((s11 ^^^ a14) * (13787848793156543929 : U64)) ^^^ n31))) x1 0 ((BitVec.ofInt 64 (x1.length : Int)) + (11400714819323198485 : U64))) fun res9 => fin res9 fun (s37 : U64) => bnd (shrU s37 2) fun n39 => some n39.toInt
theorem le_pack_Packer_Hash (x0 : Pkr) (x1 : List U64) : Le (e_pack_Packer_Hash x0 x1) (m_pack_Packer_Hash x0 x1) := by
  unfold e_pack_Packer_Hash m_pack_Packer_Hash
  repeat' (first | apply Le.ite | apply Le.bnd | apply Le.fin | apply Le.rng | apply Le.rngN | apply Le.lop | exact Le.rf | intro _)
noncomputable def e_slices_Equal_Luint64_uint64 (x0 : List U64) (x1 : List U64) : Option Bool :=
  if (x0.length : Int) ≠ (x1.length : Int) then (some false) else (bnd (rng (ρ := Bool) (fun (k18 : Nat) (a19 : U64) (s16 : Unit) => bnd (x1[k18]?) fun a36 => if (a19.toNat : Int) ≠ (a36.toNat : Int) then (some (.ret false)) else (some (.next ()))) x0 0 ()) fun res14 => fin res14 fun (s50 : Unit) => some true)
theorem le_slices_Equal_Luint64_uint64 (x0 : List U64) (x1 : List U64) : Le (e_slices_Equal_Luint64_uint64 x0 x1) (m_slices_Equal_Luint64_uint64 x0 x1) := by
  unfold e_slices_Equal_Luint64_uint64 m_slices_Equal_Luint64_uint64
  repeat' (first | apply Le.ite | apply Le.bnd | apply Le.fin | apply Le.rng | apply Le.rngN | apply Le.lop | exact Le.rf | intro _)
noncomputable def e_registry_New (x0 : List Int) : Option ((Option Reg) × Err) :=
  bnd (e_pack_New x0) fun q4 => if q4.2.n ≠ 0 then (some (none, (⟨q4.2.n⟩ : Err))) else (bnd q4.1 fun o22 => some ((some (⟨o22, ([] : List REn), (⟨[]⟩ : MapR 3 Int Int)⟩ : Reg)), (⟨0⟩ : Err)))
theorem le_registry_New (x0 : List Int) : Le (e_registry_New x0) (m_registry_New x0) := by
  unfold e_registry_New m_registry_New
  repeat' (first | apply le_pack_New | apply Le.ite | apply Le.bnd | apply Le.fin | apply Le.rng | apply Le.rngN | apply Le.lop | exact Le.rf | intro _)
noncomputable def e_registry_Registry_find (x0 : Reg) (x1 : List Int) : Option ((List U64) × Int × Int × Err) :=
  bnd (e_pack_Packer_Pack x0.packer x1) fun q20 => if q20.2.n ≠ 0 then (some (([] : List U64), 0, (-1), (⟨2⟩ : Err))) else (bnd (e_pack_Packer_Hash x0.packer q20.1) fun q41 => bnd (rng (ρ := (List U64) × Int × Int × Err) (fun (k66 : Nat) (a67 : Int) (s64 : Unit) => bnd (atI x0.entries a67) fun a100 => bnd (e_slices_Equal_Luint64_uint64 a100.words q20.1) fun q118 => if q118 = true then some (.ret (q20.1, q41, a67, (⟨0⟩ : Err))) else some (.next ())) (mget ([] : List Int) x0.table.l q41) 0 ()) fun res62 => fin res62 fun (s139 : Unit) => some (q20.1, q41, (-1), (⟨0⟩ : Err)))
theorem le_registry_Registry_find (x0 : Reg) (x1 : List Int) : Le (e_registry_Registry_find x0 x1) (m_registry_Registry_find x0 x1) := by
  unfold e_registry_Registry_find m_registry_Registry_find
  repeat' (first | apply le_pack_Packer_Hash | apply le_pack_Packer_Pack | apply le_slices_Equal_Luint64_uint64 | apply Le.ite | apply Le.bnd | apply Le.fin | apply Le.rng | apply Le.rngN | apply Le.lop | exact Le.rf | intro _)
noncomputable def e_registry_Registry_Add (x0 : Reg) (x1 : List Int) : Option (Int × Bool × Err × Reg) :=
  bnd (e_registry_Registry_find x0 x1) fun q5 => if q5.2.2.2.n ≠ 0 then (some (0, false, (⟨q5.2.2.2.n⟩ : Err), x0)) else (if 0 ≤ q5.2.2.1 then (some (q5.2.2.1, false, (⟨0⟩ : Err), x0)) else (if 65536 ≤ (x0.entries.length : Int) then (some (0, false, (⟨10⟩ : Err), x0)) else (bnd (appI 48 x0.entries [(⟨q5.1, (⟨(-1), (-1), 0⟩ : RLk)⟩ : REn)]) fun u53 => bnd (appI 8 (mget ([] : List Int) x0.table.l q5.2.1) [(x0.entries.length : Int)]) fun u82 => some ((x0.entries.length : Int), true, (⟨0⟩ : Err), (⟨x0.packer, u53, (⟨mput x0.table.l q5.2.1 u82⟩ : MapR 3 Int Int)⟩ : Reg)))))
theorem le_registry_Registry_Add (x0 : Reg) (x1 : List Int) : Le (e_registry_Registry_Add x0 x1) (m_registry_Registry_Add x0 x1) := by
  unfold e_registry_Registry_Add m_registry_Registry_Add
  repeat' (first | apply le_registry_Registry_find | apply Le.ite | apply Le.bnd | apply Le.fin | apply Le.rng | apply Le.rngN | apply Le.lop | exact Le.rf | intro _)
noncomputable def e_registry_Registry_has (x0 : Reg) (x1 : Int) : Option Bool :=
  bnd (if 0 ≤ x1 then (if x1 < (x0.entries.length : Int) then (some true) else (some false)) else (some false) : Option Bool) fun y3 => some y3
theorem le_registry_Registry_has (x0 : Reg) (x1 : Int) : Le (e_registry_Registry_has x0 x1) (m_registry_Registry_has x0 x1) := by
  unfold e_registry_Registry_has m_registry_Registry_has
  repeat' (first | apply Le.ite | apply Le.bnd | apply Le.fin | apply Le.rng | apply Le.rngN | apply Le.lop | exact Le.rf | intro _)
noncomputable def e_registry_Registry_State (x0 : Reg) (x1 : Int) : Option ((List Int) × Err) :=
  bnd (e_registry_Registry_has x0 x1) fun q3 => if q3 = true then bnd (atI x0.entries x1) fun a27 => bnd (e_pack_Packer_Unpack x0.packer a27.words) fun q45 => some (q45.1, (⟨q45.2.n⟩ : Err)) else some (([] : List Int), (⟨1⟩ : Err))
theorem le_registry_Registry_State (x0 : Reg) (x1 : Int) : Le (e_registry_Registry_State x0 x1) (m_registry_Registry_State x0 x1) := by
  unfold e_registry_Registry_State m_registry_Registry_State
  repeat' (first | apply le_pack_Packer_Unpack | apply le_registry_Registry_has | apply Le.ite | apply Le.bnd | apply Le.fin | apply Le.rng | apply Le.rngN | apply Le.lop | exact Le.rf | intro _)
noncomputable def e_registry_Registry_SetLink (x0 : Reg) (x1 : Int) (x2 : Int) (x3 : Int) (x4 : Int) : Option (Err × Reg) :=
  bnd (bnd (e_registry_Registry_has x0 x1) fun q10 => if q10 = true then if x2 ≠ (-1) then (bnd (e_registry_Registry_has x0 x2) fun q20 => if q20 = true then some false else some true) else (some false) else some true : Option Bool) fun y6 => if y6 = true then (some ((⟨1⟩ : Err), x0)) else (bnd (atI x0.entries x1) fun a49 => some ((⟨0⟩ : Err), (⟨x0.packer, (x0.entries.set (x1 : Int).toNat ({ a49 with link := (⟨x2, x3, x4⟩ : RLk) } : REn)), x0.table⟩ : Reg)))
theorem le_registry_Registry_SetLink (x0 : Reg) (x1 : Int) (x2 : Int) (x3 : Int) (x4 : Int) : Le (e_registry_Registry_SetLink x0 x1 x2 x3 x4) (m_registry_Registry_SetLink x0 x1 x2 x3 x4) := by
  unfold e_registry_Registry_SetLink m_registry_Registry_SetLink
  repeat' (first | apply le_registry_Registry_has | apply Le.ite | apply Le.bnd | apply Le.fin | apply Le.rng | apply Le.rngN | apply Le.lop | exact Le.rf | intro _)
noncomputable def e_slices_Reverse_Lint_int (x0 : List Int) : Option (List Int) :=
  bnd (chkI ((x0.length : Int) - 1)) fun n4 => bnd (lopE (ρ := (List Int)) (fun (s9 : (List Int) × Int × Int) => if s9.2.1 < s9.2.2 then (bnd (atI s9.1 s9.2.2) fun a31 => bnd (atI s9.1 s9.2.1) fun a43 => bnd (atI s9.1 s9.2.1) fun a55 => bnd (atI (s9.1.set (s9.2.1 : Int).toNat a31) s9.2.2) fun a69 => bnd (chkI (s9.2.1 + 1)) fun n83 => bnd (chkI (s9.2.2 - 1)) fun n86 => some (.next (((s9.1.set (s9.2.1 : Int).toNat a31).set (s9.2.2 : Int).toNat a43), n83, n86))) else (some (.brk (s9.1, s9.2.1, s9.2.2)))) (x0, 0, n4)) fun res7 => fin res7 fun (s93 : (List Int) × Int × Int) => some s93.1
theorem le_slices_Reverse_Lint_int (x0 : List Int) : Le (e_slices_Reverse_Lint_int x0) (m_slices_Reverse_Lint_int x0) := by
  unfold e_slices_Reverse_Lint_int m_slices_Reverse_Lint_int
  repeat' (first | apply Le.ite | apply Le.bnd | apply Le.fin | apply Le.rng | apply Le.rngN | apply Le.lop | exact Le.rf | intro _)
noncomputable def e_registry_Registry_Path (x0 : Reg) (x1 : Int) : Option ((List Int) × Err) :=
  bnd (e_registry_Registry_has x0 x1) fun q3 => if q3 = true then bnd (lopE (ρ := (List Int) × Err) (fun (s14 : Int × (List Int)) => bnd (atI x0.entries s14.1) fun a48 => if a48.link.parent < 0 then (bnd (e_slices_Reverse_Lint_int s14.2) fun q74 => some (.ret (q74, (⟨0⟩ : Err)))) else (bnd (appI 8 s14.2 [a48.link.op]) fun u89 => if (x0.entries.length : Int) < (u89.length : Int) then (some (.ret (([] : List Int), (⟨21⟩ : Err)))) else (some (.next (a48.link.parent, u89))))) (x1, ([] : List Int))) fun res12 => fin res12 fun (_ : Int × (List Int)) => none else some (([] : List Int), (⟨1⟩ : Err))
theorem le_registry_Registry_Path (x0 : Reg) (x1 : Int) : Le (e_registry_Registry_Path x0 x1) (m_registry_Registry_Path x0 x1) := by
  unfold e_registry_Registry_Path m_registry_Registry_Path
  repeat' (first | apply le_registry_Registry_has | apply le_slices_Reverse_Lint_int | apply Le.ite | apply Le.bnd | apply Le.fin | apply Le.rng | apply Le.rngN | apply Le.lop | exact Le.rf | intro _)
noncomputable def e_stubborn_on (x0 : List Fct) (x1 : Int) : Option (Int × Bool) :=
  bnd (rng (ρ := Int × Bool) (fun (k11 : Nat) (a12 : Fct) (s9 : Unit) => if a12.var = x1 then (some (.ret (a12.val, true))) else (some (.next ()))) x0 0 ()) fun res7 => fin res7 fun (s43 : Unit) => some (0, false)
theorem le_stubborn_on (x0 : List Fct) (x1 : Int) : Le (e_stubborn_on x0 x1) (m_stubborn_on x0 x1) := by
  unfold e_stubborn_on m_stubborn_on
  repeat' (first | apply Le.ite | apply Le.bnd | apply Le.fin | apply Le.rng | apply Le.rngN | apply Le.lop | exact Le.rf | intro _)
noncomputable def e_stubborn_hinders (x0 : Opr) (x1 : Opr) : Option Bool :=
  bnd (rng (ρ := Bool) (fun (k41 : Nat) (a42 : Eff) (s39 : Unit) => bnd (e_stubborn_on x1.pre a42.var) fun q72 => bnd (if q72.2 = true then (if q72.1 ≠ a42.val then (some true) else (some false)) else (some false) : Option Bool) fun y84 => if y84 = true then (some (.ret true)) else (bnd (rng (ρ := Ctl Unit Bool) (fun (k101 : Nat) (a102 : Eff) (s99 : Unit) => bnd (e_stubborn_on a102.cond a42.var) fun q132 => bnd (if q132.2 = true then (some true) else (if a102.var = a42.var then (if a102.val ≠ a42.val then (some true) else (some false)) else (some false)) : Option Bool) fun y144 => if y144 = true then (some (.ret (.ret true))) else (some (.next ()))) x1.effs 0 ()) fun res97 => fin res97 fun (s160 : Unit) => some (.next ()))) x0.effs 0 ()) fun res37 => fin res37 fun (s166 : Unit) => some false
theorem le_stubborn_hinders (x0 : Opr) (x1 : Opr) : Le (e_stubborn_hinders x0 x1) (m_stubborn_hinders x0 x1) := by
  unfold e_stubborn_hinders m_stubborn_hinders
  repeat' (first | apply le_stubborn_on | apply Le.ite | apply Le.bnd | apply Le.fin | apply Le.rng | apply Le.rngN | apply Le.lop | exact Le.rf | intro _)
noncomputable def e_stubborn_interfere (x0 : Tsk) (x1 : Int) (x2 : Int) : Option Bool :=
  bnd (if x1 ≠ x2 then (bnd (atI x0.ops x1) fun a31 => bnd (atI x0.ops x2) fun a52 => bnd (e_stubborn_hinders a31 a52) fun q73 => if q73 = true then some true else bnd (atI x0.ops x2) fun a80 => bnd (atI x0.ops x1) fun a101 => bnd (e_stubborn_hinders a80 a101) fun q122 => if q122 = true then some true else some false) else (some false) : Option Bool) fun y26 => some y26
theorem le_stubborn_interfere (x0 : Tsk) (x1 : Int) (x2 : Int) : Le (e_stubborn_interfere x0 x1 x2) (m_stubborn_interfere x0 x1 x2) := by
  unfold e_stubborn_interfere m_stubborn_interfere
  repeat' (first | apply le_stubborn_hinders | apply Le.ite | apply Le.bnd | apply Le.fin | apply Le.rng | apply Le.rngN | apply Le.lop | exact Le.rf | intro _)
noncomputable def e_stubborn_missing (x0 : List Fct) (x1 : List Int) : Option (Fct × Bool) :=
  bnd (rng (ρ := Fct × Bool) (fun (k18 : Nat) (a19 : Fct) (s16 : Unit) => bnd (atI x1 a19.var) fun a45 => if a45 ≠ a19.val then (some (.ret (a19, true))) else (some (.next ()))) x0 0 ()) fun res14 => fin res14 fun (s64 : Unit) => some ((⟨0, 0⟩ : Fct), false)
theorem le_stubborn_missing (x0 : List Fct) (x1 : List Int) : Le (e_stubborn_missing x0 x1) (m_stubborn_missing x0 x1) := by
  unfold e_stubborn_missing m_stubborn_missing
  repeat' (first | apply Le.ite | apply Le.bnd | apply Le.fin | apply Le.rng | apply Le.rngN | apply Le.lop | exact Le.rf | intro _)
noncomputable def e_stubborn_writers_l1 (x0 : Eff) (y0 : Fct) : Option Bool :=
  bnd (if x0.var = y0.var then (if x0.val = y0.val then (some true) else (some false)) else (some false) : Option Bool) fun y16 => some y16
theorem le_stubborn_writers_l1 (x0 : Eff) (y0 : Fct) : Le (e_stubborn_writers_l1 x0 y0) (m_stubborn_writers_l1 x0 y0) := by
  unfold e_stubborn_writers_l1 m_stubborn_writers_l1
  repeat' (first | apply Le.ite | apply Le.bnd | apply Le.fin | apply Le.rng | apply Le.rngN | apply Le.lop | exact Le.rf | intro _)
noncomputable def e_slices_IndexFunc_Lapi_Effect_api_Effect__stubborn_writers_l1 (x0 : List Eff) (y0 : Fct) : Option Int :=
  bnd (rng (ρ := Int) (fun (k13 : Nat) (a14 : Eff) (s11 : Unit) => bnd (e_stubborn_writers_l1 a14 y0) fun q37 => if q37 = true then some (.ret (k13 : Int)) else some (.next ())) x0 0 ()) fun res9 => fin res9 fun (s48 : Unit) => some (-1)
theorem le_slices_IndexFunc_Lapi_Effect_api_Effect__stubborn_writers_l1 (x0 : List Eff) (y0 : Fct) : Le (e_slices_IndexFunc_Lapi_Effect_api_Effect__stubborn_writers_l1 x0 y0) (m_slices_IndexFunc_Lapi_Effect_api_Effect__stubborn_writers_l1 x0 y0) := by
  unfold e_slices_IndexFunc_Lapi_Effect_api_Effect__stubborn_writers_l1 m_slices_IndexFunc_Lapi_Effect_api_Effect__stubborn_writers_l1
  repeat' (first | apply le_stubborn_writers_l1 | apply Le.ite | apply Le.bnd | apply Le.fin | apply Le.rng | apply Le.rngN | apply Le.lop | exact Le.rf | intro _)
noncomputable def e_slices_ContainsFunc_Lapi_Effect_api_Effect__stubborn_writers_l1 (x0 : List Eff) (y0 : Fct) : Option Bool :=
  bnd (bnd (e_slices_IndexFunc_Lapi_Effect_api_Effect__stubborn_writers_l1 x0 y0) fun q11 => if 0 ≤ q11 then (some true) else (some false) : Option Bool) fun y7 => some y7
theorem le_slices_ContainsFunc_Lapi_Effect_api_Effect__stubborn_writers_l1 (x0 : List Eff) (y0 : Fct) : Le (e_slices_ContainsFunc_Lapi_Effect_api_Effect__stubborn_writers_l1 x0 y0) (m_slices_ContainsFunc_Lapi_Effect_api_Effect__stubborn_writers_l1 x0 y0) := by
  unfold e_slices_ContainsFunc_Lapi_Effect_api_Effect__stubborn_writers_l1 m_slices_ContainsFunc_Lapi_Effect_api_Effect__stubborn_writers_l1
  repeat' (first | apply le_slices_IndexFunc_Lapi_Effect_api_Effect__stubborn_writers_l1 | apply Le.ite | apply Le.bnd | apply Le.fin | apply Le.rng | apply Le.rngN | apply Le.lop | exact Le.rf | intro _)
noncomputable def e_stubborn_writers (x0 : Tsk) (x1 : Fct) : Option (List Int) :=
  bnd (rng (ρ := (List Int)) (fun (k39 : Nat) (a40 : Opr) (s37 : (List Int)) => bnd (e_slices_ContainsFunc_Lapi_Effect_api_Effect__stubborn_writers_l1 a40.effs x1) fun q78 => if q78 = true then bnd (appI 8 s37 [(k39 : Int)]) fun u85 => some (.next u85) else some (.next s37)) x0.ops 0 ([] : List Int)) fun res35 => fin res35 fun (s101 : (List Int)) => some s101
theorem le_stubborn_writers (x0 : Tsk) (x1 : Fct) : Le (e_stubborn_writers x0 x1) (m_stubborn_writers x0 x1) := by
  unfold e_stubborn_writers m_stubborn_writers
  repeat' (first | apply le_slices_ContainsFunc_Lapi_Effect_api_Effect__stubborn_writers_l1 | apply Le.ite | apply Le.bnd | apply Le.fin | apply Le.rng | apply Le.rngN | apply Le.lop | exact Le.rf | intro _)
noncomputable def e_stubborn_meets (x0 : Tsk) (x1 : Int) : Option (List Int) :=
  bnd (rng (ρ := (List Int)) (fun (k31 : Nat) (a32 : Opr) (s29 : (List Int)) => bnd (e_stubborn_interfere x0 x1 (k31 : Int)) fun q46 => if q46 = true then bnd (appI 8 s29 [(k31 : Int)]) fun u53 => some (.next u53) else some (.next s29)) x0.ops 0 ([] : List Int)) fun res27 => fin res27 fun (s69 : (List Int)) => some s69
theorem le_stubborn_meets (x0 : Tsk) (x1 : Int) : Le (e_stubborn_meets x0 x1) (m_stubborn_meets x0 x1) := by
  unfold e_stubborn_meets m_stubborn_meets
  repeat' (first | apply le_stubborn_interfere | apply Le.ite | apply Le.bnd | apply Le.fin | apply Le.rng | apply Le.rngN | apply Le.lop | exact Le.rf | intro _)
noncomputable def e_stubborn_set_l1 (x0 : List Int) (x1 : BxR 55 4 Bool) (x2 : BxR 22 3 Int) : Option ((BxR 55 4 Bool) × (BxR 22 3 Int)) :=
  bnd (rng (ρ := (BxR 55 4 Bool) × (BxR 22 3 Int)) (fun (k10 : Nat) (a11 : Int) (s8 : (BxR 55 4 Bool) × (BxR 22 3 Int)) => bnd (atI s8.1.l a11) fun a42 => if (!a42) = true then (bnd (atI s8.1.l a11) fun a54 => bnd (appI 8 s8.2.l [a11]) fun u76 => some (.next ((⟨(s8.1.l.set (a11 : Int).toNat true)⟩ : BxR 55 4 Bool), (⟨u76⟩ : BxR 22 3 Int)))) else (some (.next (s8.1, s8.2)))) x0 0 (x1, x2)) fun res6 => fin res6 fun (s109 : (BxR 55 4 Bool) × (BxR 22 3 Int)) => some (s109.1, s109.2)
theorem le_stubborn_set_l1 (x0 : List Int) (x1 : BxR 55 4 Bool) (x2 : BxR 22 3 Int) : Le (e_stubborn_set_l1 x0 x1 x2) (m_stubborn_set_l1 x0 x1 x2) := by
  unfold e_stubborn_set_l1 m_stubborn_set_l1
  repeat' (first | apply Le.ite | apply Le.bnd | apply Le.fin | apply Le.rng | apply Le.rngN | apply Le.lop | exact Le.rf | intro _)
noncomputable def e_stubborn_set (x0 : Tsk) (x1 : List Int) : Option (List Int) :=
  bnd (mkI 1 (false : Bool) (x0.ops.length : Int)) fun u29 => bnd (e_stubborn_missing x0.goal x1) fun q54 => bnd (if (!q54.2) = true then (bnd (rng (ρ := (BxR 22 3 Int) × (BxR 55 4 Bool)) (fun (k100 : Nat) (a101 : Opr) (s98 : (BxR 22 3 Int) × (BxR 55 4 Bool)) => bnd (e_stubborn_set_l1 [(k100 : Int)] s98.2 s98.1) fun q123 => some (.next (q123.2, q123.1))) x0.ops 0 ((⟨([] : List Int)⟩ : BxR 22 3 Int), (⟨u29⟩ : BxR 55 4 Bool))) fun res96 => fin res96 fun (s136 : (BxR 22 3 Int) × (BxR 55 4 Bool)) => some (s136.1, s136.2)) else (bnd (e_stubborn_writers x0 q54.1) fun q138 => bnd (e_stubborn_set_l1 q138 (⟨u29⟩ : BxR 55 4 Bool) (⟨([] : List Int)⟩ : BxR 22 3 Int)) fun q159 => some (q159.2, q159.1)) : Option ((BxR 22 3 Int) × (BxR 55 4 Bool))) fun y75 => bnd (lopE (ρ := (List Int)) (fun (s174 : (List Int) × Int × (BxR 22 3 Int) × (BxR 55 4 Bool)) => if s174.2.1 < (s174.2.2.1.l.length : Int) then (bnd (bnd (atI s174.2.2.1.l s174.2.1) fun a217 => bnd (atI x0.ops a217) fun a219 => bnd (e_stubborn_missing a219.pre x1) fun q221 => bnd (some () : Option Unit) fun y223 => if q221.2 = true then (bnd (e_stubborn_writers x0 q221.1) fun q312 => bnd (e_stubborn_set_l1 q312 s174.2.2.2 s174.2.2.1) fun q321 => some (s174.1, q321.2, q321.1)) else (bnd (atI s174.2.2.1.l s174.2.1) fun a339 => bnd (appI 8 s174.1 [a339]) fun u351 => bnd (atI s174.2.2.1.l s174.2.1) fun a363 => bnd (e_stubborn_meets x0 a363) fun q375 => bnd (e_stubborn_set_l1 q375 s174.2.2.2 s174.2.2.1) fun q389 => some (u351, q389.2, q389.1)) : Option ((List Int) × (BxR 22 3 Int) × (BxR 55 4 Bool))) fun y209 => bnd (chkI (s174.2.1 + 1)) fun n402 => some (.next (y209.1, n402, y209.2.1, y209.2.2))) else (some (.brk (s174.1, s174.2.1, s174.2.2.1, s174.2.2.2)))) (([] : List Int), 0, y75.1, y75.2)) fun res172 => fin res172 fun (s414 : (List Int) × Int × (BxR 22 3 Int) × (BxR 55 4 Bool)) => bnd (e_slices_Sort_Lint_int s414.1) fun q416 => some q416
theorem le_stubborn_set (x0 : Tsk) (x1 : List Int) : Le (e_stubborn_set x0 x1) (m_stubborn_set x0 x1) := by
  unfold e_stubborn_set m_stubborn_set
  repeat' (first | apply le_slices_Sort_Lint_int | apply le_stubborn_meets | apply le_stubborn_missing | apply le_stubborn_set_l1 | apply le_stubborn_writers | apply Le.ite | apply Le.bnd | apply Le.fin | apply Le.rng | apply Le.rngN | apply Le.lop | exact Le.rf | intro _)
noncomputable def e_stubborn_Set (x0 : Tsk) (x1 : List Int) : Option ((List Int) × Err) :=
  bnd (e_task_Check x0) fun q27 => if q27.n ≠ 0 then (some (([] : List Int), (⟨q27.n⟩ : Err))) else (bnd (e_task_Proper x0.vars x1) fun q36 => if q36 = true then bnd (e_stubborn_set x0 x1) fun q43 => some (q43, (⟨0⟩ : Err)) else some (([] : List Int), (⟨2⟩ : Err)))
theorem le_stubborn_Set (x0 : Tsk) (x1 : List Int) : Le (e_stubborn_Set x0 x1) (m_stubborn_Set x0 x1) := by
  unfold e_stubborn_Set m_stubborn_Set
  repeat' (first | apply le_stubborn_set | apply le_task_Check | apply le_task_Proper | apply Le.ite | apply Le.bnd | apply Le.fin | apply Le.rng | apply Le.rngN | apply Le.lop | exact Le.rf | intro _)
noncomputable def e_task_apply (x0 : Tsk) (x1 : List Int) (x2 : Int) : Option ((List Int) × Err) :=
  bnd (if x2 < 0 then (some true) else (if (x0.ops.length : Int) ≤ x2 then (some true) else (some false)) : Option Bool) fun y28 => if y28 = true then (some (([] : List Int), (⟨1⟩ : Err))) else (bnd (e_task_Proper x0.vars x1) fun q41 => if q41 = true then bnd (atI x0.ops x2) fun a48 => bnd (e_task_Holds a48.pre x1) fun q69 => if q69 = true then bnd (e_slices_Clone_Lint_int x1) fun q76 => bnd (atI x0.ops x2) fun a86 => bnd (rng (ρ := (List Int) × Err) (fun (k113 : Nat) (a114 : Eff) (s111 : (List Int)) => bnd (e_task_Holds a114.cond x1) fun q148 => if q148 = true then bnd (atI s111 a114.var) fun a155 => some (.next (s111.set (a114.var : Int).toNat a114.val)) else some (.next s111)) a86.effs 0 q76) fun res109 => fin res109 fun (s173 : (List Int)) => some (s173, (⟨0⟩ : Err)) else some (([] : List Int), (⟨12⟩ : Err)) else some (([] : List Int), (⟨2⟩ : Err)))
theorem le_task_apply (x0 : Tsk) (x1 : List Int) (x2 : Int) : Le (e_task_apply x0 x1 x2) (m_task_apply x0 x1 x2) := by
  unfold e_task_apply m_task_apply
  repeat' (first | apply le_slices_Clone_Lint_int | apply le_task_Holds | apply le_task_Proper | apply Le.ite | apply Le.bnd | apply Le.fin | apply Le.rng | apply Le.rngN | apply Le.lop | exact Le.rf | intro _)
noncomputable def e_task_Apply (x0 : Tsk) (x1 : List Int) (x2 : Int) : Option ((List Int) × Err) :=
  bnd (e_task_Check x0) fun q28 => if q28.n ≠ 0 then (some (([] : List Int), (⟨q28.n⟩ : Err))) else (bnd (e_task_apply x0 x1 x2) fun q37 => some (q37.1, (⟨q37.2.n⟩ : Err)))
theorem le_task_Apply (x0 : Tsk) (x1 : List Int) (x2 : Int) : Le (e_task_Apply x0 x1 x2) (m_task_Apply x0 x1 x2) := by
  unfold e_task_Apply m_task_Apply
  repeat' (first | apply le_task_Check | apply le_task_apply | apply Le.ite | apply Le.bnd | apply Le.fin | apply Le.rng | apply Le.rngN | apply Le.lop | exact Le.rf | intro _)
noncomputable def e_stubborn_search_reach (x0 : Sch) (x1 : List Int) (x2 : Int) (x3 : Int) (x4 : Int) : Option (Err × Sch) :=
  bnd (e_registry_Registry_Add x0.states x1) fun q45 => if q45.2.2.1.n ≠ 0 then (some ((⟨q45.2.2.1.n⟩ : Err), (⟨(⟨x0.t.vars, x0.t.init, x0.t.goal, x0.t.ops⟩ : Tsk), q45.2.2.2, x0.que, x0.costs, x0.fin, x0.exp⟩ : Sch))) else (bnd (if q45.2.1 = true then (bnd (appI 8 x0.costs [1125899906842624]) fun u73 => bnd (appI 1 x0.fin [false]) fun u75 => some (⟨(⟨x0.t.vars, x0.t.init, x0.t.goal, x0.t.ops⟩ : Tsk), q45.2.2.2, x0.que, u73, u75, x0.exp⟩ : Sch)) else (some (⟨(⟨x0.t.vars, x0.t.init, x0.t.goal, x0.t.ops⟩ : Tsk), q45.2.2.2, x0.que, x0.costs, x0.fin, x0.exp⟩ : Sch)) : Option Sch) fun y67 => bnd (atI y67.costs q45.1) fun a234 => if a234 ≤ x4 then (some ((⟨0⟩ : Err), y67)) else (bnd (atI y67.costs q45.1) fun a252 => bnd (e_registry_Registry_SetLink y67.states q45.1 x2 x3 x4) fun q266 => if q266.1.n ≠ 0 then (some ((⟨q266.1.n⟩ : Err), (⟨(⟨y67.t.vars, y67.t.init, y67.t.goal, y67.t.ops⟩ : Tsk), q266.2, y67.que, (y67.costs.set (q45.1 : Int).toNat x4), y67.fin, y67.exp⟩ : Sch))) else (bnd (e_pqueue_Queue_Push y67.que x4 0 q45.1) fun q282 => some ((⟨q282.1.n⟩ : Err), (⟨(⟨y67.t.vars, y67.t.init, y67.t.goal, y67.t.ops⟩ : Tsk), q266.2, q282.2, (y67.costs.set (q45.1 : Int).toNat x4), y67.fin, y67.exp⟩ : Sch)))))
theorem le_stubborn_search_reach (x0 : Sch) (x1 : List Int) (x2 : Int) (x3 : Int) (x4 : Int) : Le (e_stubborn_search_reach x0 x1 x2 x3 x4) (m_stubborn_search_reach x0 x1 x2 x3 x4) := by
  unfold e_stubborn_search_reach m_stubborn_search_reach
  repeat' (first | apply le_pqueue_Queue_Push | apply le_registry_Registry_Add | apply le_registry_Registry_SetLink | apply Le.ite | apply Le.bnd | apply Le.fin | apply Le.rng | apply Le.rngN | apply Le.lop | exact Le.rf | intro _)
noncomputable def e_stubborn_search_expand (x0 : Sch) (x1 : Int) (x2 : List Int) : Option (Err × Sch) :=
  bnd (atI x0.fin x1) fun a43 => bnd (chkI (x0.exp + 1)) fun n56 => bnd (e_stubborn_set (⟨x0.t.vars, x0.t.init, x0.t.goal, x0.t.ops⟩ : Tsk) x2) fun q61 => bnd (rng (ρ := Err × Sch) (fun (k81 : Nat) (a82 : Int) (s79 : Sch) => bnd (e_task_Apply (⟨s79.t.vars, s79.t.init, s79.t.goal, s79.t.ops⟩ : Tsk) x2 a82) fun q139 => if q139.2.n ≠ 0 then (some (.ret ((⟨q139.2.n⟩ : Err), s79))) else (bnd (atI s79.costs x1) fun a159 => bnd (atI s79.t.ops a82) fun a171 => bnd (chkI (a159 + a171.cost)) fun n192 => bnd (e_stubborn_search_reach s79 q139.1 x1 a82 n192) fun q200 => if q200.1.n ≠ 0 then (some (.ret ((⟨q200.1.n⟩ : Err), q200.2))) else (some (.next q200.2)))) q61 0 (⟨(⟨x0.t.vars, x0.t.init, x0.t.goal, x0.t.ops⟩ : Tsk), x0.states, x0.que, x0.costs, (x0.fin.set (x1 : Int).toNat true), n56⟩ : Sch)) fun res77 => fin res77 fun (s215 : Sch) => some ((⟨0⟩ : Err), s215)
theorem le_stubborn_search_expand (x0 : Sch) (x1 : Int) (x2 : List Int) : Le (e_stubborn_search_expand x0 x1 x2) (m_stubborn_search_expand x0 x1 x2) := by
  unfold e_stubborn_search_expand m_stubborn_search_expand
  repeat' (first | apply le_stubborn_search_reach | apply le_stubborn_set | apply le_task_Apply | apply Le.ite | apply Le.bnd | apply Le.fin | apply Le.rng | apply Le.rngN | apply Le.lop | exact Le.rf | intro _)
noncomputable def e_stubborn_search_run (x0 : Sch) (x1 : Int) : Option (Rsl × Sch) :=
  bnd (lopE (ρ := Rsl × Sch) (fun (s17 : Int × Sch) => bnd (e_pqueue_Queue_Len s17.2.que) fun q71 => if 0 < q71 then (bnd (e_pqueue_Queue_Pop s17.2.que) fun q82 => bnd (if q82.2.2.2.1.n ≠ 0 then (some true) else (bnd (atI s17.2.fin q82.2.2.1) fun a112 => if a112 = true then (some true) else (bnd (atI s17.2.costs q82.2.2.1) fun a129 => if q82.1 ≠ a129 then (some true) else (some false))) : Option Bool) fun y102 => if y102 = true then (some (.next (s17.1, (⟨(⟨s17.2.t.vars, s17.2.t.init, s17.2.t.goal, s17.2.t.ops⟩ : Tsk), s17.2.states, q82.2.2.2.2, s17.2.costs, s17.2.fin, s17.2.exp⟩ : Sch)))) else (bnd (e_registry_Registry_State ((⟨(⟨s17.2.t.vars, s17.2.t.init, s17.2.t.goal, s17.2.t.ops⟩ : Tsk), s17.2.states, q82.2.2.2.2, s17.2.costs, s17.2.fin, s17.2.exp⟩ : Sch).states) q82.2.2.1) fun q194 => if q194.2.n ≠ 0 then (some (.brk (s17.1, (⟨(⟨s17.2.t.vars, s17.2.t.init, s17.2.t.goal, s17.2.t.ops⟩ : Tsk), s17.2.states, q82.2.2.2.2, s17.2.costs, s17.2.fin, s17.2.exp⟩ : Sch)))) else (bnd (e_task_Holds ((⟨(⟨s17.2.t.vars, s17.2.t.init, s17.2.t.goal, s17.2.t.ops⟩ : Tsk), s17.2.states, q82.2.2.2.2, s17.2.costs, s17.2.fin, s17.2.exp⟩ : Sch).t.goal) q194.1) fun q215 => if q215 = true then bnd (e_registry_Registry_Path ((⟨(⟨s17.2.t.vars, s17.2.t.init, s17.2.t.goal, s17.2.t.ops⟩ : Tsk), s17.2.states, q82.2.2.2.2, s17.2.costs, s17.2.fin, s17.2.exp⟩ : Sch).states) q82.2.2.1) fun q294 => if q294.2.n ≠ 0 then (some (.brk (s17.1, (⟨(⟨s17.2.t.vars, s17.2.t.init, s17.2.t.goal, s17.2.t.ops⟩ : Tsk), s17.2.states, q82.2.2.2.2, s17.2.costs, s17.2.fin, s17.2.exp⟩ : Sch)))) else (some (.ret ((⟨1, q294.1, q82.1, (⟨(⟨s17.2.t.vars, s17.2.t.init, s17.2.t.goal, s17.2.t.ops⟩ : Tsk), s17.2.states, q82.2.2.2.2, s17.2.costs, s17.2.fin, s17.2.exp⟩ : Sch).exp⟩ : Rsl), (⟨(⟨s17.2.t.vars, s17.2.t.init, s17.2.t.goal, s17.2.t.ops⟩ : Tsk), s17.2.states, q82.2.2.2.2, s17.2.costs, s17.2.fin, s17.2.exp⟩ : Sch)))) else if x1 ≤ ((⟨(⟨s17.2.t.vars, s17.2.t.init, s17.2.t.goal, s17.2.t.ops⟩ : Tsk), s17.2.states, q82.2.2.2.2, s17.2.costs, s17.2.fin, s17.2.exp⟩ : Sch).exp) then (some (.ret ((⟨3, ([] : List Int), 0, (⟨(⟨s17.2.t.vars, s17.2.t.init, s17.2.t.goal, s17.2.t.ops⟩ : Tsk), s17.2.states, q82.2.2.2.2, s17.2.costs, s17.2.fin, s17.2.exp⟩ : Sch).exp⟩ : Rsl), (⟨(⟨s17.2.t.vars, s17.2.t.init, s17.2.t.goal, s17.2.t.ops⟩ : Tsk), s17.2.states, q82.2.2.2.2, s17.2.costs, s17.2.fin, s17.2.exp⟩ : Sch)))) else (bnd (e_stubborn_search_expand (⟨(⟨s17.2.t.vars, s17.2.t.init, s17.2.t.goal, s17.2.t.ops⟩ : Tsk), s17.2.states, q82.2.2.2.2, s17.2.costs, s17.2.fin, s17.2.exp⟩ : Sch) q82.2.2.1 q194.1) fun q237 => if q237.1.n ≠ 0 then (some (.ret ((⟨3, ([] : List Int), 0, q237.2.exp⟩ : Rsl), q237.2))) else (some (.next ((⟨(⟨s17.2.t.vars, s17.2.t.init, s17.2.t.goal, s17.2.t.ops⟩ : Tsk), s17.2.states, q82.2.2.2.2, s17.2.costs, s17.2.fin, s17.2.exp⟩ : Sch).exp, q237.2))))))) else (some (.brk (s17.1, s17.2)))) (0, x0)) fun res15 => fin res15 fun (s331 : Int × Sch) => some ((⟨2, ([] : List Int), 0, s331.2.exp⟩ : Rsl), s331.2)
theorem le_stubborn_search_run (x0 : Sch) (x1 : Int) : Le (e_stubborn_search_run x0 x1) (m_stubborn_search_run x0 x1) := by
  unfold e_stubborn_search_run m_stubborn_search_run
  repeat' (first | apply le_pqueue_Queue_Len | apply le_pqueue_Queue_Pop | apply le_registry_Registry_Path | apply le_registry_Registry_State | apply le_stubborn_search_expand | apply le_task_Holds | apply Le.ite | apply Le.bnd | apply Le.fin | apply Le.rng | apply Le.rngN | apply Le.lop | exact Le.rf | intro _)
noncomputable def e_stubborn_Search (x0 : Tsk) (x1 : Int) : Option (Rsl × Err) :=
  bnd (e_task_Check x0) fun q30 => if q30.n ≠ 0 then (some ((⟨0, ([] : List Int), 0, 0⟩ : Rsl), (⟨q30.n⟩ : Err))) else (bnd (e_registry_New x0.vars) fun q41 => if q41.2.n ≠ 0 then (some ((⟨0, ([] : List Int), 0, 0⟩ : Rsl), (⟨q41.2.n⟩ : Err))) else (bnd (e_pqueue_New) fun q56 => bnd q41.1 fun o64 => bnd q56 fun o67 => bnd (e_stubborn_search_reach (⟨(⟨x0.vars, x0.init, x0.goal, x0.ops⟩ : Tsk), o64, o67, ([] : List Int), ([] : List Bool), 0⟩ : Sch) x0.init (-1) (-1) 0) fun q84 => if q84.1.n ≠ 0 then (some ((⟨0, ([] : List Int), 0, 0⟩ : Rsl), (⟨q84.1.n⟩ : Err))) else (bnd (e_stubborn_search_run q84.2 (max x1 0)) fun q97 => some (q97.1, (⟨0⟩ : Err)))))
theorem le_stubborn_Search (x0 : Tsk) (x1 : Int) : Le (e_stubborn_Search x0 x1) (m_stubborn_Search x0 x1) := by
  unfold e_stubborn_Search m_stubborn_Search
  repeat' (first | apply le_pqueue_New | apply le_registry_New | apply le_stubborn_search_reach | apply le_stubborn_search_run | apply le_task_Check | apply Le.ite | apply Le.bnd | apply Le.fin | apply Le.rng | apply Le.rngN | apply Le.lop | exact Le.rf | intro _)
noncomputable def e_law53_switches  : Option Tsk :=
  some (⟨[2, 2], [0, 0], [(⟨0, 1⟩ : Fct), (⟨1, 1⟩ : Fct)], [(⟨(⟨#[]⟩ : ByteArray), 1, [(⟨0, 0⟩ : Fct)], [(⟨([] : List Fct), 0, 1⟩ : Eff)]⟩ : Opr), (⟨(⟨#[]⟩ : ByteArray), 1, [(⟨1, 0⟩ : Fct)], [(⟨([] : List Fct), 1, 1⟩ : Eff)]⟩ : Opr)]⟩ : Tsk)
theorem le_law53_switches  : Le (e_law53_switches ) (m_law53_switches ) := by
  unfold e_law53_switches m_law53_switches
  repeat' (first | apply Le.ite | apply Le.bnd | apply Le.fin | apply Le.rng | apply Le.rngN | apply Le.lop | exact Le.rf | intro _)
noncomputable def e_law53_awake  : Option Bool :=
  bnd (e_law53_switches) fun q1 => bnd (e_stubborn_Set q1 [0, 0]) fun q33 => bnd (e_law53_switches) fun q47 => bnd (e_stubborn_Search q47 10) fun q71 => bnd (if q33.2.n = 0 then (if q71.2.n = 0 then (bnd (e_base_Ints q33.1 [0]) fun q110 => if q110 = true then if q71.1.verdict = 1 then (if q71.1.cost = 2 then (if q71.1.expanded = 2 then (some true) else (some false)) else (some false)) else (some false) else some false) else (some false)) else (some false) : Option Bool) fun y98 => some y98
theorem le_law53_awake  : Le (e_law53_awake ) (m_law53_awake ) := by
  unfold e_law53_awake m_law53_awake
  repeat' (first | apply le_base_Ints | apply le_law53_switches | apply le_stubborn_Search | apply le_stubborn_Set | apply Le.ite | apply Le.bnd | apply Le.fin | apply Le.rng | apply Le.rngN | apply Le.lop | exact Le.rf | intro _)
set_option maxRecDepth 100000 in
theorem awake53 : m_law53_awake = some true := le_law53_awake true (by kernel_rfl)
end
section
open Go Go.RowKit
theorem Set_no {t : Tsk} (h : ¬ TaskOk t) (s : List Int) : m_stubborn_Set t s = some ([], ⟨checkN t⟩) := by
  unfold m_stubborn_Set m_task_Check
  rw [bnd_some, if_pos fun e => h (check_ok.1 e)]
theorem Set_bad {t : Tsk} (h : TaskOk t) {s : List Int} (hs : ¬ StateOk t.vars s) : m_stubborn_Set t s = some ([], ⟨2⟩) := by
  unfold m_stubborn_Set m_task_Proper
  rw [check_t h, bnd_some, if_neg (by simp), bof_f hs, bnd_some, if_f]
theorem Set_ok {t : Tsk} (h : TaskOk t) {s : List Int} (hs : StateOk t.vars s) : m_stubborn_Set t s = some (stubL t s, ⟨0⟩) := by
  unfold m_stubborn_Set m_task_Proper
  rw [check_t h, bnd_some, if_neg (by simp), bof_t hs, bnd_some, if_t, set_eq h hs, bnd_some]
theorem Search_no {t : Tsk} (h : ¬ TaskOk t) (k : Int) : m_stubborn_Search t k = some (⟨0, [], 0, 0⟩, ⟨checkN t⟩) := by
  unfold m_stubborn_Search m_task_Check
  rw [bnd_some, if_pos fun e => h (check_ok.1 e)]
theorem count_loop' {ops : List Opr} {s : List Int} (hl : ops.length ≤ 1000000) {ρ : Type} : rng (ρ := ρ) (fun (_ : Nat) (a293 : Opr) (s290 : Int) => bnd (m_base_Holds a293.pre s) fun q329 => if q329 = true then bnd (chkI (s290 + 1)) fun n336 => some (.next n336) else some (.next s290)) ops 0 0 = some (.done (((pick (fun i => (ops[i]?).any fun o => holdsB o.pre s) ops.length).length : Nat) : Int)) := by
  refine rng_from (fun k => (((pick (fun i => (ops[i]?).any fun o => holdsB o.pre s) k).length : Nat) : Int)) (by unfold pick; rfl) fun k o hk => ?_
  have hkl := lt_of_get hk
  have hpl := pick_len (fun i => (ops[i]?).any fun o => holdsB o.pre s) k
  rw [pick_succ, holds_eq, bnd_some, hk]
  simp only [Option.any_some]
  by_cases hb : holdsB o.pre s = true
  · simp only [hb, if_true]
    rw [chkI_eq (by unfold inI64; omega), bnd_some]
    simp
  · simp only [hb, if_false, Bool.false_eq_true]
theorem asc_loop {t : Tsk} (h : TaskOk t) {s : List Int} {p : Nat → Bool} (hp : ∀ i, p i = true → ((t.ops[i]?).any fun o => holdsB o.pre s) = true) : rng (ρ := Bool) (fun (k175 : Nat) (a176 : Int) (_ : Unit) => bnd (if a176 < 0 then (some true) else (if (t.ops.length : Int) ≤ a176 then (some true) else (if 0 < (k175 : Int) then (bnd (chkI ((k175 : Int) - 1)) fun n203 => bnd (atI (pick p t.ops.length) n203) fun a206 => if a176 ≤ a206 then (some true) else (bnd (atI t.ops a176) fun a219 => bnd (m_base_Holds a219.pre s) fun q240 => if q240 = true then some false else some true)) else (bnd (atI t.ops a176) fun a247 => bnd (m_base_Holds a247.pre s) fun q268 => if q268 = true then some false else some true))) : Option Bool) fun y194 => if y194 = true then (some (.ret false)) else (some (.next ()))) (pick p t.ops.length) 0 () = some (.done ()) := by
  refine rng_unit fun k x hk => ?_
  obtain ⟨i, rfl, hi, hpi⟩ := mem_pick.1 (List.mem_of_getElem? hk)
  obtain ⟨o, ho, hh⟩ := any_some (hp i hpi)
  have hkl := lt_of_get hk
  have hlen := pick_len p t.ops.length
  have hops := h.2.1
  rw [if_neg (by omega), if_neg (by omega)]
  have hlast : (bnd (atI t.ops (i : Int)) fun a219 => bnd (m_base_Holds a219.pre s) fun q240 => if q240 = true then some false else some true) = some false := by
    rw [atI_eq, ho, bnd_some, holds_eq, hh]; rfl
  by_cases hk0 : 0 < (k : Int)
  · rw [if_pos hk0, chkI_eq (by unfold inI64; omega), bnd_some]
    have hk1 : ((k : Int) - 1) = ((k - 1 : Nat) : Int) := by omega
    have hg : (pick p t.ops.length)[k - 1]? = some ((pick p t.ops.length)[k - 1]'(by omega)) := List.getElem?_eq_getElem _
    rw [hk1, atI_eq, hg, bnd_some]
    have := pick_get_lt p t.ops.length (k - 1) k _ _ (by omega) hg hk
    rw [if_neg (by omega), hlast]
    rfl
  · rw [if_neg hk0, hlast]
    rfl
theorem applicable_eq (t : Tsk) (s : List Int) : m_law53_StubbornApplicable t s = some true := by
  unfold m_law53_StubbornApplicable
  by_cases hg : 12 < (t.vars.length : Int)
  · rw [awake53, bnd_some, if_t, if_pos hg, bnd_some, if_t]; rfl
  by_cases hg2 : 20 < (t.ops.length : Int)
  · rw [awake53, bnd_some, if_t, if_neg hg, if_pos hg2, bnd_some, if_t]; rfl
  by_cases hg3 : 20 < (s.length : Int)
  · rw [awake53, bnd_some, if_t, if_neg hg, if_neg hg2, if_pos hg3, bnd_some, if_t]; rfl
  rw [awake53, bnd_some, if_t, if_neg hg, if_neg hg2, if_neg hg3, bnd_some, if_f]
  by_cases hok : TaskOk t
  case neg =>
    have hc : checkN t ≠ 0 := fun e => hok (check_ok.1 e)
    rw [Set_no hok, bnd_some, good_f hok, bnd_some, if_f, Search_no hok, bnd_some]
    unfold m_base_Num
    simp [hc, bnd]
  rw [good_t hok]
  by_cases hst : StateOk t.vars s
  case neg =>
    rw [Set_bad hok hst, bnd_some, bnd_some, if_t, if_pos (by simp), is_eq]
    unfold m_base_State
    rw [bof_f hst]
    rfl
  rw [Set_ok hok hst, bnd_some, bnd_some, if_t, if_neg (by simp)]
  unfold stubL
  rw [asc_loop hok (fun i hi => by rw [Bool.and_eq_true] at hi; exact hi.2), bnd_some]
  show (bnd (rng _ t.ops 0 0) _) = _
  rw [count_loop' (by have := hok.2.1; omega), bnd_some]
  show (bnd (bnd (m_base_Holds t.goal s) _) _) = _
  rw [holds_eq, bnd_some]
  cases hgl : holdsB t.goal s with
  | false => rfl
  | true =>
    have hno : lackF t.goal s = none := (lack_none hok.2.2.2.2.1).2 hgl
    have he : (pick (fun i => bof (Clo t s i) && (t.ops[i]?).any fun o => holdsB o.pre s) t.ops.length) = pick (fun i => (t.ops[i]?).any fun o => holdsB o.pre s) t.ops.length := by
      unfold pick
      congr 1
      apply List.filter_congr
      intro i hi
      rw [bof_t (Clo.all hno (List.mem_range.1 hi)), Bool.true_and]
    rw [he, if_t, if_pos rfl]
    rfl
end
section
open Go Go.RowKit Go.ChangeShapes Go.WideShapes Go.Deep
theorem lawApplicable {w : World} {v0 : Value} {a0 : Tsk} (h0 : V w v0 a0) {v1 : Value} {a1 : List Int} (h1 : V w v1 a1) : Fn Try.prog 7 [v0, v1] w fun v w' => v = .bool true ∧ Ext w w' :=
  (c_law53_StubbornApplicable (fun _ h => h) h0 h1 (applicable_eq a0 a1)).mono fun _ _ h => ⟨h.2.bool, h.1⟩
set_option maxRecDepth 100000 in
theorem stubbornApplicable_lifted (os : Os) (started : os.Started) (H : Type) (enc : TypeId × Value → H) :
    ReturnsInHanded {} Try.checked os 7 .any (Rows.stubbornApplicableSpec.pre6 enc Try.prog Try.f7 Rows.stubbornApplicableRow.domain false) (Rows.stubbornApplicableSpec.post enc Try.prog Try.f7 false true false false) := by
  refine returnsInHanded_of_change (C := Try.checked) ownTry started (by kernel_rfl) Try.func7 (ChangeSpec.witness6 (enc := enc) (C := Try.checked) false ⟨#[], #[(.agg #[.slice none 0 0, .slice none 0 0, .slice none 0 0, .slice none 0 0]), .slice none 0 0], []⟩ 8 (by kernel_rfl) (by kernel_rfl) (by kernel_rfl) (by kernel_rfl)) ?_
  intro W base args ds gs before hval hW _ _
  have hopen : ∀ p, DataW.TrodAll enc Try.prog W 0 (fun _ => true) true Try.f7.params.toList args.toList ds p → ∃ v0 v1 d0 d1, args = #[v0, v1] ∧ ds = [d0, d1] ∧ (∃ a : Tsk, V W v0 a) ∧ (∃ a : List Int, V W v1 a) := by
    intro p hA
    rw [Try.params7] at hA
    replace hval : ∀ (j : Nat) t v, (#[26, 22] : Array TypeId)[j]? = some t → args[j]? = some v → Value.okWide Try.prog W .any base t v := by rw [← Try.params7]; exact hval
    obtain ⟨v0, vs0, d0, ds0, p0, q0, g0, e0, _, h0, r0⟩ := trodAll_cons hA
    obtain ⟨v1, vs1, d1, ds1, p1, q1, g1, e1, _, h1, r1⟩ := trodAll_cons r0
    obtain ⟨g, e, _⟩ := trodAll_nil r1
    rw [g] at g1; rw [e] at e1
    rw [g1] at g0; rw [e1] at e0
    obtain rfl : args = #[v0, v1] := by cases args; simp_all
    exact ⟨v0, v1, d0, d1, rfl, e0, (by first | exact openAgg rfl (hval 0 26 v0 rfl rfl) h0 | exact openOne rfl (hval 0 26 v0 rfl rfl) h0), (by first | exact openAgg rfl (hval 1 22 v1 rfl rfl) h1 | exact openOne rfl (hval 1 22 v1 rfl rfl) h1)⟩
  refine lawPost rfl (by kernel_rfl) (by rw [Try.params7]; exact of_decide_eq_true (by kernel_rfl)) hW ?_ ?_
  · intro p hA
    obtain ⟨v0, v1, d0, d1, _, rfl, _⟩ := hopen p hA
    rfl
  · intro p hA
    obtain ⟨v0, v1, d0, d1, rfl, _, ⟨a0, h0⟩, ⟨a1, h1⟩⟩ := hopen p hA
    exact lawApplicable h0 h1
theorem stubbornApplicable_holds : Rows.StubbornApplicableSaid :=
  OpenClaim.holds_of_wide 7 Try.f7 rfl rfl rfl rfl rfl rfl rfl ⟨rfl, rfl, rfl, rfl, rfl⟩ rfl rfl rfl rfl rfl (by kernel_rfl) Try.func7 (by kernel_rfl)
    (of_decide_eq_true (by kernel_rfl)) (by unfold Func.isWrapper; first | (rw [if_pos (by decide +kernel)]; kernel_rfl) | (rw [if_neg (by decide +kernel)]; exact ⟨rfl, rfl⟩))
    (fun os started H enc _ => stubbornApplicable_lifted os started H enc)
#print axioms stubbornApplicable_holds
end
end Go.Proofs.Ytgnmjmcjadpmhaa

/- Own text: what the proof of symmetryOrbits_holds uses, part 3: rules, models and their proofs, plain laws. -/
import Derived.Test.YtdhaelekmjgbmaaPOrbB
namespace Go.Proofs.Ytdhaelekmjgbmaa
open Go Go.RowKit
section
open Go Go.RowKit
attribute [local irreducible] ewp owp hwp hwq Ev Evg Fn retPost Res1
noncomputable def m_symmetry_mapped (x0 : Swp) (x1 : List Fct) : Option (List Fct) :=
  bnd (rng (ρ := (List Fct)) (fun (k29 : Nat) (a30 : Fct) (s27 : (List Fct)) => bnd (atI x0.vars a30.var) fun a60 => bnd (atI x0.vals a30.var) fun a72 => bnd (atI a72 a30.val) fun a87 => bnd (appI 16 s27 [(⟨a60, a87⟩ : Fct)]) fun u105 => some (.next u105)) x1 0 ([] : List Fct)) fun res25 => fin res25 fun (s120 : (List Fct)) => bnd (if s120.length < 4611686018427387904 then some (srt_symmetry_mapped_l1 s120) else none) fun u127 => some u127
theorem c_symmetry_mapped {w : World} {A : Nat → Prop} (hA : ∀ k, A k → k < w.heap.size) {vx0 : Value} {x0 : Swp} (hx0 : Vb w A vx0 x0) {vx1 : Value} {x1 : List Fct} (hx1 : Vb w A vx1 x1) {r : (List Fct)} (hm : m_symmetry_mapped x0 x1 = some r) :
    Fn Try.prog 72 [vx0, vx1] w fun v w' => Ext w w' ∧ Vb w' (upA A w w') v r := by
 obtain ⟨O, hB, hA0⟩ := enter hA
 replace hx0 := hx0.mono hA0
 obtain ⟨cs3, rfl, v4, v5, v6, rfl, h7, h10, h13⟩ := hx0
 obtain ⟨A8, c9, rfl⟩ := h7.form
 obtain ⟨A11, c12, rfl⟩ := h10.form
 obtain ⟨A14, c15, rfl⟩ := h13.form
 replace hx1 := hx1.mono hA0
 obtain ⟨A16, c17, rfl⟩ := hx1.form
 refine fn_enter Try.func72 rfl Try.ntmps72 rfl ?_
 unfold m_symmetry_mapped at hm
 refine ewp_seq (ewp_region (l_box 2 O rfl rfl fun g18 w19 O20 S21 h22 => ?_))
 replace h22 : Lc 2 w19 O20 g18 29 [(.slice A8 x0.vars.length c9), (.slice A11 x0.vals.length c12), (.slice A14 x0.ops.length c15)] := h22
 refine o_as rfl rfl (o_z ?_)
 refine ewp_seq (ewp_region (o_as rfl rfl (o_z ?_)))
 refine ewp_seq (ewp_seq (ewp_region (o_mv rfl rfl (o_ln rfl rfl ?_))))
 replace hx1 := hx1.st S21
 have l24 : x1.length ≤ 9223372036854775807 := Nat.le_trans hx1.len.2.1 hx1.len.2.2
 have r23 : inI64 (x1.length : Int) := rngNat l24
 refine o_mv rfl rfl (o_z ?_)
 obtain ⟨res25, hL26, hm⟩ := bs hm
 refine ewp_join (aft res25 (fun (s27 : (List Fct)) (x28 : (Option Addr × Nat)) => [(5, (.slice x28.1 s27.length x28.2))]) (fun s27 x28 w' => ∃ O' : Lab, Bs w A w' O' ∧ Rw 5 w' O' 103 (.slice x28.1 s27.length x28.2) s27)) ?_ ?_
 ·
  refine ewp_block ?_
  replace hB := hB.st S21
  replace h7 := h7.st S21
  replace h10 := h10.st S21
  replace h13 := h13.st S21
  refine ewp_rng (σ := (List Fct)) (X := (Option Addr × Nat)) (x1.length) hL26 rfl l24 (fun (s27 : (List Fct)) (x28 : (Option Addr × Nat)) => [(2, (.pointer (some ⟨g18, 0, none⟩))), (5, (.slice x28.1 s27.length x28.2)), (8, (.slice A16 x1.length c17))]) _ (fun s27 x28 w' => ∃ O' : Lab, Bs w A w' O' ∧ Lc 2 w' O' g18 29 [(.slice A8 x0.vars.length c9), (.slice A11 x0.vals.length c12), (.slice A14 x0.ops.length c15)] ∧ Vb w' (Fr 0 w' O') (.slice A8 x0.vars.length c9) x0.vars ∧ Vb w' (Fr 0 w' O') (.slice A11 x0.vals.length c12) x0.vals ∧ Vb w' (Fr 0 w' O') (.slice A14 x0.ops.length c15) x0.ops ∧ Rw 5 w' O' 103 (.slice x28.1 s27.length x28.2) s27 ∧ Vb w' (Fr 0 w' O') (.slice A16 x1.length c17) x1) _ (none, 0) ⟨O20, hB, h22, h7, h10, h13, (Rw.nil 5 (by decide)), hx1⟩ ⟨rfl, rfl, rfl, rfl, rfl, trivial⟩ (fun _ _ => ⟨rfl, rfl⟩) (fun _ _ => ⟨rfl, trivial⟩) (fun _ _ _ ⟨O', hB, h22, h7, h10, h13, h42, hx1⟩ => ⟨O', hB, h42⟩) ⟨rfl, rfl, rfl⟩ ⟨rfl, rfl⟩ ?_
  rintro k29 a30 s27 x28 w31 cc33 hx34 ⟨O32, hB, h22, h7, h10, h13, h42, hx1⟩ hf35 hret36 hbrk37
  have rk29 : inI64 (k29 : Int) := rngK hx34 l24
  refine ewp_seq (ewp_region ?_)
  obtain ⟨b44, o45, ce46, hA47, hl48, hd49, rfl, r51, r52⟩ := hx1.elem' hx34
  refine o_iaE (hA := hA47) (hj := rfl) (hlt := hl48) rfl rfl rfl ?_
  refine o_la (hl := rfl) (hc := hd49) rfl rfl ?_
  refine l_alloc 3 O32 rfl fun g53 w54 O55 S56 h57 => ?_
  refine l_store h57 rfl rfl rfl (Nat.le_of_ble_eq_true rfl) (by first | exact allOne rfl | simp [Value.cells, Value.oneCell', errV_one]) fun w58 S59 h57 => ?_
  replace h57 : Lc 3 w58 O55 g53 103 [(.int .i64 a30.var), (.int .i64 a30.val)] := h57
  refine o_z ?_
  refine ewp_drawX [(18, []), (19, [5])] O55 ?_
  refine x_pre (fuel := 3) [] [(0, true), (1, true), (2, true), (3, true), (4, true), (5, true), (6, true), (7, true), (8, true), (9, true), (10, true), (11, true), (12, true), (13, true), (14, true), (15, true), (16, true), (17, true)] (by kernel_rfl) rfl ?_
  refine h_mv rfl rfl rfl (h_fa rfl rfl rfl ?_)
  replace h22 := (h22.st S56).st S59
  refine h_ldC (hc := fun w' ⟨O', hq⟩ => Blk.cell (i := 0) ((h22.st hq (by decide)).1) rfl) rfl rfl rfl ?_
  refine h_fa rfl rfl rfl (h_ldC (hc := fun w' ⟨O', hq⟩ => Blk.cell (i := 0) ((h57.st hq (by decide)).1) rfl) rfl rfl rfl ?_)
  obtain ⟨a60, e61, hf35⟩ := bs hf35
  obtain ⟨p63, x62⟩ := atI_some' e61
  replace h7 := (h7.st S56).st S59
  obtain ⟨b64, o65, ce66, hA67, hF70, hl68, hd69, rfl, r71⟩ := h7.elem x62
  refine h_iaE (hA := hA67) (hj := (Int.toNat_of_nonneg p63).symm) (hlt := hl68) rfl rfl rfl rfl ?_
  refine h_ldC (hc := fun w' ⟨O', hq⟩ => cat0 (cellsAt_agree (hq.agree (i := 0) (by decide)) hF70 hd69)) rfl rfl rfl ?_
  refine h_fa rfl rfl rfl (h_ldC (hc := fun w' ⟨O', hq⟩ => Blk.cell (i := 1) ((h22.st hq (by decide)).1) rfl) rfl rfl rfl ?_)
  refine h_fa rfl rfl rfl (h_ldC (hc := fun w' ⟨O', hq⟩ => Blk.cell (i := 0) ((h57.st hq (by decide)).1) rfl) rfl rfl rfl ?_)
  obtain ⟨a72, e73, hf35⟩ := bs hf35
  obtain ⟨p75, x74⟩ := atI_some' e73
  replace h10 := (h10.st S56).st S59
  obtain ⟨b76, o77, ce78, hA79, hF82, hl80, hd81, v83, rfl, h84⟩ := h10.elem x74
  replace h84 := Vb.of_slice h84
  obtain ⟨A85, c86, rfl⟩ := h84.form
  refine h_iaE (hA := hA79) (hj := (Int.toNat_of_nonneg p75).symm) (hlt := hl80) rfl rfl rfl rfl ?_
  refine h_ldC (hc := fun w' ⟨O', hq⟩ => cat0 (cellsAt_agree (hq.agree (i := 0) (by decide)) hF82 hd81)) rfl rfl rfl ?_
  refine h_fa rfl rfl rfl (h_ldC (hc := fun w' ⟨O', hq⟩ => Blk.cell (i := 1) ((h57.st hq (by decide)).1) rfl) rfl rfl rfl ?_)
  obtain ⟨a87, e88, hf35⟩ := bs hf35
  obtain ⟨p90, x89⟩ := atI_some' e88
  obtain ⟨b91, o92, ce93, hA94, hF97, hl95, hd96, rfl, r98⟩ := h84.elem x89
  refine h_iaE (hA := hA94) (hj := (Int.toNat_of_nonneg p90).symm) (hlt := hl95) rfl rfl rfl rfl ?_
  refine h_ldC (hc := fun w' ⟨O', hq⟩ => cat0 (cellsAt_agree (hq.agree (i := 0) (by decide)) hF97 hd96)) rfl rfl rfl ?_
  refine h_bd rfl rfl rfl rfl ?_
  refine hwp_nilT ?_
  refine x_one (i := 18) (by kernel_rfl) rfl ?_
  refine l_bslice 4 (by decide) O55 (xs := ([(⟨a60, a87⟩ : Fct)] : List Fct)) rfl rfl rfl rfl ⟨(Vb.ofAgg (cs := [(.int .i64 a60), (.int .i64 a87)]) (x := (⟨a60, a87⟩ : Fct)) rfl ⟨rfl, r71, r98⟩), trivial⟩ (by decide) (by decide) rfl fun g99 w100 O101 S102 h103 => ?_
  have hZ := S102.lst [] (fun _ h => h.elim)
  refine x_go [(19, [5])] hZ (by kernel_rfl) ?_
  refine x_one (i := 19) (by kernel_rfl) rfl ?_
  obtain ⟨u105, e106, hf35⟩ := bs hf35
  obtain ⟨e106, e107, e108⟩ := appI_some e106
  replace h42 := ((h42.st S56).st S59).st S102
  refine l_append rfl h42 (h103.rd) rfl rfl (by decide) e107 e108 rfl fun A109 c110 w111 O112 S113 h114 => ?_
  rw [← e106] at h114 ⊢
  have hZ := S113.lst [5] (fun _ h => by cases h; decide)
  refine x_go [] hZ (by kernel_rfl) ?_
  refine x_pre (fuel := 0) [] [(20, true)] (by kernel_rfl) rfl ?_
  refine h_as rfl rfl rfl (hwp_nilT ?_)
  refine x_nil (by kernel_rfl) ?_
  obtain rfl := sm hf35
  refine (?_ : Exists _)
  replace hB := (((hB.st S56).st S59).st S102).st S113
  replace hx1 := (((hx1.st S56).st S59).st S102).st S113
  replace h7 := (h7.st S102).st S113
  replace h10 := (h10.st S102).st S113
  replace h13 := (((h13.st S56).st S59).st S102).st S113
  replace h22 := (h22.st S102).st S113
  exact ⟨_, (A109, c110), rfl, ⟨rfl, rfl, rfl, rfl, rfl, trivial⟩, _, hB, h22, h7, h10, h13, h114, hx1⟩
 replace hB := hB.st S21
 rintro l116 w117 ⟨s120, x121, rfl, hs119, O118, hB, h42⟩
 replace hm := fin_done hm
 refine ewp_sub _ hs119 ?_
 refine ewp_seq (ewp_region (o_mv rfl rfl ?_))
 obtain ⟨u127, e126, hm⟩ := bs hm
 obtain ⟨e128, e126⟩ := ite_some e126
 refine l_callMut (s_symmetry_mapped_l1 h42 e128) rfl rfl fun v125 w122 O123 S124 h42 => ?_
 rw [e126] at h42
 refine o_z ?_
 refine ewp_seq (ewp_region (o_mv rfl rfl (o_as rfl rfl (o_z ?_))))
 refine ewp_ret ?_
 obtain ⟨O129, S130, h42⟩ := h42.freeze
 obtain rfl := sm hm
 replace hB := (hB.st S124).st S130
 exact ret1v rfl (res_tmp rfl) ⟨hB.ext, (Vb.mono (F := Fr 0 w122 O129) h42 hB.out)⟩
noncomputable def m_symmetry_image (x0 : Swp) (x1 : Opr) : Option Opr :=
  bnd (m_symmetry_mapped x0 x1.pre) fun q42 => bnd (some q42 : Option (List Fct)) fun y44 => bnd (rng (ρ := Opr) (fun (k88 : Nat) (a89 : Eff) (s86 : (List Eff)) => bnd (atI x0.vars a89.var) fun a123 => bnd (atI x0.vals a89.var) fun a135 => bnd (atI a135 a89.val) fun a150 => bnd (m_symmetry_mapped x0 a89.cond) fun q162 => bnd (appI 40 s86 [(⟨q162, a123, a150⟩ : Eff)]) fun u177 => some (.next u177)) x1.effs 0 ([] : List Eff)) fun res84 => fin res84 fun (s194 : (List Eff)) => some (⟨(⟨#[]⟩ : ByteArray), x1.cost, y44, s194⟩ : Opr)
theorem c_symmetry_image {w : World} {A : Nat → Prop} (hA : ∀ k, A k → k < w.heap.size) {vx0 : Value} {x0 : Swp} (hx0 : Vb w A vx0 x0) {vx1 : Value} {x1 : Opr} (hx1 : Vb w A vx1 x1) {r : Opr} (hm : m_symmetry_image x0 x1 = some r) :
    Fn Try.prog 74 [vx0, vx1] w fun v w' => Ext w w' ∧ Vb w' (upA A w w') v r := by
 obtain ⟨O, hB, hA0⟩ := enter hA
 replace hx0 := hx0.mono hA0
 obtain ⟨cs3, rfl, v4, v5, v6, rfl, h7, h10, h13⟩ := hx0
 obtain ⟨A8, c9, rfl⟩ := h7.form
 obtain ⟨A11, c12, rfl⟩ := h10.form
 obtain ⟨A14, c15, rfl⟩ := h13.form
 replace hx1 := hx1.mono hA0
 obtain ⟨cs16, rfl, v17, v18, rfl, h19, h22, r25, z26⟩ := hx1
 obtain ⟨A20, c21, rfl⟩ := h19.form
 obtain ⟨A23, c24, rfl⟩ := h22.form
 refine fn_enter Try.func74 rfl Try.ntmps74 rfl ?_
 unfold m_symmetry_image at hm
 refine ewp_seq (ewp_region (l_box 2 O rfl rfl fun g27 w28 O29 S30 h31 => ?_))
 replace h31 : Lc 2 w28 O29 g27 29 [(.slice A8 x0.vars.length c9), (.slice A11 x0.vals.length c12), (.slice A14 x0.ops.length c15)] := h31
 refine l_box 3 O29 rfl rfl fun g32 w33 O34 S35 h36 => ?_
 replace h36 : Lc 3 w33 O34 g32 77 [(.string x1.name), (.int .i64 x1.cost), (.slice A20 x1.pre.length c21), (.slice A23 x1.effs.length c24)] := h36
 refine l_alloc 4 O34 rfl fun g37 w38 O39 S40 h41 => ?_
 refine o_z ?_
 refine ewp_seq ?_
 obtain ⟨q42, e43, hm⟩ := bs hm
 obtain ⟨y44, hy45, hm⟩ := bs hm
 refine ewp_join (fun l' w' => ∃ (x47 : Nat × (Option Addr × Nat)) (O' : Lab), subs l' [(2, (.pointer (some ⟨g27, 0, none⟩))), (3, (.pointer (some ⟨g32, 0, none⟩))), (4, (.pointer (some ⟨g37, 0, none⟩))), (5, (.pointer (some ⟨x47.1, 0, none⟩)))] ∧ Bs w A w' O' ∧ Lc 2 w' O' g27 29 [(.slice A8 x0.vars.length c9), (.slice A11 x0.vals.length c12), (.slice A14 x0.ops.length c15)] ∧ Vb w' (Fr 0 w' O') (.slice A8 x0.vars.length c9) x0.vars ∧ Vb w' (Fr 0 w' O') (.slice A11 x0.vals.length c12) x0.vals ∧ Vb w' (Fr 0 w' O') (.slice A14 x0.ops.length c15) x0.ops ∧ Lc 3 w' O' g32 77 [(.string x1.name), (.int .i64 x1.cost), (.slice A20 x1.pre.length c21), (.slice A23 x1.effs.length c24)] ∧ Vb w' (Fr 0 w' O') (.slice A20 x1.pre.length c21) x1.pre ∧ Vb w' (Fr 0 w' O') (.slice A23 x1.effs.length c24) x1.effs ∧ Lc 4 w' O' g37 77 [(.string (⟨#[]⟩ : ByteArray)), (.int .i64 0), (.slice none 0 0), (.slice none 0 0)] ∧ Lc 5 w' O' x47.1 77 [(.string (⟨#[]⟩ : ByteArray)), (.int .i64 x1.cost), (.slice x47.2.1 y44.length x47.2.2), (.slice none 0 0)] ∧ Vb w' (Fr 0 w' O') (.slice x47.2.1 y44.length x47.2.2) y44) ?_ ?_
 ·
  refine ewp_drawX [(5, []), (7, [])] O39 ?_
  refine x_pre (fuel := 4) [] [(0, true), (1, true), (2, true), (3, true), (4, true)] (by kernel_rfl) rfl ?_
  refine h_fa rfl rfl rfl ?_
  replace h36 := h36.st S40
  refine h_ldC (hc := fun w' ⟨O', hq⟩ => Blk.cell (i := 1) ((h36.st hq (by decide)).1) rfl) rfl rfl rfl ?_
  replace h31 := (h31.st S35).st S40
  refine h_laB (hl := rfl) (hb := fun w' ⟨O', hq⟩ => ((h31.st hq (by decide)).1).cellsAt) rfl rfl rfl ?_
  refine h_fa rfl rfl rfl (h_ldC (hc := fun w' ⟨O', hq⟩ => Blk.cell (i := 2) ((h36.st hq (by decide)).1) rfl) rfl rfl rfl ?_)
  refine hwp_nilT ?_
  refine x_two (i := 5) (j := 7) (by kernel_rfl) rfl rfl ?_ ?_
  ·
   replace h7 := ((h7.st S30).st S35).st S40
   replace h10 := ((h10.st S30).st S35).st S40
   replace h13 := ((h13.st S30).st S35).st S40
   replace h19 := ((h19.st S30).st S35).st S40
   refine l_call (O := O39) (R := fun w' F v => Vb w' F v q42) (c_symmetry_mapped Fr.lt (Vb.ofAgg (cs := [(.slice A8 x0.vars.length c9), (.slice A11 x0.vals.length c12), (.slice A14 x0.ops.length c15)]) (x := x0) rfl ⟨_, _, _, rfl, h7, h10, h13⟩) h19 e43) rfl rfl fun v54 w50 O51 S52 h53 => ?_
   obtain ⟨A55, c56, rfl⟩ := h53.form
   have hZ := S52.lst [] (fun _ h => h.elim)
   refine x_go [(7, [])] hZ (by kernel_rfl) ?_
   refine x_pre (fuel := 2) [] [(6, true)] (by kernel_rfl) rfl ?_
   refine h_bd rfl rfl rfl rfl ?_
   refine hwp_nilT ?_
   refine x_one (i := 7) (by kernel_rfl) rfl ?_
   refine l_alloc 5 O51 rfl fun g57 w58 O59 S60 h61 => ?_
   have hZ := S60.lst [] (fun _ h => h.elim)
   refine x_go [] hZ (by kernel_rfl) ?_
   refine x_one (i := 8) (by kernel_rfl) rfl ?_
   refine l_store h61 rfl rfl rfl (Nat.le_of_ble_eq_true rfl) (by first | exact allOne rfl | simp [Value.cells, Value.oneCell', errV_one]) fun w62 S63 h61 => ?_
   replace h61 : Lc 5 w62 O59 g57 77 [(.string (⟨#[]⟩ : ByteArray)), (.int .i64 x1.cost), (.slice A55 q42.length c56), (.slice none 0 0)] := h61
   refine x_end (by kernel_rfl) ?_
   refine x_nil (by kernel_rfl) ?_
   obtain rfl := sm hy45
   replace hB := (((((hB.st S30).st S35).st S40).st S52).st S60).st S63
   replace h7 := ((h7.st S52).st S60).st S63
   replace h10 := ((h10.st S52).st S60).st S63
   replace h13 := ((h13.st S52).st S60).st S63
   replace h19 := ((h19.st S52).st S60).st S63
   replace h22 := (((((h22.st S30).st S35).st S40).st S52).st S60).st S63
   replace h31 := ((h31.st S52).st S60).st S63
   replace h36 := ((h36.st S52).st S60).st S63
   replace h41 := ((h41.st S52).st S60).st S63
   replace h53 := (h53.st S60).st S63
   exact ⟨(g57, (A55, c56)), _, ⟨rfl, rfl, rfl, rfl, trivial⟩, hB, h31, h7, h10, h13, h36, h19, h22, h41, h61, h53⟩
  ·
   refine l_alloc 5 O39 rfl fun g64 w65 O66 S67 h68 => ?_
   have hZ := S67.lst [] (fun _ h => h.elim)
   refine x_go [(5, [])] hZ (by kernel_rfl) ?_
   refine x_one (i := 5) (by kernel_rfl) rfl ?_
   replace h7 := (((h7.st S30).st S35).st S40).st S67
   replace h10 := (((h10.st S30).st S35).st S40).st S67
   replace h13 := (((h13.st S30).st S35).st S40).st S67
   replace h19 := (((h19.st S30).st S35).st S40).st S67
   refine l_call (O := O66) (R := fun w' F v => Vb w' F v q42) (c_symmetry_mapped Fr.lt (Vb.ofAgg (cs := [(.slice A8 x0.vars.length c9), (.slice A11 x0.vals.length c12), (.slice A14 x0.ops.length c15)]) (x := x0) rfl ⟨_, _, _, rfl, h7, h10, h13⟩) h19 e43) rfl rfl fun v73 w69 O70 S71 h72 => ?_
   obtain ⟨A74, c75, rfl⟩ := h72.form
   have hZ := S71.lst [] (fun _ h => h.elim)
   refine x_go [] hZ (by kernel_rfl) ?_
   refine x_pre (fuel := 1) [] [(6, true)] (by kernel_rfl) rfl ?_
   refine h_bd rfl rfl rfl rfl ?_
   refine hwp_nilT ?_
   refine x_one (i := 8) (by kernel_rfl) rfl ?_
   replace h68 := h68.st S71
   refine l_store h68 rfl rfl rfl (Nat.le_of_ble_eq_true rfl) (by first | exact allOne rfl | simp [Value.cells, Value.oneCell', errV_one]) fun w76 S77 h68 => ?_
   replace h68 : Lc 5 w76 O70 g64 77 [(.string (⟨#[]⟩ : ByteArray)), (.int .i64 x1.cost), (.slice A74 q42.length c75), (.slice none 0 0)] := h68
   refine x_end (by kernel_rfl) ?_
   refine x_nil (by kernel_rfl) ?_
   obtain rfl := sm hy45
   replace hB := (((((hB.st S30).st S35).st S40).st S67).st S71).st S77
   replace h7 := (h7.st S71).st S77
   replace h10 := (h10.st S71).st S77
   replace h13 := (h13.st S71).st S77
   replace h19 := (h19.st S71).st S77
   replace h22 := (((((h22.st S30).st S35).st S40).st S67).st S71).st S77
   replace h31 := ((h31.st S67).st S71).st S77
   replace h36 := ((h36.st S67).st S71).st S77
   replace h41 := ((h41.st S67).st S71).st S77
   replace h72 := h72.st S77
   exact ⟨(g64, (A74, c75)), _, ⟨rfl, rfl, rfl, rfl, trivial⟩, hB, h31, h7, h10, h13, h36, h19, h22, h41, h68, h72⟩
 replace hB := ((hB.st S30).st S35).st S40
 replace h7 := ((h7.st S30).st S35).st S40
 replace h10 := ((h10.st S30).st S35).st S40
 replace h13 := ((h13.st S30).st S35).st S40
 replace h19 := ((h19.st S30).st S35).st S40
 replace h22 := ((h22.st S30).st S35).st S40
 replace h31 := (h31.st S35).st S40
 replace h36 := h36.st S40
 rintro l78 w79 ⟨x47, O80, hs81, hB, h31, h7, h10, h13, h36, h19, h22, h41, h48, h49⟩
 refine ewp_sub _ hs81 ?_
 refine ewp_seq (ewp_seq (ewp_region (o_fa rfl rfl (o_ld (hc := Blk.cell (i := 3) (h36.1) rfl) rfl rfl ?_))))
 refine o_ln rfl rfl ?_
 have l83 : x1.effs.length ≤ 9223372036854775807 := Nat.le_trans h22.len.2.1 h22.len.2.2
 have r82 : inI64 (x1.effs.length : Int) := rngNat l83
 refine o_mv rfl rfl (o_z ?_)
 obtain ⟨res84, hL85, hm⟩ := bs hm
 refine ewp_join (aft res84 (fun (s86 : (List Eff)) (x87 : (Option Addr × Nat)) => [(4, (.pointer (some ⟨g37, 0, none⟩))), (5, (.pointer (some ⟨x47.1, 0, none⟩)))]) (fun s86 x87 w' => ∃ O' : Lab, Bs w A w' O' ∧ Lc 4 w' O' g37 77 [(.string (⟨#[]⟩ : ByteArray)), (.int .i64 0), (.slice none 0 0), (.slice none 0 0)] ∧ Lc 5 w' O' x47.1 77 [(.string (⟨#[]⟩ : ByteArray)), (.int .i64 x1.cost), (.slice x47.2.1 y44.length x47.2.2), (.slice x87.1 s86.length x87.2)] ∧ Vb w' (Fr 0 w' O') (.slice x47.2.1 y44.length x47.2.2) y44 ∧ Rw 8 w' O' 74 (.slice x87.1 s86.length x87.2) s86)) ?_ ?_
 ·
  refine ewp_block (ewp_rng (σ := (List Eff)) (X := (Option Addr × Nat)) (x1.effs.length) hL85 rfl l83 (fun (s86 : (List Eff)) (x87 : (Option Addr × Nat)) => [(2, (.pointer (some ⟨g27, 0, none⟩))), (4, (.pointer (some ⟨g37, 0, none⟩))), (5, (.pointer (some ⟨x47.1, 0, none⟩))), (16, (.slice A23 x1.effs.length c24))]) _ (fun s86 x87 w' => ∃ O' : Lab, Bs w A w' O' ∧ Lc 2 w' O' g27 29 [(.slice A8 x0.vars.length c9), (.slice A11 x0.vals.length c12), (.slice A14 x0.ops.length c15)] ∧ Vb w' (Fr 0 w' O') (.slice A8 x0.vars.length c9) x0.vars ∧ Vb w' (Fr 0 w' O') (.slice A11 x0.vals.length c12) x0.vals ∧ Vb w' (Fr 0 w' O') (.slice A14 x0.ops.length c15) x0.ops ∧ Lc 4 w' O' g37 77 [(.string (⟨#[]⟩ : ByteArray)), (.int .i64 0), (.slice none 0 0), (.slice none 0 0)] ∧ Lc 5 w' O' x47.1 77 [(.string (⟨#[]⟩ : ByteArray)), (.int .i64 x1.cost), (.slice x47.2.1 y44.length x47.2.2), (.slice x87.1 s86.length x87.2)] ∧ Vb w' (Fr 0 w' O') (.slice x47.2.1 y44.length x47.2.2) y44 ∧ Rw 8 w' O' 74 (.slice x87.1 s86.length x87.2) s86 ∧ Vb w' (Fr 0 w' O') (.slice A23 x1.effs.length c24) x1.effs) _ (none, 0) ⟨O80, hB, h31, h7, h10, h13, h41, h48, h49, (Rw.nil 8 (by decide)), h22⟩ ⟨rfl, rfl, rfl, rfl, rfl, rfl, trivial⟩ (fun _ _ => ⟨rfl, rfl⟩) (fun _ _ => ⟨rfl, rfl, trivial⟩) (fun _ _ _ ⟨O', hB, h31, h7, h10, h13, h41, h48, h49, h101, h22⟩ => ⟨O', hB, h41, h48, h49, h101⟩) ⟨rfl, rfl, rfl⟩ ⟨rfl, rfl⟩ ?_)
  rintro k88 a89 s86 x87 w90 cc92 hx93 ⟨O91, hB, h31, h7, h10, h13, h41, h48, h49, h101, h22⟩ hf94 hret95 hbrk96
  have rk88 : inI64 (k88 : Int) := rngK hx93 l83
  refine ewp_seq (ewp_region ?_)
  obtain ⟨b103, o104, ce105, hA106, hl107, hd108, v110, rfl, h111, r114, r115⟩ := h22.elem' hx93
  obtain ⟨A112, c113, rfl⟩ := h111.form
  refine o_iaE (hA := hA106) (hj := rfl) (hlt := hl107) rfl rfl rfl ?_
  refine o_la (hl := rfl) (hc := hd108) rfl rfl ?_
  refine l_alloc 6 O91 rfl fun g116 w117 O118 S119 h120 => ?_
  refine l_store h120 rfl rfl rfl (Nat.le_of_ble_eq_true rfl) (by first | exact allOne rfl | simp [Value.cells, Value.oneCell', errV_one]) fun w121 S122 h120 => ?_
  replace h120 : Lc 6 w121 O118 g116 74 [(.slice A112 a89.cond.length c113), (.int .i64 a89.var), (.int .i64 a89.val)] := h120
  refine o_z ?_
  refine ewp_drawX [(5, []), (23, []), (24, [8])] O118 ?_
  refine x_pre (fuel := 6) [] [(0, true), (1, true), (2, true), (3, true), (4, true), (6, true), (7, true), (8, true), (9, true), (10, true), (11, true), (12, true), (13, true), (14, true), (15, true), (16, true), (17, true), (18, true), (19, true), (20, true), (21, true)] (by kernel_rfl) rfl ?_
  refine h_fa rfl rfl rfl ?_
  replace h48 := (h48.st S119).st S122
  refine h_ldC (hc := fun w' ⟨O', hq⟩ => Blk.cell (i := 3) ((h48.st hq (by decide)).1) rfl) rfl rfl rfl ?_
  replace h31 := (h31.st S119).st S122
  refine h_laB (hl := rfl) (hb := fun w' ⟨O', hq⟩ => ((h31.st hq (by decide)).1).cellsAt) rfl rfl rfl ?_
  refine h_fa rfl rfl rfl (h_ldC (hc := fun w' ⟨O', hq⟩ => Blk.cell (i := 0) ((h120.st hq (by decide)).1) rfl) rfl rfl rfl ?_)
  refine h_fa rfl rfl rfl (h_ldC (hc := fun w' ⟨O', hq⟩ => Blk.cell (i := 0) ((h31.st hq (by decide)).1) rfl) rfl rfl rfl ?_)
  refine h_fa rfl rfl rfl (h_ldC (hc := fun w' ⟨O', hq⟩ => Blk.cell (i := 1) ((h120.st hq (by decide)).1) rfl) rfl rfl rfl ?_)
  obtain ⟨a123, e124, hf94⟩ := bs hf94
  obtain ⟨p126, x125⟩ := atI_some' e124
  replace h7 := (h7.st S119).st S122
  obtain ⟨b127, o128, ce129, hA130, hF133, hl131, hd132, rfl, r134⟩ := h7.elem x125
  refine h_iaE (hA := hA130) (hj := (Int.toNat_of_nonneg p126).symm) (hlt := hl131) rfl rfl rfl rfl ?_
  refine h_ldC (hc := fun w' ⟨O', hq⟩ => cat0 (cellsAt_agree (hq.agree (i := 0) (by decide)) hF133 hd132)) rfl rfl rfl ?_
  refine h_fa rfl rfl rfl (h_ldC (hc := fun w' ⟨O', hq⟩ => Blk.cell (i := 1) ((h31.st hq (by decide)).1) rfl) rfl rfl rfl ?_)
  refine h_fa rfl rfl rfl (h_ldC (hc := fun w' ⟨O', hq⟩ => Blk.cell (i := 1) ((h120.st hq (by decide)).1) rfl) rfl rfl rfl ?_)
  obtain ⟨a135, e136, hf94⟩ := bs hf94
  obtain ⟨p138, x137⟩ := atI_some' e136
  replace h10 := (h10.st S119).st S122
  obtain ⟨b139, o140, ce141, hA142, hF145, hl143, hd144, v146, rfl, h147⟩ := h10.elem x137
  replace h147 := Vb.of_slice h147
  obtain ⟨A148, c149, rfl⟩ := h147.form
  refine h_iaE (hA := hA142) (hj := (Int.toNat_of_nonneg p138).symm) (hlt := hl143) rfl rfl rfl rfl ?_
  refine h_ldC (hc := fun w' ⟨O', hq⟩ => cat0 (cellsAt_agree (hq.agree (i := 0) (by decide)) hF145 hd144)) rfl rfl rfl ?_
  refine h_fa rfl rfl rfl (h_ldC (hc := fun w' ⟨O', hq⟩ => Blk.cell (i := 2) ((h120.st hq (by decide)).1) rfl) rfl rfl rfl ?_)
  obtain ⟨a150, e151, hf94⟩ := bs hf94
  obtain ⟨p153, x152⟩ := atI_some' e151
  obtain ⟨b154, o155, ce156, hA157, hF160, hl158, hd159, rfl, r161⟩ := h147.elem x152
  refine h_iaE (hA := hA157) (hj := (Int.toNat_of_nonneg p153).symm) (hlt := hl158) rfl rfl rfl rfl ?_
  refine h_ldC (hc := fun w' ⟨O', hq⟩ => cat0 (cellsAt_agree (hq.agree (i := 0) (by decide)) hF160 hd159)) rfl rfl rfl ?_
  refine hwp_nilT ?_
  refine x_one (i := 5) (by kernel_rfl) rfl ?_
  obtain ⟨q162, e163, hf94⟩ := bs hf94
  replace h13 := (h13.st S119).st S122
  replace h111 := (h111.st S119).st S122
  refine l_call (O := O118) (R := fun w' F v => Vb w' F v q162) (c_symmetry_mapped Fr.lt (Vb.ofAgg (cs := [(.slice A8 x0.vars.length c9), (.slice A11 x0.vals.length c12), (.slice A14 x0.ops.length c15)]) (x := x0) rfl ⟨_, _, _, rfl, h7, h10, h13⟩) h111 e163) rfl rfl fun v168 w164 O165 S166 h167 => ?_
  obtain ⟨A169, c170, rfl⟩ := h167.form
  have hZ := S166.lst [] (fun _ h => h.elim)
  refine x_go [(23, []), (24, [8])] hZ (by kernel_rfl) ?_
  refine x_pre (fuel := 4) [] [(22, true)] (by kernel_rfl) rfl ?_
  refine h_bd rfl rfl rfl rfl ?_
  refine hwp_nilT ?_
  refine x_one (i := 23) (by kernel_rfl) rfl ?_
  refine l_bslice 7 (by decide) O165 (xs := ([(⟨q162, a123, a150⟩ : Eff)] : List Eff)) rfl rfl rfl rfl ⟨(Vb.ofAgg (cs := [(.slice A169 q162.length c170), (.int .i64 a123), (.int .i64 a150)]) (x := (⟨q162, a123, a150⟩ : Eff)) rfl ⟨_, rfl, h167, r134, r161⟩), trivial⟩ (by decide) (by decide) rfl fun g171 w172 O173 S174 h175 => ?_
  have hZ := S174.lst [] (fun _ h => h.elim)
  refine x_go [(24, [8])] hZ (by kernel_rfl) ?_
  refine x_one (i := 24) (by kernel_rfl) rfl ?_
  obtain ⟨u177, e178, hf94⟩ := bs hf94
  obtain ⟨e178, e179, e180⟩ := appI_some e178
  replace h101 := (((h101.st S119).st S122).st S166).st S174
  refine l_append rfl h101 (h175.rd) rfl rfl (by decide) e179 e180 rfl fun A181 c182 w183 O184 S185 h186 => ?_
  rw [← e178] at h186 ⊢
  have hZ := S185.lst [8] (fun _ h => by cases h; decide)
  refine x_go [] hZ (by kernel_rfl) ?_
  refine x_pre (fuel := 1) [] [(25, true)] (by kernel_rfl) rfl ?_
  refine h_fa rfl rfl rfl (hwp_nilT ?_)
  refine x_one (i := 26) (by kernel_rfl) rfl ?_
  replace h48 := ((h48.st S166).st S174).st S185
  refine l_store h48 rfl rfl rfl (Nat.le_of_ble_eq_true rfl) (by first | exact allOne rfl | simp [Value.cells, Value.oneCell', errV_one]) fun w188 S189 h48 => ?_
  replace h48 : Lc 5 w188 O184 x47.1 77 [(.string (⟨#[]⟩ : ByteArray)), (.int .i64 x1.cost), (.slice x47.2.1 y44.length x47.2.2), (.slice A181 u177.length c182)] := h48
  refine x_end (by kernel_rfl) ?_
  refine x_nil (by kernel_rfl) ?_
  obtain rfl := sm hf94
  refine (?_ : Exists _)
  replace hB := (((((hB.st S119).st S122).st S166).st S174).st S185).st S189
  replace h7 := (((h7.st S166).st S174).st S185).st S189
  replace h10 := (((h10.st S166).st S174).st S185).st S189
  replace h13 := (((h13.st S166).st S174).st S185).st S189
  replace h22 := (((((h22.st S119).st S122).st S166).st S174).st S185).st S189
  replace h31 := (((h31.st S166).st S174).st S185).st S189
  replace h41 := (((((h41.st S119).st S122).st S166).st S174).st S185).st S189
  replace h49 := (((((h49.st S119).st S122).st S166).st S174).st S185).st S189
  replace h186 := h186.st S189
  exact ⟨_, (A181, c182), rfl, ⟨rfl, rfl, rfl, rfl, rfl, rfl, trivial⟩, _, hB, h31, h7, h10, h13, h41, h48, h49, h186, h22⟩
 rintro l190 w191 ⟨s194, x195, rfl, hs193, O192, hB, h41, h48, h49, h101⟩
 replace hm := fin_done hm
 refine ewp_sub _ hs193 ?_
 refine ewp_seq (ewp_region (o_la (hl := rfl) (hc := (h48.1).cellsAt) rfl rfl ?_))
 refine l_store h41 rfl rfl rfl (Nat.le_of_ble_eq_true rfl) (by first | exact allOne rfl | simp [Value.cells, Value.oneCell', errV_one]) fun w196 S197 h41 => ?_
 replace h41 : Lc 4 w196 O192 g37 77 [(.string (⟨#[]⟩ : ByteArray)), (.int .i64 x1.cost), (.slice x47.2.1 y44.length x47.2.2), (.slice x195.1 s194.length x195.2)] := h41
 refine o_z ?_
 refine ewp_ret ?_
 replace h101 := h101.st S197
 obtain ⟨O198, S199, h101⟩ := h101.freeze
 obtain rfl := sm hm
 replace hB := (hB.st S197).st S199
 replace h41 := h41.st S199
 replace h49 := (h49.st S197).st S199
 exact ret1v rfl (res_cell (cs := [(.string (⟨#[]⟩ : ByteArray)), (.int .i64 x1.cost), (.slice x47.2.1 y44.length x47.2.2), (.slice x195.1 s194.length x195.2)]) rfl rfl h41.1.cellsAt) ⟨hB.ext, (Vb.mono (F := Fr 0 w196 O198) (Vb.ofAgg (cs := [(.string (⟨#[]⟩ : ByteArray)), (.int .i64 x1.cost), (.slice x47.2.1 y44.length x47.2.2), (.slice x195.1 s194.length x195.2)]) (x := (⟨(⟨#[]⟩ : ByteArray), x1.cost, y44, s194⟩ : Opr)) rfl ⟨_, _, rfl, h49, h101, r25, (show (⟨#[]⟩ : ByteArray).size ≤ 9223372036854775807 from by decide)⟩) hB.out)⟩
noncomputable def m_symmetry_is (x0 : Tsk) (x1 : Swp) : Option Bool :=
  bnd (bnd (m_symmetry_facts x0 x1) fun q47 => if q47 = true then bnd (m_symmetry_permutation x1.ops (x0.ops.length : Int)) fun q56 => if q56 = true then bnd (m_symmetry_mapped x1 x0.goal) fun q63 => bnd (m_slices_Equal_Lapi_Fact_api_Fact q63 x0.goal) fun q72 => if q72 = true then some false else some true else some true else some true : Option Bool) fun y43 => if y43 = true then (some false) else (bnd (rng (ρ := Bool) (fun (k90 : Nat) (a91 : Opr) (s88 : Unit) => bnd (x1.ops[k90]?) fun a125 => bnd (atI x0.ops a125) fun a135 => bnd (m_symmetry_image x1 a91) fun q156 => bnd (m_symmetry_alike q156 a135) fun q174 => if q174 = true then some (.next ()) else some (.ret false)) x0.ops 0 ()) fun res86 => fin res86 fun (s185 : Unit) => some true)
theorem c_symmetry_is {w : World} {A : Nat → Prop} (hA : ∀ k, A k → k < w.heap.size) {vx0 : Value} {x0 : Tsk} (hx0 : Vb w A vx0 x0) {vx1 : Value} {x1 : Swp} (hx1 : Vb w A vx1 x1) {r : Bool} (hm : m_symmetry_is x0 x1 = some r) :
    Fn Try.prog 39 [vx0, vx1] w fun v w' => Ext w w' ∧ Vb w' (upA A w w') v r := by
 obtain ⟨O, hB, hA0⟩ := enter hA
 replace hx0 := hx0.mono hA0
 obtain ⟨cs3, rfl, v4, v5, v6, v7, rfl, h8, h11, h14, h17⟩ := hx0
 obtain ⟨A9, c10, rfl⟩ := h8.form
 obtain ⟨A12, c13, rfl⟩ := h11.form
 obtain ⟨A15, c16, rfl⟩ := h14.form
 obtain ⟨A18, c19, rfl⟩ := h17.form
 replace hx1 := hx1.mono hA0
 obtain ⟨cs20, rfl, v21, v22, v23, rfl, h24, h27, h30⟩ := hx1
 obtain ⟨A25, c26, rfl⟩ := h24.form
 obtain ⟨A28, c29, rfl⟩ := h27.form
 obtain ⟨A31, c32, rfl⟩ := h30.form
 refine fn_enter Try.func39 rfl Try.ntmps39 rfl ?_
 unfold m_symmetry_is at hm
 refine ewp_seq (ewp_region (l_box 2 O rfl rfl fun g33 w34 O35 S36 h37 => ?_))
 replace h37 : Lc 2 w34 O35 g33 26 [(.slice A9 x0.vars.length c10), (.slice A12 x0.init.length c13), (.slice A15 x0.goal.length c16), (.slice A18 x0.ops.length c19)] := h37
 refine l_box 3 O35 rfl rfl fun g38 w39 O40 S41 h42 => ?_
 replace h42 : Lc 3 w39 O40 g38 29 [(.slice A25 x1.vars.length c26), (.slice A28 x1.vals.length c29), (.slice A31 x1.ops.length c32)] := h42
 refine o_as rfl rfl (o_z ?_)
 refine ewp_seq (ewp_seq ?_)
 obtain ⟨y43, hy44, hm⟩ := bs hm
 refine ewp_join (fun l' w' => ∃ (x46 : Unit) (O' : Lab), subs l' [(2, (.pointer (some ⟨g33, 0, none⟩))), (3, (.pointer (some ⟨g38, 0, none⟩))), (29, (.bool y43))] ∧ Bs w A w' O' ∧ Lc 2 w' O' g33 26 [(.slice A9 x0.vars.length c10), (.slice A12 x0.init.length c13), (.slice A15 x0.goal.length c16), (.slice A18 x0.ops.length c19)] ∧ Vb w' (Fr 0 w' O') (.slice A9 x0.vars.length c10) x0.vars ∧ Vb w' (Fr 0 w' O') (.slice A12 x0.init.length c13) x0.init ∧ Vb w' (Fr 0 w' O') (.slice A15 x0.goal.length c16) x0.goal ∧ Vb w' (Fr 0 w' O') (.slice A18 x0.ops.length c19) x0.ops ∧ Lc 3 w' O' g38 29 [(.slice A25 x1.vars.length c26), (.slice A28 x1.vals.length c29), (.slice A31 x1.ops.length c32)] ∧ Vb w' (Fr 0 w' O') (.slice A25 x1.vars.length c26) x1.vars ∧ Vb w' (Fr 0 w' O') (.slice A28 x1.vals.length c29) x1.vals ∧ Vb w' (Fr 0 w' O') (.slice A31 x1.ops.length c32) x1.ops) ?_ ?_
 ·
  refine ewp_drawX [(2, []), (10, []), (17, []), (20, [])] O40 ?_
  refine x_pre (fuel := 21) [] [(0, true), (1, true)] (by kernel_rfl) rfl ?_
  replace h37 := h37.st S41
  refine h_laB (hl := rfl) (hb := fun w' ⟨O', hq⟩ => ((h37.st hq (by decide)).1).cellsAt) rfl rfl rfl ?_
  refine h_laB (hl := rfl) (hb := fun w' ⟨O', hq⟩ => ((h42.st hq (by decide)).1).cellsAt) rfl rfl rfl ?_
  refine hwp_nilT ?_
  refine x_one (i := 2) (by kernel_rfl) rfl ?_
  obtain ⟨q47, e48, hy44⟩ := bs hy44
  replace h8 := (h8.st S36).st S41
  replace h11 := (h11.st S36).st S41
  replace h14 := (h14.st S36).st S41
  replace h17 := (h17.st S36).st S41
  replace h24 := (h24.st S36).st S41
  replace h27 := (h27.st S36).st S41
  replace h30 := (h30.st S36).st S41
  refine l_callA (O := O40) (A := All w39) (R := fun w' F v => Vb w' F v q47) (c_symmetry_facts (fun _ h => h) (Vb.mono (F := Fr 0 w39 O40) (Vb.ofAgg (cs := [(.slice A9 x0.vars.length c10), (.slice A12 x0.init.length c13), (.slice A15 x0.goal.length c16), (.slice A18 x0.ops.length c19)]) (x := x0) rfl ⟨_, _, _, _, rfl, h8, h11, h14, h17⟩) Fr.lt) (Vb.mono (F := Fr 0 w39 O40) (Vb.ofAgg (cs := [(.slice A25 x1.vars.length c26), (.slice A28 x1.vals.length c29), (.slice A31 x1.ops.length c32)]) (x := x1) rfl ⟨_, _, _, rfl, h24, h27, h30⟩) Fr.lt) e48) rfl rfl fun v53 w49 O50 S51 h52 => ?_
  obtain rfl := h52.bool
  have hZ := S51.lst [] (fun _ h => h.elim)
  cases q47
  case false =>
   replace hy44 := iF hy44
   refine x_go [(10, []), (17, []), (20, [])] hZ (by kernel_rfl) ?_
   refine x_pre (fuel := 13) [] [(3, true), (4, true), (5, true), (6, true), (7, true), (8, true), (9, true)] (by kernel_rfl) rfl ?_
   refine h_nf rfl rfl rfl (h_mv rfl rfl rfl (h_no rfl rfl rfl rfl rfl (h_no rfl rfl rfl rfl rfl (h_no rfl rfl rfl rfl rfl (h_no rfl rfl rfl rfl rfl (h_no rfl rfl rfl rfl rfl (hwp_nilT ?_)))))))
   refine x_one (i := 10) (by kernel_rfl) rfl ?_
   refine owp_no rfl rfl rfl rfl (x_go [(17, []), (20, [])] ((St.refl nT _ _).lst [] (fun _ h => h.elim)) (by kernel_rfl) ?_)
   refine x_pre (fuel := 4) [] [(11, true), (12, true), (13, true), (14, true), (15, true), (16, true), (18, true), (19, true)] (by kernel_rfl) rfl ?_
   refine h_no rfl rfl rfl rfl rfl (h_pt rfl rfl rfl rfl (h_mv rfl rfl rfl (h_no rfl rfl rfl rfl rfl (h_no rfl rfl rfl rfl rfl (h_no rfl rfl rfl rfl rfl (h_no rfl rfl rfl rfl rfl (h_no rfl rfl rfl rfl rfl (hwp_nilT ?_))))))))
   refine x_one (i := 17) (by kernel_rfl) rfl ?_
   refine owp_no rfl rfl rfl rfl (x_go [(20, [])] ((St.refl nT _ _).lst [] (fun _ h => h.elim)) (by kernel_rfl) ?_)
   refine x_one (i := 20) (by kernel_rfl) rfl ?_
   refine owp_no rfl rfl rfl rfl (x_go [] ((St.refl nT _ _).lst [] (fun _ h => h.elim)) (by kernel_rfl) ?_)
   refine x_pre (fuel := 0) [] [(21, true), (22, true)] (by kernel_rfl) rfl ?_
   refine h_no rfl rfl rfl rfl rfl (h_pt rfl rfl rfl rfl (hwp_nilT ?_))
   refine x_nil (by kernel_rfl) ?_
   obtain rfl := sm hy44
   replace hB := ((hB.st S36).st S41).st S51
   replace h8 := h8.st S51
   replace h11 := h11.st S51
   replace h14 := h14.st S51
   replace h17 := h17.st S51
   replace h24 := h24.st S51
   replace h27 := h27.st S51
   replace h30 := h30.st S51
   replace h37 := h37.st S51
   replace h42 := h42.st S51
   exact ⟨(), _, ⟨rfl, rfl, rfl, trivial⟩, hB, h37, h8, h11, h14, h17, h42, h24, h27, h30⟩
  replace hy44 := iT hy44
  refine x_go [(10, []), (17, []), (20, [])] hZ (by kernel_rfl) ?_
  refine x_pre (fuel := 13) [] [(3, true), (4, true), (5, true), (6, true), (7, true), (8, true), (9, true)] (by kernel_rfl) rfl ?_
  refine h_nt rfl rfl rfl (h_mv rfl rfl rfl (hwp_o rfl (hwq_yes rfl rfl (g_fa rfl rfl (hwp_o rfl (hwq_yes rfl rfl ?_))))))
  replace h42 := h42.st S51
  refine g_ldC (hc := fun w' ⟨O', hq⟩ => Blk.cell (i := 2) ((h42.st hq (by decide)).1) rfl) rfl rfl ?_
  refine hwp_o rfl (hwq_yes rfl rfl (g_fa rfl rfl (hwp_o rfl (hwq_yes rfl rfl ?_))))
  replace h37 := h37.st S51
  refine g_ldC (hc := fun w' ⟨O', hq⟩ => Blk.cell (i := 3) ((h37.st hq (by decide)).1) rfl) rfl rfl ?_
  refine hwp_o rfl (hwq_yes rfl rfl (g_ln rfl rfl ?_))
  replace h17 := h17.st S51
  have l55 : x0.ops.length ≤ 9223372036854775807 := Nat.le_trans h17.len.2.1 h17.len.2.2
  have r54 : inI64 (x0.ops.length : Int) := rngNat l55
  refine hwp_nilT ?_
  refine x_one (i := 10) (by kernel_rfl) rfl ?_
  refine owp_yes rfl rfl ?_
  obtain ⟨q56, e57, hy44⟩ := bs hy44
  replace h30 := h30.st S51
  refine l_callA (O := O50) (A := All w49) (R := fun w' F v => Vb w' F v q56) (c_symmetry_permutation (fun _ h => h) (Vb.mono (F := Fr 0 w49 O50) h30 Fr.lt) r54 e57) rfl rfl fun v62 w58 O59 S60 h61 => ?_
  obtain rfl := h61.bool
  have hZ := S60.lst [] (fun _ h => h.elim)
  cases q56
  case false =>
   replace hy44 := iF hy44
   refine x_go [(17, []), (20, [])] hZ (by kernel_rfl) ?_
   refine x_pre (fuel := 4) [] [(11, true), (12, true), (13, true), (14, true), (15, true), (16, true), (18, true), (19, true)] (by kernel_rfl) rfl ?_
   refine hwp_o rfl (hwq_yes rfl rfl (g_nf rfl rfl (h_pf rfl rfl rfl rfl (h_mv rfl rfl rfl (h_no rfl rfl rfl rfl rfl (h_no rfl rfl rfl rfl rfl (h_no rfl rfl rfl rfl rfl (h_no rfl rfl rfl rfl rfl (h_no rfl rfl rfl rfl rfl (hwp_nilT ?_))))))))))
   refine x_one (i := 17) (by kernel_rfl) rfl ?_
   refine owp_no rfl rfl rfl rfl (x_go [(20, [])] ((St.refl nT _ _).lst [] (fun _ h => h.elim)) (by kernel_rfl) ?_)
   refine x_one (i := 20) (by kernel_rfl) rfl ?_
   refine owp_no rfl rfl rfl rfl (x_go [] ((St.refl nT _ _).lst [] (fun _ h => h.elim)) (by kernel_rfl) ?_)
   refine x_pre (fuel := 0) [] [(21, true), (22, true)] (by kernel_rfl) rfl ?_
   refine h_no rfl rfl rfl rfl rfl (h_pt rfl rfl rfl rfl (hwp_nilT ?_))
   refine x_nil (by kernel_rfl) ?_
   obtain rfl := sm hy44
   replace hB := (((hB.st S36).st S41).st S51).st S60
   replace h8 := (h8.st S51).st S60
   replace h11 := (h11.st S51).st S60
   replace h14 := (h14.st S51).st S60
   replace h17 := h17.st S60
   replace h24 := (h24.st S51).st S60
   replace h27 := (h27.st S51).st S60
   replace h30 := h30.st S60
   replace h37 := h37.st S60
   replace h42 := h42.st S60
   exact ⟨(), _, ⟨rfl, rfl, rfl, trivial⟩, hB, h37, h8, h11, h14, h17, h42, h24, h27, h30⟩
  replace hy44 := iT hy44
  refine x_go [(17, []), (20, [])] hZ (by kernel_rfl) ?_
  refine x_pre (fuel := 4) [] [(11, true), (12, true), (13, true), (14, true), (15, true), (16, true), (18, true), (19, true)] (by kernel_rfl) rfl ?_
  refine hwp_o rfl (hwq_yes rfl rfl (g_nt rfl rfl (h_pf rfl rfl rfl rfl (h_mv rfl rfl rfl (hwp_o rfl (hwq_yes rfl rfl ?_))))))
  replace h42 := h42.st S60
  refine g_laB (hl := rfl) (hb := fun w' ⟨O', hq⟩ => ((h42.st hq (by decide)).1).cellsAt) rfl rfl ?_
  refine hwp_o rfl (hwq_yes rfl rfl (g_fa rfl rfl (hwp_o rfl (hwq_yes rfl rfl ?_))))
  replace h37 := h37.st S60
  refine g_ldC (hc := fun w' ⟨O', hq⟩ => Blk.cell (i := 2) ((h37.st hq (by decide)).1) rfl) rfl rfl ?_
  refine hwp_o rfl (hwq_yes rfl rfl (g_fa rfl rfl (hwp_o rfl (hwq_yes rfl rfl (g_ldC (hc := fun w' ⟨O', hq⟩ => Blk.cell (i := 2) ((h37.st hq (by decide)).1) rfl) rfl rfl ?_)))))
  refine hwp_nilT ?_
  refine x_one (i := 17) (by kernel_rfl) rfl ?_
  refine owp_yes rfl rfl ?_
  obtain ⟨q63, e64, hy44⟩ := bs hy44
  replace h14 := (h14.st S51).st S60
  replace h24 := (h24.st S51).st S60
  replace h27 := (h27.st S51).st S60
  replace h30 := h30.st S60
  refine l_call (O := O59) (R := fun w' F v => Vb w' F v q63) (c_symmetry_mapped Fr.lt (Vb.ofAgg (cs := [(.slice A25 x1.vars.length c26), (.slice A28 x1.vals.length c29), (.slice A31 x1.ops.length c32)]) (x := x1) rfl ⟨_, _, _, rfl, h24, h27, h30⟩) h14 e64) rfl rfl fun v69 w65 O66 S67 h68 => ?_
  obtain ⟨A70, c71, rfl⟩ := h68.form
  have hZ := S67.lst [] (fun _ h => h.elim)
  refine x_go [(20, [])] hZ (by kernel_rfl) ?_
  refine x_one (i := 20) (by kernel_rfl) rfl ?_
  refine owp_yes rfl rfl ?_
  obtain ⟨q72, e73, hy44⟩ := bs hy44
  replace h14 := h14.st S67
  refine l_callA (O := O66) (A := All w65) (R := fun w' F v => Vb w' F v q72) (c_slices_Equal_Lapi_Fact_api_Fact (fun _ h => h) (Vb.mono (F := Fr 0 w65 O66) h68 Fr.lt) (Vb.mono (F := Fr 0 w65 O66) h14 Fr.lt) e73) rfl rfl fun v78 w74 O75 S76 h77 => ?_
  obtain rfl := h77.bool
  have hZ := S76.lst [] (fun _ h => h.elim)
  cases q72
  case false =>
   replace hy44 := iF hy44
   refine x_go [] hZ (by kernel_rfl) ?_
   refine x_pre (fuel := 0) [] [(21, true), (22, true)] (by kernel_rfl) rfl ?_
   refine hwp_o rfl (hwq_yes rfl rfl (g_nf rfl rfl (h_pf rfl rfl rfl rfl (hwp_nilT ?_))))
   refine x_nil (by kernel_rfl) ?_
   obtain rfl := sm hy44
   replace hB := (((((hB.st S36).st S41).st S51).st S60).st S67).st S76
   replace h8 := (((h8.st S51).st S60).st S67).st S76
   replace h11 := (((h11.st S51).st S60).st S67).st S76
   replace h14 := h14.st S76
   replace h17 := ((h17.st S60).st S67).st S76
   replace h24 := (h24.st S67).st S76
   replace h27 := (h27.st S67).st S76
   replace h30 := (h30.st S67).st S76
   replace h37 := (h37.st S67).st S76
   replace h42 := (h42.st S67).st S76
   exact ⟨(), _, ⟨rfl, rfl, rfl, trivial⟩, hB, h37, h8, h11, h14, h17, h42, h24, h27, h30⟩
  replace hy44 := iT hy44
  refine x_go [] hZ (by kernel_rfl) ?_
  refine x_pre (fuel := 0) [] [(21, true), (22, true)] (by kernel_rfl) rfl ?_
  refine hwp_o rfl (hwq_yes rfl rfl (g_nt rfl rfl (h_pf rfl rfl rfl rfl (hwp_nilT ?_))))
  refine x_nil (by kernel_rfl) ?_
  obtain rfl := sm hy44
  replace hB := (((((hB.st S36).st S41).st S51).st S60).st S67).st S76
  replace h8 := (((h8.st S51).st S60).st S67).st S76
  replace h11 := (((h11.st S51).st S60).st S67).st S76
  replace h14 := h14.st S76
  replace h17 := ((h17.st S60).st S67).st S76
  replace h24 := (h24.st S67).st S76
  replace h27 := (h27.st S67).st S76
  replace h30 := (h30.st S67).st S76
  replace h37 := (h37.st S67).st S76
  replace h42 := (h42.st S67).st S76
  exact ⟨(), _, ⟨rfl, rfl, rfl, trivial⟩, hB, h37, h8, h11, h14, h17, h42, h24, h27, h30⟩
 replace hB := (hB.st S36).st S41
 replace h8 := (h8.st S36).st S41
 replace h11 := (h11.st S36).st S41
 replace h14 := (h14.st S36).st S41
 replace h17 := (h17.st S36).st S41
 replace h24 := (h24.st S36).st S41
 replace h27 := (h27.st S36).st S41
 replace h30 := (h30.st S36).st S41
 replace h37 := h37.st S41
 rintro l79 w80 ⟨x46, O81, hs82, hB, h37, h8, h11, h14, h17, h42, h24, h27, h30⟩
 refine ewp_sub _ hs82 ?_
 refine ewp_cond rfl (fun c83 => ?_) (fun c83 => ?_)
 ·
  replace hm := ip hm c83
  refine ewp_seq (ewp_region (o_as rfl rfl (o_z ?_)))
  refine ewp_ret ?_
  obtain rfl := sm hm
  exact ret1v rfl (res_tmp rfl) ⟨hB.ext, vBool⟩
 ·
  replace hm := im' hm c83
  refine ewp_skip (ewp_seq (ewp_seq (ewp_region (o_fa rfl rfl (o_ld (hc := Blk.cell (i := 3) (h37.1) rfl) rfl rfl ?_)))))
  refine o_ln rfl rfl ?_
  have l85 : x0.ops.length ≤ 9223372036854775807 := Nat.le_trans h17.len.2.1 h17.len.2.2
  have r84 : inI64 (x0.ops.length : Int) := rngNat l85
  refine o_mv rfl rfl (o_z ?_)
  obtain ⟨res86, hL87, hm⟩ := bs hm
  refine ewp_join (aft res86 (fun (s88 : Unit) (x89 : Unit) => []) (fun s88 x89 w' => ∃ O' : Lab, Bs w A w' O')) ?_ ?_
  ·
   refine ewp_block (ewp_rng (σ := Unit) (X := Unit) (x0.ops.length) hL87 rfl l85 (fun (s88 : Unit) (x89 : Unit) => [(2, (.pointer (some ⟨g33, 0, none⟩))), (3, (.pointer (some ⟨g38, 0, none⟩))), (31, (.slice A18 x0.ops.length c19))]) _ (fun s88 x89 w' => ∃ O' : Lab, Bs w A w' O' ∧ Lc 2 w' O' g33 26 [(.slice A9 x0.vars.length c10), (.slice A12 x0.init.length c13), (.slice A15 x0.goal.length c16), (.slice A18 x0.ops.length c19)] ∧ Vb w' (Fr 0 w' O') (.slice A9 x0.vars.length c10) x0.vars ∧ Vb w' (Fr 0 w' O') (.slice A12 x0.init.length c13) x0.init ∧ Vb w' (Fr 0 w' O') (.slice A15 x0.goal.length c16) x0.goal ∧ Vb w' (Fr 0 w' O') (.slice A18 x0.ops.length c19) x0.ops ∧ Lc 3 w' O' g38 29 [(.slice A25 x1.vars.length c26), (.slice A28 x1.vals.length c29), (.slice A31 x1.ops.length c32)] ∧ Vb w' (Fr 0 w' O') (.slice A25 x1.vars.length c26) x1.vars ∧ Vb w' (Fr 0 w' O') (.slice A28 x1.vals.length c29) x1.vals ∧ Vb w' (Fr 0 w' O') (.slice A31 x1.ops.length c32) x1.ops) _ () ⟨O81, hB, h37, h8, h11, h14, h17, h42, h24, h27, h30⟩ ⟨rfl, rfl, rfl, rfl, rfl, trivial⟩ (fun _ _ => ⟨rfl, rfl⟩) (fun _ _ => trivial) (fun _ _ _ ⟨O', hB, h37, h8, h11, h14, h17, h42, h24, h27, h30⟩ => ⟨O', hB⟩) ⟨rfl, rfl, rfl⟩ ⟨rfl, rfl⟩ ?_)
   rintro k90 a91 s88 x89 w92 cc94 hx95 ⟨O93, hB, h37, h8, h11, h14, h17, h42, h24, h27, h30⟩ hf96 hret97 hbrk98
   have rk90 : inI64 (k90 : Int) := rngK hx95 l85
   refine ewp_seq (ewp_region (o_mv rfl rfl ?_))
   obtain ⟨b101, o102, ce103, hA104, hl105, hd106, v108, v109, rfl, h110, h113, r116, z117⟩ := h17.elem' hx95
   obtain ⟨A111, c112, rfl⟩ := h110.form
   obtain ⟨A114, c115, rfl⟩ := h113.form
   refine o_iaE (hA := hA104) (hj := rfl) (hlt := hl105) rfl rfl rfl ?_
   refine o_la (hl := rfl) (hc := hd106) rfl rfl ?_
   refine l_alloc 4 O93 rfl fun g118 w119 O120 S121 h122 => ?_
   refine o_as rfl rfl (l_store h122 rfl rfl rfl (Nat.le_of_ble_eq_true rfl) (by first | exact allOne rfl | simp [Value.cells, Value.oneCell', errV_one]) fun w123 S124 h122 => ?_)
   replace h122 : Lc 4 w123 O120 g118 77 [(.string a91.name), (.int .i64 a91.cost), (.slice A111 a91.pre.length c112), (.slice A114 a91.effs.length c115)] := h122
   refine o_z ?_
   refine ewp_seq (ewp_drawX [(2, []), (12, [])] O120 ?_)
   refine x_pre (fuel := 3) [] [(0, true), (1, true), (3, true), (4, true), (5, true), (6, true), (7, true), (8, true), (9, true), (10, true), (11, true)] (by kernel_rfl) rfl ?_
   replace h42 := (h42.st S121).st S124
   refine h_laB (hl := rfl) (hb := fun w' ⟨O', hq⟩ => ((h42.st hq (by decide)).1).cellsAt) rfl rfl rfl ?_
   refine h_laB (hl := rfl) (hb := fun w' ⟨O', hq⟩ => ((h122.st hq (by decide)).1).cellsAt) rfl rfl rfl ?_
   refine h_fa rfl rfl rfl ?_
   replace h37 := (h37.st S121).st S124
   refine h_ldC (hc := fun w' ⟨O', hq⟩ => Blk.cell (i := 3) ((h37.st hq (by decide)).1) rfl) rfl rfl rfl ?_
   refine h_fa rfl rfl rfl (h_ldC (hc := fun w' ⟨O', hq⟩ => Blk.cell (i := 2) ((h42.st hq (by decide)).1) rfl) rfl rfl rfl ?_)
   refine h_mv rfl rfl rfl ?_
   obtain ⟨a125, e126, hf96⟩ := bs hf96
   replace h30 := (h30.st S121).st S124
   obtain ⟨b127, o128, ce129, hA130, hF133, hl131, hd132, rfl, r134⟩ := h30.elem e126
   refine h_iaE (hA := hA130) (hj := rfl) (hlt := hl131) rfl rfl rfl rfl ?_
   refine h_ldC (hc := fun w' ⟨O', hq⟩ => cat0 (cellsAt_agree (hq.agree (i := 0) (by decide)) hF133 hd132)) rfl rfl rfl ?_
   obtain ⟨a135, e136, hf96⟩ := bs hf96
   obtain ⟨p138, x137⟩ := atI_some' e136
   replace h17 := (h17.st S121).st S124
   obtain ⟨b139, o140, ce141, hA142, hF145, hl143, hd144, v146, v147, rfl, h148, h151, r154, z155⟩ := h17.elem x137
   obtain ⟨A149, c150, rfl⟩ := h148.form
   obtain ⟨A152, c153, rfl⟩ := h151.form
   refine h_iaE (hA := hA142) (hj := (Int.toNat_of_nonneg p138).symm) (hlt := hl143) rfl rfl rfl rfl ?_
   refine h_laB (hl := rfl) (hb := fun w' ⟨O', hq⟩ => (cellsAt_agree (hq.agree (i := 0) (by decide)) hF145 hd144)) rfl rfl rfl ?_
   refine hwp_nilT ?_
   refine x_one (i := 2) (by kernel_rfl) rfl ?_
   obtain ⟨q156, e157, hf96⟩ := bs hf96
   replace h24 := (h24.st S121).st S124
   replace h27 := (h27.st S121).st S124
   replace h110 := (h110.st S121).st S124
   replace h113 := (h113.st S121).st S124
   refine l_call (O := O120) (R := fun w' F v => Vb w' F v q156) (c_symmetry_image Fr.lt (Vb.ofAgg (cs := [(.slice A25 x1.vars.length c26), (.slice A28 x1.vals.length c29), (.slice A31 x1.ops.length c32)]) (x := x1) rfl ⟨_, _, _, rfl, h24, h27, h30⟩) (Vb.ofAgg (cs := [(.string a91.name), (.int .i64 a91.cost), (.slice A111 a91.pre.length c112), (.slice A114 a91.effs.length c115)]) (x := a91) rfl ⟨_, _, rfl, h110, h113, r116, z117⟩) e157) rfl rfl fun v162 w158 O159 S160 h161 => ?_
   obtain ⟨cs163, rfl, v164, v165, rfl, h166, h169, r172, z173⟩ := h161
   obtain ⟨A167, c168, rfl⟩ := h166.form
   obtain ⟨A170, c171, rfl⟩ := h169.form
   have hZ := S160.lst [] (fun _ h => h.elim)
   refine x_go [(12, [])] hZ (by kernel_rfl) ?_
   refine x_one (i := 12) (by kernel_rfl) rfl ?_
   obtain ⟨q174, e175, hf96⟩ := bs hf96
   replace h148 := h148.st S160
   replace h151 := h151.st S160
   refine l_callA (O := O159) (A := All w158) (R := fun w' F v => Vb w' F v q174) (c_symmetry_alike (fun _ h => h) (Vb.mono (F := Fr 0 w158 O159) (Vb.ofAgg (cs := [(.string q156.name), (.int .i64 q156.cost), (.slice A167 q156.pre.length c168), (.slice A170 q156.effs.length c171)]) (x := q156) rfl ⟨_, _, rfl, h166, h169, r172, z173⟩) Fr.lt) (Vb.mono (F := Fr 0 w158 O159) (Vb.ofAgg (cs := [(.string a135.name), (.int .i64 a135.cost), (.slice A149 a135.pre.length c150), (.slice A152 a135.effs.length c153)]) (x := a135) rfl ⟨_, _, rfl, h148, h151, r154, z155⟩) Fr.lt) e175) rfl rfl fun v180 w176 O177 S178 h179 => ?_
   obtain rfl := h179.bool
   have hZ := S178.lst [] (fun _ h => h.elim)
   cases q174
   case false =>
    replace hf96 := iF hf96
    refine x_go [] hZ (by kernel_rfl) ?_
    refine x_pre (fuel := 0) [] [(13, true)] (by kernel_rfl) rfl ?_
    refine h_nf rfl rfl rfl (hwp_nilT ?_)
    refine x_nil (by kernel_rfl) ?_
    refine ewp_true rfl (ewp_seq (ewp_region (o_as rfl rfl (o_z ?_))))
    refine ewp_ret ?_
    obtain rfl := sm hf96
    obtain rfl := hret97 _ rfl
    obtain rfl := sm (fin_ret hm)
    replace hB := (((hB.st S121).st S124).st S160).st S178
    exact ret1v rfl (res_tmp rfl) ⟨hB.ext, vBool⟩
   replace hf96 := iT hf96
   refine x_go [] hZ (by kernel_rfl) ?_
   refine x_pre (fuel := 0) [] [(13, true)] (by kernel_rfl) rfl ?_
   refine h_nt rfl rfl rfl (hwp_nilT ?_)
   refine x_nil (by kernel_rfl) ?_
   refine ewp_false rfl (ewp_skip ?_)
   obtain rfl := sm hf96
   refine (?_ : Exists _)
   replace hB := (((hB.st S121).st S124).st S160).st S178
   replace h8 := (((h8.st S121).st S124).st S160).st S178
   replace h11 := (((h11.st S121).st S124).st S160).st S178
   replace h14 := (((h14.st S121).st S124).st S160).st S178
   replace h17 := (h17.st S160).st S178
   replace h24 := (h24.st S160).st S178
   replace h27 := (h27.st S160).st S178
   replace h30 := (h30.st S160).st S178
   replace h37 := (h37.st S160).st S178
   replace h42 := (h42.st S160).st S178
   exact ⟨_, (), rfl, ⟨rfl, rfl, rfl, rfl, rfl, trivial⟩, _, hB, h37, h8, h11, h14, h17, h42, h24, h27, h30⟩
  rintro l181 w182 ⟨s185, x186, rfl, hs184, O183, hB⟩
  replace hm := fin_done hm
  refine ewp_sub _ hs184 ?_
  refine ewp_seq (ewp_region (o_as rfl rfl (o_z ?_)))
  refine ewp_ret ?_
  obtain rfl := sm hm
  exact ret1v rfl (res_tmp rfl) ⟨hB.ext, vBool⟩
noncomputable def m_symmetry_Check (x0 : Tsk) (x1 : Swp) : Option Bool :=
  bnd (bnd (m_task_Check x0) fun q47 => if q47.n = 0 then (bnd (m_symmetry_is x0 x1) fun q56 => if q56 = true then some true else some false) else (some false) : Option Bool) fun y43 => some y43
theorem c_symmetry_Check {w : World} {A : Nat → Prop} (hA : ∀ k, A k → k < w.heap.size) {vx0 : Value} {x0 : Tsk} (hx0 : Vb w A vx0 x0) {vx1 : Value} {x1 : Swp} (hx1 : Vb w A vx1 x1) {r : Bool} (hm : m_symmetry_Check x0 x1 = some r) :
    Fn Try.prog 11 [vx0, vx1] w fun v w' => Ext w w' ∧ Vb w' (upA A w w') v r := by
 obtain ⟨O, hB, hA0⟩ := enter hA
 replace hx0 := hx0.mono hA0
 obtain ⟨cs3, rfl, v4, v5, v6, v7, rfl, h8, h11, h14, h17⟩ := hx0
 obtain ⟨A9, c10, rfl⟩ := h8.form
 obtain ⟨A12, c13, rfl⟩ := h11.form
 obtain ⟨A15, c16, rfl⟩ := h14.form
 obtain ⟨A18, c19, rfl⟩ := h17.form
 replace hx1 := hx1.mono hA0
 obtain ⟨cs20, rfl, v21, v22, v23, rfl, h24, h27, h30⟩ := hx1
 obtain ⟨A25, c26, rfl⟩ := h24.form
 obtain ⟨A28, c29, rfl⟩ := h27.form
 obtain ⟨A31, c32, rfl⟩ := h30.form
 refine fn_enter Try.func11 rfl Try.ntmps11 rfl ?_
 unfold m_symmetry_Check at hm
 refine ewp_seq (ewp_region (l_box 2 O rfl rfl fun g33 w34 O35 S36 h37 => ?_))
 replace h37 : Lc 2 w34 O35 g33 26 [(.slice A9 x0.vars.length c10), (.slice A12 x0.init.length c13), (.slice A15 x0.goal.length c16), (.slice A18 x0.ops.length c19)] := h37
 refine l_box 3 O35 rfl rfl fun g38 w39 O40 S41 h42 => ?_
 replace h42 : Lc 3 w39 O40 g38 29 [(.slice A25 x1.vars.length c26), (.slice A28 x1.vals.length c29), (.slice A31 x1.ops.length c32)] := h42
 refine o_as rfl rfl (o_z ?_)
 refine ewp_seq ?_
 obtain ⟨y43, hy44, hm⟩ := bs hm
 refine ewp_join (fun l' w' => ∃ (x46 : Unit) (O' : Lab), subs l' [(4, (.bool y43))] ∧ Bs w A w' O') ?_ ?_
 ·
  refine ewp_region ?_
  replace h37 := h37.st S41
  refine o_la (hl := rfl) (hc := (h37.1).cellsAt) rfl rfl ?_
  obtain ⟨q47, e48, hy44⟩ := bs hy44
  replace h8 := (h8.st S36).st S41
  replace h11 := (h11.st S36).st S41
  replace h14 := (h14.st S36).st S41
  replace h17 := (h17.st S36).st S41
  refine l_callA (O := O40) (A := All w39) (R := fun w' F v => Vb w' F v q47) (c_task_Check (fun _ h => h) (Vb.mono (F := Fr 0 w39 O40) (Vb.ofAgg (cs := [(.slice A9 x0.vars.length c10), (.slice A12 x0.init.length c13), (.slice A15 x0.goal.length c16), (.slice A18 x0.ops.length c19)]) (x := x0) rfl ⟨_, _, _, _, rfl, h8, h11, h14, h17⟩) Fr.lt) e48) rfl rfl fun v53 w49 O50 S51 h52 => ?_
  obtain ⟨rfl, r54⟩ := h52.err
  refine o_erS rfl rfl (fun c55 => ?_) fun c55 => ?_
  ·
   replace hy44 := ip hy44 c55
   refine o_mv rfl rfl (owp_yes rfl rfl ?_)
   replace h37 := h37.st S51
   refine o_la (hl := rfl) (hc := (h37.1).cellsAt) rfl rfl ?_
   refine owp_yes rfl rfl ?_
   replace h42 := h42.st S51
   refine o_la (hl := rfl) (hc := (h42.1).cellsAt) rfl rfl ?_
   refine owp_yes rfl rfl ?_
   obtain ⟨q56, e57, hy44⟩ := bs hy44
   replace h8 := h8.st S51
   replace h11 := h11.st S51
   replace h14 := h14.st S51
   replace h17 := h17.st S51
   replace h24 := ((h24.st S36).st S41).st S51
   replace h27 := ((h27.st S36).st S41).st S51
   replace h30 := ((h30.st S36).st S41).st S51
   refine l_callA (O := O50) (A := All w49) (R := fun w' F v => Vb w' F v q56) (c_symmetry_is (fun _ h => h) (Vb.mono (F := Fr 0 w49 O50) (Vb.ofAgg (cs := [(.slice A9 x0.vars.length c10), (.slice A12 x0.init.length c13), (.slice A15 x0.goal.length c16), (.slice A18 x0.ops.length c19)]) (x := x0) rfl ⟨_, _, _, _, rfl, h8, h11, h14, h17⟩) Fr.lt) (Vb.mono (F := Fr 0 w49 O50) (Vb.ofAgg (cs := [(.slice A25 x1.vars.length c26), (.slice A28 x1.vals.length c29), (.slice A31 x1.ops.length c32)]) (x := x1) rfl ⟨_, _, _, rfl, h24, h27, h30⟩) Fr.lt) e57) rfl rfl fun v62 w58 O59 S60 h61 => ?_
   obtain rfl := h61.bool
   cases q56
   case false =>
    replace hy44 := iF hy44
    refine o_pt rfl rfl rfl (o_as rfl rfl (o_z ?_))
    obtain rfl := sm hy44
    replace hB := (((hB.st S36).st S41).st S51).st S60
    exact ⟨(), _, ⟨rfl, trivial⟩, hB⟩
   replace hy44 := iT hy44
   refine o_pt rfl rfl rfl (o_as rfl rfl (o_z ?_))
   obtain rfl := sm hy44
   replace hB := (((hB.st S36).st S41).st S51).st S60
   exact ⟨(), _, ⟨rfl, trivial⟩, hB⟩
  ·
   replace hy44 := im hy44 c55
   refine o_mv rfl rfl (owp_no rfl rfl rfl rfl (owp_no rfl rfl rfl rfl (owp_no rfl rfl rfl rfl (o_pf rfl rfl rfl (o_as rfl rfl (o_z ?_))))))
   obtain rfl := sm hy44
   replace hB := ((hB.st S36).st S41).st S51
   exact ⟨(), _, ⟨rfl, trivial⟩, hB⟩
 replace hB := (hB.st S36).st S41
 rintro l63 w64 ⟨x46, O65, hs66, hB⟩
 refine ewp_sub _ hs66 ?_
 refine ewp_ret ?_
 obtain rfl := sm hm
 exact ret1v rfl (res_tmp rfl) ⟨hB.ext, vBool⟩
noncomputable def m_symmetry_demand (x0 : Tsk) (x1 : List Swp) : Option Err :=
  bnd (m_task_Check x0) fun q27 => if q27.n ≠ 0 then (some (⟨q27.n⟩ : Err)) else (bnd (rng (ρ := Err) (fun (k42 : Nat) (a43 : Swp) (s40 : Unit) => bnd (m_symmetry_is x0 a43) fun q79 => if q79 = true then some (.next ()) else some (.ret (⟨2⟩ : Err))) x1 0 ()) fun res38 => fin res38 fun (s90 : Unit) => some (⟨0⟩ : Err))
theorem c_symmetry_demand {w : World} {A : Nat → Prop} (hA : ∀ k, A k → k < w.heap.size) {vx0 : Value} {x0 : Tsk} (hx0 : Vb w A vx0 x0) {vx1 : Value} {x1 : List Swp} (hx1 : Vb w A vx1 x1) {r : Err} (hm : m_symmetry_demand x0 x1 = some r) :
    Fn Try.prog 45 [vx0, vx1] w fun v w' => Ext w w' ∧ Vb w' (upA A w w') v r := by
 obtain ⟨O, hB, hA0⟩ := enter hA
 replace hx0 := hx0.mono hA0
 obtain ⟨cs3, rfl, v4, v5, v6, v7, rfl, h8, h11, h14, h17⟩ := hx0
 obtain ⟨A9, c10, rfl⟩ := h8.form
 obtain ⟨A12, c13, rfl⟩ := h11.form
 obtain ⟨A15, c16, rfl⟩ := h14.form
 obtain ⟨A18, c19, rfl⟩ := h17.form
 replace hx1 := hx1.mono hA0
 obtain ⟨A20, c21, rfl⟩ := hx1.form
 refine fn_enter Try.func45 rfl Try.ntmps45 rfl ?_
 unfold m_symmetry_demand at hm
 refine ewp_seq (ewp_region (l_box 2 O rfl rfl fun g22 w23 O24 S25 h26 => ?_))
 replace h26 : Lc 2 w23 O24 g22 26 [(.slice A9 x0.vars.length c10), (.slice A12 x0.init.length c13), (.slice A15 x0.goal.length c16), (.slice A18 x0.ops.length c19)] := h26
 refine o_as rfl rfl (o_z ?_)
 refine ewp_seq (ewp_seq (ewp_region (o_la (hl := rfl) (hc := (h26.1).cellsAt) rfl rfl ?_)))
 obtain ⟨q27, e28, hm⟩ := bs hm
 replace h8 := h8.st S25
 replace h11 := h11.st S25
 replace h14 := h14.st S25
 replace h17 := h17.st S25
 refine l_callA (O := O24) (A := All w23) (R := fun w' F v => Vb w' F v q27) (c_task_Check (fun _ h => h) (Vb.mono (F := Fr 0 w23 O24) (Vb.ofAgg (cs := [(.slice A9 x0.vars.length c10), (.slice A12 x0.init.length c13), (.slice A15 x0.goal.length c16), (.slice A18 x0.ops.length c19)]) (x := x0) rfl ⟨_, _, _, _, rfl, h8, h11, h14, h17⟩) Fr.lt) e28) rfl rfl fun v33 w29 O30 S31 h32 => ?_
 obtain ⟨rfl, r34⟩ := h32.err
 refine o_as rfl rfl (o_z ?_)
 refine ewp_seq (ewp_region (o_mv rfl rfl (o_rnS rfl rfl (fun c35 => ?_) fun c35 => ?_)))
 ·
  replace hm := ip hm c35
  refine o_z ?_
  refine ewp_true rfl (ewp_seq (ewp_region (o_mv rfl rfl (o_as rfl rfl (o_z ?_)))))
  refine ewp_ret ?_
  obtain rfl := sm hm
  replace hB := (hB.st S25).st S31
  exact ret1v rfl (res_tmp rfl) ⟨hB.ext, (vErr r34)⟩
 ·
  replace hm := im hm c35
  refine o_z ?_
  refine ewp_false rfl (ewp_skip (ewp_seq (ewp_seq (ewp_region (o_mv rfl rfl (o_ln rfl rfl ?_))))))
  replace hx1 := (hx1.st S25).st S31
  have l37 : x1.length ≤ 9223372036854775807 := Nat.le_trans hx1.len.2.1 hx1.len.2.2
  have r36 : inI64 (x1.length : Int) := rngNat l37
  refine o_mv rfl rfl (o_z ?_)
  obtain ⟨res38, hL39, hm⟩ := bs hm
  refine ewp_join (aft res38 (fun (s40 : Unit) (x41 : Unit) => []) (fun s40 x41 w' => ∃ O' : Lab, Bs w A w' O')) ?_ ?_
  ·
   refine ewp_block ?_
   replace hB := (hB.st S25).st S31
   replace h8 := h8.st S31
   replace h11 := h11.st S31
   replace h14 := h14.st S31
   replace h17 := h17.st S31
   replace h26 := h26.st S31
   refine ewp_rng (σ := Unit) (X := Unit) (x1.length) hL39 rfl l37 (fun (s40 : Unit) (x41 : Unit) => [(2, (.pointer (some ⟨g22, 0, none⟩))), (13, (.slice A20 x1.length c21))]) _ (fun s40 x41 w' => ∃ O' : Lab, Bs w A w' O' ∧ Lc 2 w' O' g22 26 [(.slice A9 x0.vars.length c10), (.slice A12 x0.init.length c13), (.slice A15 x0.goal.length c16), (.slice A18 x0.ops.length c19)] ∧ Vb w' (Fr 0 w' O') (.slice A9 x0.vars.length c10) x0.vars ∧ Vb w' (Fr 0 w' O') (.slice A12 x0.init.length c13) x0.init ∧ Vb w' (Fr 0 w' O') (.slice A15 x0.goal.length c16) x0.goal ∧ Vb w' (Fr 0 w' O') (.slice A18 x0.ops.length c19) x0.ops ∧ Vb w' (Fr 0 w' O') (.slice A20 x1.length c21) x1) _ () ⟨O30, hB, h26, h8, h11, h14, h17, hx1⟩ ⟨rfl, rfl, rfl, rfl, trivial⟩ (fun _ _ => ⟨rfl, rfl⟩) (fun _ _ => trivial) (fun _ _ _ ⟨O', hB, h26, h8, h11, h14, h17, hx1⟩ => ⟨O', hB⟩) ⟨rfl, rfl, rfl⟩ ⟨rfl, rfl⟩ ?_
   rintro k42 a43 s40 x41 w44 cc46 hx47 ⟨O45, hB, h26, h8, h11, h14, h17, hx1⟩ hf48 hret49 hbrk50
   have rk42 : inI64 (k42 : Int) := rngK hx47 l37
   refine ewp_seq (ewp_region ?_)
   obtain ⟨b53, o54, ce55, hA56, hl57, hd58, v60, v61, v62, rfl, h63, h66, h69⟩ := hx1.elem' hx47
   obtain ⟨A64, c65, rfl⟩ := h63.form
   obtain ⟨A67, c68, rfl⟩ := h66.form
   obtain ⟨A70, c71, rfl⟩ := h69.form
   refine o_iaE (hA := hA56) (hj := rfl) (hlt := hl57) rfl rfl rfl ?_
   refine o_la (hl := rfl) (hc := hd58) rfl rfl ?_
   refine l_alloc 3 O45 rfl fun g72 w73 O74 S75 h76 => ?_
   refine l_store h76 rfl rfl rfl (Nat.le_of_ble_eq_true rfl) (by first | exact allOne rfl | simp [Value.cells, Value.oneCell', errV_one]) fun w77 S78 h76 => ?_
   replace h76 : Lc 3 w77 O74 g72 29 [(.slice A64 a43.vars.length c65), (.slice A67 a43.vals.length c68), (.slice A70 a43.ops.length c71)] := h76
   refine o_z ?_
   refine ewp_seq (ewp_region ?_)
   replace h26 := (h26.st S75).st S78
   refine o_la (hl := rfl) (hc := (h26.1).cellsAt) rfl rfl ?_
   refine o_la (hl := rfl) (hc := (h76.1).cellsAt) rfl rfl ?_
   obtain ⟨q79, e80, hf48⟩ := bs hf48
   replace h8 := (h8.st S75).st S78
   replace h11 := (h11.st S75).st S78
   replace h14 := (h14.st S75).st S78
   replace h17 := (h17.st S75).st S78
   replace h63 := (h63.st S75).st S78
   replace h66 := (h66.st S75).st S78
   replace h69 := (h69.st S75).st S78
   refine l_callA (O := O74) (A := All w77) (R := fun w' F v => Vb w' F v q79) (c_symmetry_is (fun _ h => h) (Vb.mono (F := Fr 0 w77 O74) (Vb.ofAgg (cs := [(.slice A9 x0.vars.length c10), (.slice A12 x0.init.length c13), (.slice A15 x0.goal.length c16), (.slice A18 x0.ops.length c19)]) (x := x0) rfl ⟨_, _, _, _, rfl, h8, h11, h14, h17⟩) Fr.lt) (Vb.mono (F := Fr 0 w77 O74) (Vb.ofAgg (cs := [(.slice A64 a43.vars.length c65), (.slice A67 a43.vals.length c68), (.slice A70 a43.ops.length c71)]) (x := a43) rfl ⟨_, _, _, rfl, h63, h66, h69⟩) Fr.lt) e80) rfl rfl fun v85 w81 O82 S83 h84 => ?_
   obtain rfl := h84.bool
   cases q79
   case false =>
    replace hf48 := iF hf48
    refine o_nf rfl rfl (o_z ?_)
    refine ewp_true rfl (ewp_seq (ewp_region (o_miE rfl rfl ?_)))
    refine o_as rfl rfl (o_z ?_)
    refine ewp_ret ?_
    obtain rfl := sm hf48
    obtain rfl := hret49 _ rfl
    obtain rfl := sm (fin_ret hm)
    replace hB := ((hB.st S75).st S78).st S83
    exact ret1v rfl (res_tmp rfl) ⟨hB.ext, (vErr (by decide))⟩
   replace hf48 := iT hf48
   refine o_nt rfl rfl (o_z ?_)
   refine ewp_false rfl (ewp_skip ?_)
   obtain rfl := sm hf48
   refine (?_ : Exists _)
   replace hB := ((hB.st S75).st S78).st S83
   replace hx1 := ((hx1.st S75).st S78).st S83
   replace h8 := h8.st S83
   replace h11 := h11.st S83
   replace h14 := h14.st S83
   replace h17 := h17.st S83
   replace h26 := h26.st S83
   exact ⟨_, (), rfl, ⟨rfl, rfl, rfl, rfl, trivial⟩, _, hB, h26, h8, h11, h14, h17, hx1⟩
  replace hB := (hB.st S25).st S31
  rintro l86 w87 ⟨s90, x91, rfl, hs89, O88, hB⟩
  replace hm := fin_done hm
  refine ewp_sub _ hs89 ?_
  refine ewp_seq (ewp_region (o_as rfl rfl (o_z ?_)))
  refine ewp_ret ?_
  obtain rfl := sm hm
  exact ret1v rfl (res_tmp rfl) ⟨hB.ext, (vErr (show inI64 0 from by decide))⟩
noncomputable def m_symmetry_State (x0 : Tsk) (x1 : Swp) (x2 : List Int) : Option ((List Int) × Err) :=
  bnd (m_symmetry_demand x0 [x1]) fun q52 => if q52.n ≠ 0 then (some (([] : List Int), (⟨q52.n⟩ : Err))) else (bnd (m_task_Proper x0.vars x2) fun q61 => if q61 = true then bnd (m_symmetry_moved x1 x2) fun q68 => some (q68, (⟨0⟩ : Err)) else some (([] : List Int), (⟨2⟩ : Err)))
theorem c_symmetry_State {w : World} {A : Nat → Prop} (hA : ∀ k, A k → k < w.heap.size) {vx0 : Value} {x0 : Tsk} (hx0 : Vb w A vx0 x0) {vx1 : Value} {x1 : Swp} (hx1 : Vb w A vx1 x1) {vx2 : Value} {x2 : List Int} (hx2 : Vb w A vx2 x2) {r : (List Int) × Err} (hm : m_symmetry_State x0 x1 x2 = some r) :
    Fn Try.prog 13 [vx0, vx1, vx2] w fun v w' => Ext w w' ∧ T2 w' (upA A w w') v r := by
 obtain ⟨O, hB, hA0⟩ := enter hA
 replace hx0 := hx0.mono hA0
 obtain ⟨cs4, rfl, v5, v6, v7, v8, rfl, h9, h12, h15, h18⟩ := hx0
 obtain ⟨A10, c11, rfl⟩ := h9.form
 obtain ⟨A13, c14, rfl⟩ := h12.form
 obtain ⟨A16, c17, rfl⟩ := h15.form
 obtain ⟨A19, c20, rfl⟩ := h18.form
 replace hx1 := hx1.mono hA0
 obtain ⟨cs21, rfl, v22, v23, v24, rfl, h25, h28, h31⟩ := hx1
 obtain ⟨A26, c27, rfl⟩ := h25.form
 obtain ⟨A29, c30, rfl⟩ := h28.form
 obtain ⟨A32, c33, rfl⟩ := h31.form
 replace hx2 := hx2.mono hA0
 obtain ⟨A34, c35, rfl⟩ := hx2.form
 refine fn_enter Try.func13 rfl Try.ntmps13 rfl ?_
 unfold m_symmetry_State at hm
 refine ewp_seq (ewp_region (l_box 2 O rfl rfl fun g36 w37 O38 S39 h40 => ?_))
 replace h40 : Lc 2 w37 O38 g36 26 [(.slice A10 x0.vars.length c11), (.slice A13 x0.init.length c14), (.slice A16 x0.goal.length c17), (.slice A19 x0.ops.length c20)] := h40
 refine l_box 3 O38 rfl rfl fun g41 w42 O43 S44 h45 => ?_
 replace h45 : Lc 3 w42 O43 g41 29 [(.slice A26 x1.vars.length c27), (.slice A29 x1.vals.length c30), (.slice A32 x1.ops.length c33)] := h45
 refine o_as rfl rfl (o_as rfl rfl (o_z ?_))
 refine ewp_seq (ewp_seq (ewp_region ?_))
 replace h40 := h40.st S44
 refine o_la (hl := rfl) (hc := (h40.1).cellsAt) rfl rfl ?_
 refine o_la (hl := rfl) (hc := (h45.1).cellsAt) rfl rfl ?_
 replace h25 := (h25.st S39).st S44
 replace h28 := (h28.st S39).st S44
 replace h31 := (h31.st S39).st S44
 refine l_bslice 4 (by decide) O43 (xs := ([x1] : List Swp)) rfl rfl rfl rfl ⟨(Vb.ofAgg (cs := [(.slice A26 x1.vars.length c27), (.slice A29 x1.vals.length c30), (.slice A32 x1.ops.length c33)]) (x := x1) rfl ⟨_, _, _, rfl, h25, h28, h31⟩), trivial⟩ (by decide) (by decide) rfl fun g46 w47 O48 S49 h50 => ?_
 obtain ⟨q52, e53, hm⟩ := bs hm
 replace h9 := ((h9.st S39).st S44).st S49
 replace h12 := ((h12.st S39).st S44).st S49
 replace h15 := ((h15.st S39).st S44).st S49
 replace h18 := ((h18.st S39).st S44).st S49
 refine l_callA (O := O48) (A := All w47) (R := fun w' F v => Vb w' F v q52) (c_symmetry_demand (fun _ h => h) (Vb.mono (F := Fr 0 w47 O48) (Vb.ofAgg (cs := [(.slice A10 x0.vars.length c11), (.slice A13 x0.init.length c14), (.slice A16 x0.goal.length c17), (.slice A19 x0.ops.length c20)]) (x := x0) rfl ⟨_, _, _, _, rfl, h9, h12, h15, h18⟩) Fr.lt) (h50).all e53) rfl rfl fun v58 w54 O55 S56 h57 => ?_
 obtain ⟨rfl, r59⟩ := h57.err
 refine o_as rfl rfl (o_z ?_)
 refine ewp_seq (ewp_region (o_mv rfl rfl (o_rnS rfl rfl (fun c60 => ?_) fun c60 => ?_)))
 ·
  replace hm := ip hm c60
  refine o_z ?_
  refine ewp_true rfl (ewp_seq (ewp_region (o_mv rfl rfl (o_as rfl rfl (o_as rfl rfl (o_z ?_))))))
  refine ewp_ret ?_
  obtain rfl := sm hm
  replace hB := (((hB.st S39).st S44).st S49).st S56
  exact ret2 rfl (res_tmp rfl) (res_tmp rfl) ⟨hB.ext, _, _, rfl, (Vb.mono (F := Fr 0 w54 O55) (Vb.nil _ _) hB.out), (vErr r59)⟩
 ·
  replace hm := im hm c60
  refine o_z ?_
  refine ewp_false rfl (ewp_skip (ewp_seq (ewp_seq (ewp_region (o_fa rfl rfl ?_)))))
  replace h40 := (h40.st S49).st S56
  refine o_ld (hc := Blk.cell (i := 0) (h40.1) rfl) rfl rfl ?_
  refine o_mv rfl rfl ?_
  obtain ⟨q61, e62, hm⟩ := bs hm
  replace hx2 := (((hx2.st S39).st S44).st S49).st S56
  replace h9 := h9.st S56
  refine l_callA (O := O55) (A := All w54) (R := fun w' F v => Vb w' F v q61) (c_task_Proper (fun _ h => h) (Vb.mono (F := Fr 0 w54 O55) h9 Fr.lt) (Vb.mono (F := Fr 0 w54 O55) hx2 Fr.lt) e62) rfl rfl fun v67 w63 O64 S65 h66 => ?_
  obtain rfl := h66.bool
  cases q61
  case false =>
   replace hm := iF hm
   refine o_nf rfl rfl (o_z ?_)
   refine ewp_true rfl (ewp_seq (ewp_region (o_miE rfl rfl ?_)))
   refine o_as rfl rfl (o_as rfl rfl (o_z ?_))
   refine ewp_ret ?_
   obtain rfl := sm hm
   replace hB := ((((hB.st S39).st S44).st S49).st S56).st S65
   exact ret2 rfl (res_tmp rfl) (res_tmp rfl) ⟨hB.ext, _, _, rfl, (Vb.mono (F := Fr 0 w63 O64) (Vb.nil _ _) hB.out), (vErr (by decide))⟩
  replace hm := iT hm
  refine o_nt rfl rfl (o_z ?_)
  refine ewp_false rfl (ewp_skip (ewp_seq (ewp_region ?_)))
  replace h45 := ((h45.st S49).st S56).st S65
  refine o_la (hl := rfl) (hc := (h45.1).cellsAt) rfl rfl ?_
  refine o_mv rfl rfl ?_
  obtain ⟨q68, e69, hm⟩ := bs hm
  replace hx2 := hx2.st S65
  replace h25 := ((h25.st S49).st S56).st S65
  replace h28 := ((h28.st S49).st S56).st S65
  replace h31 := ((h31.st S49).st S56).st S65
  refine l_call (O := O64) (R := fun w' F v => Vb w' F v q68) (c_symmetry_moved Fr.lt (Vb.ofAgg (cs := [(.slice A26 x1.vars.length c27), (.slice A29 x1.vals.length c30), (.slice A32 x1.ops.length c33)]) (x := x1) rfl ⟨_, _, _, rfl, h25, h28, h31⟩) hx2 e69) rfl rfl fun v74 w70 O71 S72 h73 => ?_
  obtain ⟨A75, c76, rfl⟩ := h73.form
  refine o_as rfl rfl (o_as rfl rfl (o_z ?_))
  refine ewp_ret ?_
  obtain rfl := sm hm
  replace hB := (((((hB.st S39).st S44).st S49).st S56).st S65).st S72
  exact ret2 rfl (res_tmp rfl) (res_tmp rfl) ⟨hB.ext, _, _, rfl, (Vb.mono (F := Fr 0 w70 O71) h73 hB.out), (vErr (show inI64 0 from by decide))⟩
noncomputable def m_law51_long (x0 : Swp) : Option Bool :=
  bnd (rng (ρ := Bool) (fun (k32 : Nat) (a33 : List Int) (s30 : Int) => some (.next (wr (s30 + (a33.length : Int))))) x0.vals 0 (wr ((wr ((x0.vars.length : Int) + (x0.vals.length : Int))) + (x0.ops.length : Int)))) fun res28 => fin res28 fun (s62 : Int) => bnd (if 500 < s62 then (some true) else (some false) : Option Bool) fun y64 => some y64
theorem c_law51_long {w : World} {A : Nat → Prop} (hA : ∀ k, A k → k < w.heap.size) {vx0 : Value} {x0 : Swp} (hx0 : Vb w A vx0 x0) {r : Bool} (hm : m_law51_long x0 = some r) :
    Fn Try.prog 9 [vx0] w fun v w' => Ext w w' ∧ Vb w' (upA A w w') v r := by
 obtain ⟨O, hB, hA0⟩ := enter hA
 replace hx0 := hx0.mono hA0
 obtain ⟨cs2, rfl, v3, v4, v5, rfl, h6, h9, h12⟩ := hx0
 obtain ⟨A7, c8, rfl⟩ := h6.form
 obtain ⟨A10, c11, rfl⟩ := h9.form
 obtain ⟨A13, c14, rfl⟩ := h12.form
 refine fn_enter Try.func9 rfl Try.ntmps9 rfl ?_
 unfold m_law51_long at hm
 refine ewp_seq (ewp_region (l_box 2 O rfl rfl fun g15 w16 O17 S18 h19 => ?_))
 replace h19 : Lc 2 w16 O17 g15 29 [(.slice A7 x0.vars.length c8), (.slice A10 x0.vals.length c11), (.slice A13 x0.ops.length c14)] := h19
 refine o_as rfl rfl (o_z ?_)
 refine ewp_seq (ewp_region (o_fa rfl rfl (o_ld (hc := Blk.cell (i := 0) (h19.1) rfl) rfl rfl ?_)))
 refine o_ln rfl rfl ?_
 replace h6 := h6.st S18
 have l21 : x0.vars.length ≤ 9223372036854775807 := Nat.le_trans h6.len.2.1 h6.len.2.2
 have r20 : inI64 (x0.vars.length : Int) := rngNat l21
 refine o_fa rfl rfl (o_ld (hc := Blk.cell (i := 1) (h19.1) rfl) rfl rfl ?_)
 refine o_ln rfl rfl ?_
 replace h9 := h9.st S18
 have l23 : x0.vals.length ≤ 9223372036854775807 := Nat.le_trans h9.len.2.1 h9.len.2.2
 have r22 : inI64 (x0.vals.length : Int) := rngNat l23
 refine o_adW rfl rfl rfl ?_
 refine o_fa rfl rfl (o_ld (hc := Blk.cell (i := 2) (h19.1) rfl) rfl rfl ?_)
 refine o_ln rfl rfl ?_
 replace h12 := h12.st S18
 have l25 : x0.ops.length ≤ 9223372036854775807 := Nat.le_trans h12.len.2.1 h12.len.2.2
 have r24 : inI64 (x0.ops.length : Int) := rngNat l25
 refine o_adW rfl rfl rfl ?_
 refine o_as rfl rfl (o_z ?_)
 refine ewp_seq (ewp_seq (ewp_region (o_fa rfl rfl (o_ld (hc := Blk.cell (i := 1) (h19.1) rfl) rfl rfl ?_))))
 refine o_ln rfl rfl ?_
 have l27 : x0.vals.length ≤ 9223372036854775807 := Nat.le_trans h9.len.2.1 h9.len.2.2
 have r26 : inI64 (x0.vals.length : Int) := rngNat l27
 refine o_mv rfl rfl (o_z ?_)
 obtain ⟨res28, hL29, hm⟩ := bs hm
 refine ewp_join (aft res28 (fun (s30 : Int) (x31 : Unit) => [(3, (.int .i64 s30))]) (fun s30 x31 w' => ∃ O' : Lab, Bs w A w' O' ∧ inI64 s30)) ?_ ?_
 ·
  refine ewp_block ?_
  replace hB := hB.st S18
  refine ewp_rng (σ := Int) (X := Unit) (x0.vals.length) hL29 rfl l27 (fun (s30 : Int) (x31 : Unit) => [(3, (.int .i64 s30)), (18, (.slice A10 x0.vals.length c11))]) _ (fun s30 x31 w' => ∃ O' : Lab, Bs w A w' O' ∧ Vb w' (Fr 0 w' O') (.slice A10 x0.vals.length c11) x0.vals ∧ inI64 s30) _ () ⟨O17, hB, h9, (wr_rng _)⟩ ⟨rfl, rfl, rfl, rfl, trivial⟩ (fun _ _ => ⟨rfl, rfl⟩) (fun _ _ => ⟨rfl, trivial⟩) (fun _ _ _ ⟨O', hB, h9, r44⟩ => ⟨O', hB, r44⟩) ⟨rfl, rfl, rfl⟩ ⟨rfl, rfl⟩ ?_
  rintro k32 a33 s30 x31 w34 cc36 hx37 ⟨O35, hB, h9, r44⟩ hf38 hret39 hbrk40
  have rk32 : inI64 (k32 : Int) := rngK hx37 l27
  refine ewp_seq (ewp_region ?_)
  obtain ⟨b45, o46, ce47, hA48, hl49, hd50, v52, rfl, h53⟩ := h9.elem' hx37
  replace h53 := Vb.of_slice h53
  obtain ⟨A54, c55, rfl⟩ := h53.form
  refine o_iaE (hA := hA48) (hj := rfl) (hlt := hl49) rfl rfl rfl ?_
  refine o_ld (hc := cat0 hd50) rfl rfl ?_
  refine o_as rfl rfl (o_z ?_)
  refine ewp_region (o_mv rfl rfl (o_mv rfl rfl (o_ln rfl rfl ?_)))
  have l57 : a33.length ≤ 9223372036854775807 := Nat.le_trans h53.len.2.1 h53.len.2.2
  have r56 : inI64 (a33.length : Int) := rngNat l57
  refine o_adW rfl rfl rfl ?_
  refine o_as rfl rfl (o_z ?_)
  obtain rfl := sm hf38
  refine (?_ : Exists _)
  exact ⟨_, (), rfl, ⟨rfl, rfl, rfl, rfl, trivial⟩, _, hB, h9, (wr_rng _)⟩
 replace hB := hB.st S18
 rintro l58 w59 ⟨s62, x63, rfl, hs61, O60, hB, r44⟩
 replace hm := fin_done hm
 refine ewp_sub _ hs61 ?_
 refine ewp_seq ?_
 obtain ⟨y64, hy65, hm⟩ := bs hm
 refine ewp_join (fun l' w' => ∃ (x67 : Unit) (O' : Lab), subs l' [(2, (.bool y64))] ∧ Bs w A w' O') ?_ ?_
 ·
  refine ewp_region (o_mv rfl rfl (o_gtS rfl rfl rfl (fun c68 => ?_) fun c68 => ?_))
  ·
   replace hy65 := ip hy65 c68
   refine o_as rfl rfl (o_z ?_)
   obtain rfl := sm hy65
   exact ⟨(), _, ⟨rfl, trivial⟩, hB⟩
  ·
   replace hy65 := im hy65 c68
   refine o_as rfl rfl (o_z ?_)
   obtain rfl := sm hy65
   exact ⟨(), _, ⟨rfl, trivial⟩, hB⟩
 rintro l69 w70 ⟨x67, O71, hs72, hB⟩
 refine ewp_sub _ hs72 ?_
 refine ewp_ret ?_
 obtain rfl := sm hm
 exact ret1v rfl (res_tmp rfl) ⟨hB.ext, vBool⟩
noncomputable def m_law51_awake  : Option Bool :=
  bnd (m_symmetry_State (⟨([2, 2] : List Int), ([0, 0] : List Int), ([] : List Fct), [(⟨(⟨#[]⟩ : ByteArray), 0, ([] : List Fct), [(⟨([] : List Fct), 0, 1⟩ : Eff)]⟩ : Opr), (⟨(⟨#[]⟩ : ByteArray), 0, ([] : List Fct), [(⟨([] : List Fct), 1, 1⟩ : Eff)]⟩ : Opr)]⟩ : Tsk) (⟨([1, 0] : List Int), [([0, 1] : List Int), ([0, 1] : List Int)], ([1, 0] : List Int)⟩ : Swp) ([1, 0] : List Int)) fun q103 => bnd (bnd (m_symmetry_Check (⟨([2, 2] : List Int), ([0, 0] : List Int), ([] : List Fct), [(⟨(⟨#[]⟩ : ByteArray), 0, ([] : List Fct), [(⟨([] : List Fct), 0, 1⟩ : Eff)]⟩ : Opr), (⟨(⟨#[]⟩ : ByteArray), 0, ([] : List Fct), [(⟨([] : List Fct), 1, 1⟩ : Eff)]⟩ : Opr)]⟩ : Tsk) (⟨([1, 0] : List Int), [([0, 1] : List Int), ([0, 1] : List Int)], ([1, 0] : List Int)⟩ : Swp)) fun q121 => if q121 = true then if q103.2.n = 0 then (bnd (m_base_Ints q103.1 ([0, 1] : List Int)) fun q135 => if q135 = true then some true else some false) else (some false) else some false : Option Bool) fun y117 => some y117
theorem c_law51_awake {w : World} {A : Nat → Prop} (hA : ∀ k, A k → k < w.heap.size)  {r : Bool} (hm : m_law51_awake  = some r) :
    Fn Try.prog 10 [] w fun v w' => Ext w w' ∧ Vb w' (upA A w w') v r := by
 obtain ⟨O, hB, hA0⟩ := enter hA
 refine fn_enter Try.func10 rfl Try.ntmps10 rfl ?_
 unfold m_law51_awake at hm
 refine ewp_seq (ewp_region (o_as rfl rfl (o_z ?_)))
 refine ewp_seq (ewp_region (l_bslice 2 (by decide) O (xs := (([2, 2] : List Int) : List Int)) rfl rfl rfl rfl ⟨(vInt (show inI64 (2) from by decide)), (vInt (show inI64 (2) from by decide)), trivial⟩ (by decide) (by decide) rfl fun g1 w2 O3 S4 h5 => ?_))
 refine l_bslice 3 (by decide) O3 (xs := (([0, 0] : List Int) : List Int)) rfl rfl rfl rfl ⟨(vInt (show inI64 (0) from by decide)), (vInt (show inI64 (0) from by decide)), trivial⟩ (by decide) (by decide) rfl fun g7 w8 O9 S10 h11 => ?_
 refine o_bd rfl rfl rfl ?_
 refine l_bslice 4 (by decide) O9 (xs := ([(⟨([] : List Fct), 0, 1⟩ : Eff)] : List Eff)) rfl rfl rfl rfl ⟨(Vb.ofAgg (cs := [(.slice none 0 0), (.int .i64 0), (.int .i64 1)]) (x := (⟨([] : List Fct), 0, 1⟩ : Eff)) rfl ⟨_, rfl, (Vb.nil _ _), (show inI64 (0) from by decide), (show inI64 (1) from by decide)⟩), trivial⟩ (by decide) (by decide) rfl fun g13 w14 O15 S16 h17 => ?_
 refine o_bd rfl rfl rfl ?_
 refine o_bd rfl rfl rfl ?_
 refine l_bslice 5 (by decide) O15 (xs := ([(⟨([] : List Fct), 1, 1⟩ : Eff)] : List Eff)) rfl rfl rfl rfl ⟨(Vb.ofAgg (cs := [(.slice none 0 0), (.int .i64 1), (.int .i64 1)]) (x := (⟨([] : List Fct), 1, 1⟩ : Eff)) rfl ⟨_, rfl, (Vb.nil _ _), (show inI64 (1) from by decide), (show inI64 (1) from by decide)⟩), trivial⟩ (by decide) (by decide) rfl fun g19 w20 O21 S22 h23 => ?_
 refine o_bd rfl rfl rfl ?_
 replace h17 := h17.st S22
 obtain ⟨O25, S26, h17⟩ := h17.freeze
 replace h23 := h23.st S26
 obtain ⟨O27, S28, h23⟩ := h23.freeze
 replace h17 := h17.st S28
 refine l_bslice 6 (by decide) O27 (xs := ([(⟨(⟨#[]⟩ : ByteArray), 0, ([] : List Fct), [(⟨([] : List Fct), 0, 1⟩ : Eff)]⟩ : Opr), (⟨(⟨#[]⟩ : ByteArray), 0, ([] : List Fct), [(⟨([] : List Fct), 1, 1⟩ : Eff)]⟩ : Opr)] : List Opr)) rfl rfl rfl rfl ⟨(Vb.ofAgg (cs := [(.string (⟨#[]⟩ : ByteArray)), (.int .i64 0), (.slice none 0 0), (.slice (some ⟨g13, 0, none⟩) [(⟨([] : List Fct), 0, 1⟩ : Eff)].length 1)]) (x := (⟨(⟨#[]⟩ : ByteArray), 0, ([] : List Fct), [(⟨([] : List Fct), 0, 1⟩ : Eff)]⟩ : Opr)) rfl ⟨_, _, rfl, (Vb.nil _ _), h17, (show inI64 0 from by decide), (show (⟨#[]⟩ : ByteArray).size ≤ 9223372036854775807 from by decide)⟩), (Vb.ofAgg (cs := [(.string (⟨#[]⟩ : ByteArray)), (.int .i64 0), (.slice none 0 0), (.slice (some ⟨g19, 0, none⟩) [(⟨([] : List Fct), 1, 1⟩ : Eff)].length 1)]) (x := (⟨(⟨#[]⟩ : ByteArray), 0, ([] : List Fct), [(⟨([] : List Fct), 1, 1⟩ : Eff)]⟩ : Opr)) rfl ⟨_, _, rfl, (Vb.nil _ _), h23, (show inI64 0 from by decide), (show (⟨#[]⟩ : ByteArray).size ≤ 9223372036854775807 from by decide)⟩), trivial⟩ (by decide) (by decide) rfl fun g29 w30 O31 S32 h33 => ?_
 refine o_bd rfl rfl rfl ?_
 refine l_alloc 7 O31 rfl fun g35 w36 O37 S38 h39 => ?_
 refine l_store h39 rfl rfl rfl (Nat.le_of_ble_eq_true rfl) (by first | exact allOne rfl | simp [Value.cells, Value.oneCell', errV_one]) fun w40 S41 h39 => ?_
 replace h39 : Lc 7 w40 O37 g35 26 [(.slice (some ⟨g1, 0, none⟩) ([2, 2] : List Int).length 2), (.slice (some ⟨g7, 0, none⟩) ([0, 0] : List Int).length 2), (.slice none 0 0), (.slice (some ⟨g29, 0, none⟩) [(⟨(⟨#[]⟩ : ByteArray), 0, ([] : List Fct), [(⟨([] : List Fct), 0, 1⟩ : Eff)]⟩ : Opr), (⟨(⟨#[]⟩ : ByteArray), 0, ([] : List Fct), [(⟨([] : List Fct), 1, 1⟩ : Eff)]⟩ : Opr)].length 2)] := h39
 refine o_z ?_
 refine ewp_seq (ewp_region (l_bslice 8 (by decide) O37 (xs := (([1, 0] : List Int) : List Int)) rfl rfl rfl rfl ⟨(vInt (show inI64 (1) from by decide)), (vInt (show inI64 (0) from by decide)), trivial⟩ (by decide) (by decide) rfl fun g42 w43 O44 S45 h46 => ?_))
 refine l_bslice 9 (by decide) O44 (xs := (([0, 1] : List Int) : List Int)) rfl rfl rfl rfl ⟨(vInt (show inI64 (0) from by decide)), (vInt (show inI64 (1) from by decide)), trivial⟩ (by decide) (by decide) rfl fun g48 w49 O50 S51 h52 => ?_
 refine l_bslice 10 (by decide) O50 (xs := (([0, 1] : List Int) : List Int)) rfl rfl rfl rfl ⟨(vInt (show inI64 (0) from by decide)), (vInt (show inI64 (1) from by decide)), trivial⟩ (by decide) (by decide) rfl fun g54 w55 O56 S57 h58 => ?_
 replace h52 := h52.st S57
 obtain ⟨O60, S61, h52⟩ := h52.freeze
 replace h58 := h58.st S61
 obtain ⟨O62, S63, h58⟩ := h58.freeze
 replace h52 := h52.st S63
 refine l_bslice 11 (by decide) O62 (xs := ([([0, 1] : List Int), ([0, 1] : List Int)] : List (List Int))) rfl rfl rfl rfl ⟨h52, h58, trivial⟩ (by decide) (by decide) rfl fun g64 w65 O66 S67 h68 => ?_
 refine l_bslice 12 (by decide) O66 (xs := (([1, 0] : List Int) : List Int)) rfl rfl rfl rfl ⟨(vInt (show inI64 (1) from by decide)), (vInt (show inI64 (0) from by decide)), trivial⟩ (by decide) (by decide) rfl fun g70 w71 O72 S73 h74 => ?_
 refine o_bd rfl rfl rfl ?_
 refine l_alloc 13 O72 rfl fun g76 w77 O78 S79 h80 => ?_
 refine l_store h80 rfl rfl rfl (Nat.le_of_ble_eq_true rfl) (by first | exact allOne rfl | simp [Value.cells, Value.oneCell', errV_one]) fun w81 S82 h80 => ?_
 replace h80 : Lc 13 w81 O78 g76 29 [(.slice (some ⟨g42, 0, none⟩) ([1, 0] : List Int).length 2), (.slice (some ⟨g64, 0, none⟩) [([0, 1] : List Int), ([0, 1] : List Int)].length 2), (.slice (some ⟨g70, 0, none⟩) ([1, 0] : List Int).length 2)] := h80
 refine o_z ?_
 refine ewp_seq (ewp_region ?_)
 replace h39 := ((((((((h39.st S45).st S51).st S57).st S61).st S63).st S67).st S73).st S79).st S82
 refine o_la (hl := rfl) (hc := (h39.1).cellsAt) rfl rfl ?_
 refine o_la (hl := rfl) (hc := (h80.1).cellsAt) rfl rfl ?_
 refine l_bslice 14 (by decide) O78 (xs := (([1, 0] : List Int) : List Int)) rfl rfl rfl rfl ⟨(vInt (show inI64 (1) from by decide)), (vInt (show inI64 (0) from by decide)), trivial⟩ (by decide) (by decide) rfl fun g83 w84 O85 S86 h87 => ?_
 replace h5 := (((((((((((((((((h5.st S10).st S16).st S22).st S26).st S28).st S32).st S38).st S41).st S45).st S51).st S57).st S61).st S63).st S67).st S73).st S79).st S82).st S86
 obtain ⟨O89, S90, h5⟩ := h5.freeze
 replace h11 := (((((((((((((((((h11.st S16).st S22).st S26).st S28).st S32).st S38).st S41).st S45).st S51).st S57).st S61).st S63).st S67).st S73).st S79).st S82).st S86).st S90
 obtain ⟨O91, S92, h11⟩ := h11.freeze
 replace h33 := (((((((((((((h33.st S38).st S41).st S45).st S51).st S57).st S61).st S63).st S67).st S73).st S79).st S82).st S86).st S90).st S92
 obtain ⟨O93, S94, h33⟩ := h33.freeze
 replace h46 := (((((((((((h46.st S51).st S57).st S61).st S63).st S67).st S73).st S79).st S82).st S86).st S90).st S92).st S94
 obtain ⟨O95, S96, h46⟩ := h46.freeze
 replace h68 := (((((((h68.st S73).st S79).st S82).st S86).st S90).st S92).st S94).st S96
 obtain ⟨O97, S98, h68⟩ := h68.freeze
 replace h74 := (((((((h74.st S79).st S82).st S86).st S90).st S92).st S94).st S96).st S98
 obtain ⟨O99, S100, h74⟩ := h74.freeze
 replace h87 := (((((h87.st S90).st S92).st S94).st S96).st S98).st S100
 obtain ⟨O101, S102, h87⟩ := h87.freeze
 obtain ⟨q103, e104, hm⟩ := bs hm
 replace h5 := (((((h5.st S92).st S94).st S96).st S98).st S100).st S102
 replace h11 := ((((h11.st S94).st S96).st S98).st S100).st S102
 replace h33 := (((h33.st S96).st S98).st S100).st S102
 replace h46 := ((h46.st S98).st S100).st S102
 replace h68 := (h68.st S100).st S102
 replace h74 := h74.st S102
 refine l_call (O := O101) (R := fun w' F v => T2 w' F v q103) (c_symmetry_State Fr.lt (Vb.ofAgg (cs := [(.slice (some ⟨g1, 0, none⟩) ([2, 2] : List Int).length 2), (.slice (some ⟨g7, 0, none⟩) ([0, 0] : List Int).length 2), (.slice none 0 0), (.slice (some ⟨g29, 0, none⟩) [(⟨(⟨#[]⟩ : ByteArray), 0, ([] : List Fct), [(⟨([] : List Fct), 0, 1⟩ : Eff)]⟩ : Opr), (⟨(⟨#[]⟩ : ByteArray), 0, ([] : List Fct), [(⟨([] : List Fct), 1, 1⟩ : Eff)]⟩ : Opr)].length 2)]) (x := (⟨([2, 2] : List Int), ([0, 0] : List Int), ([] : List Fct), [(⟨(⟨#[]⟩ : ByteArray), 0, ([] : List Fct), [(⟨([] : List Fct), 0, 1⟩ : Eff)]⟩ : Opr), (⟨(⟨#[]⟩ : ByteArray), 0, ([] : List Fct), [(⟨([] : List Fct), 1, 1⟩ : Eff)]⟩ : Opr)]⟩ : Tsk)) rfl ⟨_, _, _, _, rfl, h5, h11, (Vb.nil _ _), h33⟩) (Vb.ofAgg (cs := [(.slice (some ⟨g42, 0, none⟩) ([1, 0] : List Int).length 2), (.slice (some ⟨g64, 0, none⟩) [([0, 1] : List Int), ([0, 1] : List Int)].length 2), (.slice (some ⟨g70, 0, none⟩) ([1, 0] : List Int).length 2)]) (x := (⟨([1, 0] : List Int), [([0, 1] : List Int), ([0, 1] : List Int)], ([1, 0] : List Int)⟩ : Swp)) rfl ⟨_, _, _, rfl, h46, h68, h74⟩) h87 e104) rfl rfl fun v109 w105 O106 S107 h108 => ?_
 obtain ⟨v110, v111, rfl, h112, h113⟩ := h108
 obtain ⟨A114, c115, rfl⟩ := h112.form
 obtain ⟨rfl, r116⟩ := h113.err
 refine o_mv rfl rfl (o_ex rfl rfl rfl (o_ex rfl rfl rfl (o_as rfl rfl (o_as rfl rfl (o_z ?_)))))
 refine ewp_seq ?_
 obtain ⟨y117, hy118, hm⟩ := bs hm
 refine ewp_join (fun l' w' => ∃ (x120 : Unit) (O' : Lab), subs l' [(0, (.bool y117))] ∧ Bs w A w' O') ?_ ?_
 ·
  refine ewp_region ?_
  replace h39 := ((((((((h39.st S86).st S90).st S92).st S94).st S96).st S98).st S100).st S102).st S107
  refine o_la (hl := rfl) (hc := (h39.1).cellsAt) rfl rfl ?_
  replace h80 := ((((((((h80.st S86).st S90).st S92).st S94).st S96).st S98).st S100).st S102).st S107
  refine o_la (hl := rfl) (hc := (h80.1).cellsAt) rfl rfl ?_
  obtain ⟨q121, e122, hy118⟩ := bs hy118
  replace h5 := h5.st S107
  replace h11 := h11.st S107
  replace h33 := h33.st S107
  replace h46 := h46.st S107
  replace h68 := h68.st S107
  replace h74 := h74.st S107
  refine l_callA (O := O106) (A := All w105) (R := fun w' F v => Vb w' F v q121) (c_symmetry_Check (fun _ h => h) (Vb.mono (F := Fr 0 w105 O106) (Vb.ofAgg (cs := [(.slice (some ⟨g1, 0, none⟩) ([2, 2] : List Int).length 2), (.slice (some ⟨g7, 0, none⟩) ([0, 0] : List Int).length 2), (.slice none 0 0), (.slice (some ⟨g29, 0, none⟩) [(⟨(⟨#[]⟩ : ByteArray), 0, ([] : List Fct), [(⟨([] : List Fct), 0, 1⟩ : Eff)]⟩ : Opr), (⟨(⟨#[]⟩ : ByteArray), 0, ([] : List Fct), [(⟨([] : List Fct), 1, 1⟩ : Eff)]⟩ : Opr)].length 2)]) (x := (⟨([2, 2] : List Int), ([0, 0] : List Int), ([] : List Fct), [(⟨(⟨#[]⟩ : ByteArray), 0, ([] : List Fct), [(⟨([] : List Fct), 0, 1⟩ : Eff)]⟩ : Opr), (⟨(⟨#[]⟩ : ByteArray), 0, ([] : List Fct), [(⟨([] : List Fct), 1, 1⟩ : Eff)]⟩ : Opr)]⟩ : Tsk)) rfl ⟨_, _, _, _, rfl, h5, h11, (Vb.nil _ _), h33⟩) Fr.lt) (Vb.mono (F := Fr 0 w105 O106) (Vb.ofAgg (cs := [(.slice (some ⟨g42, 0, none⟩) ([1, 0] : List Int).length 2), (.slice (some ⟨g64, 0, none⟩) [([0, 1] : List Int), ([0, 1] : List Int)].length 2), (.slice (some ⟨g70, 0, none⟩) ([1, 0] : List Int).length 2)]) (x := (⟨([1, 0] : List Int), [([0, 1] : List Int), ([0, 1] : List Int)], ([1, 0] : List Int)⟩ : Swp)) rfl ⟨_, _, _, rfl, h46, h68, h74⟩) Fr.lt) e122) rfl rfl fun v127 w123 O124 S125 h126 => ?_
  obtain rfl := h126.bool
  cases q121
  case false =>
   replace hy118 := iF hy118
   refine o_mv rfl rfl (owp_no rfl rfl rfl rfl (owp_no rfl rfl rfl rfl (o_pf rfl rfl rfl (o_mv rfl rfl (owp_no rfl rfl rfl rfl (owp_no rfl rfl rfl rfl (owp_no rfl rfl rfl rfl (o_pf rfl rfl rfl (o_as rfl rfl (o_z ?_))))))))))
   obtain rfl := sm hy118
   replace hB := (((((((((((((((((((((((((((hB.st S4).st S10).st S16).st S22).st S26).st S28).st S32).st S38).st S41).st S45).st S51).st S57).st S61).st S63).st S67).st S73).st S79).st S82).st S86).st S90).st S92).st S94).st S96).st S98).st S100).st S102).st S107).st S125
   exact ⟨(), _, ⟨rfl, trivial⟩, hB⟩
  replace hy118 := iT hy118
  refine o_mv rfl rfl (owp_yes rfl rfl (o_mv rfl rfl (owp_yes rfl rfl (o_erS rfl rfl (fun c128 => ?_) fun c128 => ?_))))
  ·
   replace hy118 := ip hy118 c128
   refine o_pt rfl rfl rfl (o_mv rfl rfl (owp_yes rfl rfl (o_mv rfl rfl (owp_yes rfl rfl (l_bslice 15 (by decide) O124 (xs := (([0, 1] : List Int) : List Int)) rfl rfl rfl rfl ⟨(vInt (show inI64 (0) from by decide)), (vInt (show inI64 (1) from by decide)), trivial⟩ (by decide) (by decide) rfl fun g129 w130 O131 S132 h133 => ?_)))))
   refine owp_yes rfl rfl ?_
   obtain ⟨q135, e136, hy118⟩ := bs hy118
   replace h112 := (h112.st S125).st S132
   refine l_callA (O := O131) (A := All w130) (R := fun w' F v => Vb w' F v q135) (c_base_Ints (fun _ h => h) (Vb.mono (F := Fr 0 w130 O131) h112 Fr.lt) (h133).all e136) rfl rfl fun v141 w137 O138 S139 h140 => ?_
   obtain rfl := h140.bool
   cases q135
   case false =>
    replace hy118 := iF hy118
    refine o_pt rfl rfl rfl (o_as rfl rfl (o_z ?_))
    obtain rfl := sm hy118
    replace hB := (((((((((((((((((((((((((((((hB.st S4).st S10).st S16).st S22).st S26).st S28).st S32).st S38).st S41).st S45).st S51).st S57).st S61).st S63).st S67).st S73).st S79).st S82).st S86).st S90).st S92).st S94).st S96).st S98).st S100).st S102).st S107).st S125).st S132).st S139
    exact ⟨(), _, ⟨rfl, trivial⟩, hB⟩
   replace hy118 := iT hy118
   refine o_pt rfl rfl rfl (o_as rfl rfl (o_z ?_))
   obtain rfl := sm hy118
   replace hB := (((((((((((((((((((((((((((((hB.st S4).st S10).st S16).st S22).st S26).st S28).st S32).st S38).st S41).st S45).st S51).st S57).st S61).st S63).st S67).st S73).st S79).st S82).st S86).st S90).st S92).st S94).st S96).st S98).st S100).st S102).st S107).st S125).st S132).st S139
   exact ⟨(), _, ⟨rfl, trivial⟩, hB⟩
  ·
   replace hy118 := im hy118 c128
   refine o_pt rfl rfl rfl (o_mv rfl rfl (owp_no rfl rfl rfl rfl (owp_no rfl rfl rfl rfl (owp_no rfl rfl rfl rfl (o_pf rfl rfl rfl (o_as rfl rfl (o_z ?_)))))))
   obtain rfl := sm hy118
   replace hB := (((((((((((((((((((((((((((hB.st S4).st S10).st S16).st S22).st S26).st S28).st S32).st S38).st S41).st S45).st S51).st S57).st S61).st S63).st S67).st S73).st S79).st S82).st S86).st S90).st S92).st S94).st S96).st S98).st S100).st S102).st S107).st S125
   exact ⟨(), _, ⟨rfl, trivial⟩, hB⟩
 replace hB := ((((((((((((((((((((((((((hB.st S4).st S10).st S16).st S22).st S26).st S28).st S32).st S38).st S41).st S45).st S51).st S57).st S61).st S63).st S67).st S73).st S79).st S82).st S86).st S90).st S92).st S94).st S96).st S98).st S100).st S102).st S107
 rintro l142 w143 ⟨x120, O144, hs145, hB⟩
 refine ewp_sub _ hs145 ?_
 refine ewp_ret ?_
 obtain rfl := sm hm
 exact ret1v rfl (res_tmp rfl) ⟨hB.ext, vBool⟩
end
section
open Go Go.RowKit
attribute [local irreducible] ewp owp hwp hwq Ev Evg Fn retPost Res1
def exts (n : Nat) (s : List Int) : List (List Int) := (List.range n).map fun x : Nat => s ++ [(x : Int)]
def grows (out : List (List Int)) (k : Int) : List (List Int) := out.flatMap (exts k.toNat)
def statesL (vars : List Int) : List (List Int) := vars.foldl grows [[]]
theorem statesL_step {vars : List Int} {k : Nat} {n : Int} (h : vars[k]? = some n) : statesL (vars.take (k + 1)) = grows (statesL (vars.take k)) n := by
  unfold statesL
  rw [List.take_add_one, h, List.foldl_append]; rfl
theorem exts_step (n : Nat) (s : List Int) : exts (n + 1) s = exts n s ++ [s ++ [(n : Int)]] := by unfold exts; rw [List.range_succ]; simp
theorem exts_len (n : Nat) (s : List Int) : (exts n s).length = n := by simp [exts]
theorem grows_len (n : Nat) : ∀ l : List (List Int), (l.flatMap (exts n)).length = l.length * n
  | [] => by simp
  | s :: l => by rw [List.flatMap_cons, List.length_append, exts_len, grows_len n l, List.length_cons, Nat.add_mul]; omega
theorem flat_step {α β : Type} (f : α → List β) {l : List α} {k : Nat} {x : α} (h : l[k]? = some x) : (l.take (k + 1)).flatMap f = (l.take k).flatMap f ++ f x := by
  rw [List.take_add_one, h]; simp
theorem statesL_mem (vars : List Int) : ∀ (k : Nat), k ≤ vars.length → ∀ s ∈ statesL (vars.take k), s.length = k := by
  intro k
  induction k with
  | zero => intro _ s hs; simp [statesL] at hs; simp [hs]
  | succ k ih =>
    intro hk s hs
    obtain ⟨n, hn⟩ : ∃ n, vars[k]? = some n := ⟨vars[k], List.getElem?_eq_getElem (by omega)⟩
    rw [statesL_step hn] at hs
    obtain ⟨s', h1, h2⟩ := List.mem_flatMap.1 hs
    obtain ⟨x, _, rfl⟩ := List.mem_map.1 h2
    simp [ih (by omega) s' h1]
end
section
open Go Go.RowKit
def prodV : List Int → Nat → Nat
  | [], n => n
  | k :: r, n => prodV r (n * k.toNat)
theorem foldl_grows_len : ∀ (vars : List Int) (out : List (List Int)), (vars.foldl grows out).length = prodV vars out.length
  | [], _ => rfl
  | k :: r, out => by
    simp only [List.foldl_cons, prodV]
    rw [foldl_grows_len r, grows, grows_len]
theorem statesL_len (vars : List Int) : (statesL vars).length = prodV vars 1 := foldl_grows_len vars [[]]
theorem many_prod {most : Nat} : ∀ (vars : List Int) (n : Nat), (∀ x ∈ vars, 1 ≤ x) → 1 ≤ n → manyF most vars (n : Int) ≤ most → ∀ k, prodV (vars.take k) n ≤ most
  | [], n, _, _, h, k => by simp only [List.take_nil, prodV]; simp only [manyF] at h; omega
  | x :: r, n, hx, hn, h, k => by
    have h1 : 1 ≤ x := hx x List.mem_cons_self
    simp only [manyF] at h
    have hmax : max x 0 = x := by omega
    rw [hmax] at h
    obtain ⟨m, rfl⟩ : ∃ m : Nat, x = (m : Int) := ⟨x.toNat, by omega⟩
    by_cases hm : (m : Int) ≤ most
    · rw [show min (m : Int) (most + 1) = (m : Int) from by omega, ← Int.natCast_mul] at h
      have hnm : n ≤ n * m := Nat.le_mul_of_pos_right n (by omega)
      by_cases hc : (most : Int) < ((n * m : Nat) : Int)
      · rw [if_pos hc] at h; omega
      · rw [if_neg hc] at h
        cases k with
        | zero => simp only [List.take_zero, prodV]; omega
        | succ k =>
          simp only [List.take_succ_cons, prodV, Int.toNat_natCast]
          exact many_prod r (n * m) (fun y hy => hx y (List.mem_cons_of_mem _ hy)) (by omega) h k
    · exfalso
      rw [show min (m : Int) (most + 1) = ((most + 1 : Nat) : Int) from by omega, ← Int.natCast_mul] at h
      have : most + 1 ≤ n * (most + 1) := Nat.le_mul_of_pos_left _ hn
      rw [if_pos (by omega)] at h
      omega
theorem stateOk_cons {y x : Int} {vs s : List Int} : StateOk (y :: vs) (x :: s) ↔ (0 ≤ x ∧ x < y) ∧ StateOk vs s := by
  constructor
  · intro h
    exact ⟨h.2 0 x y rfl rfl, by have := h.1; simpa using this, fun i a b ha hb => h.2 (i + 1) a b (by simpa using ha) (by simpa using hb)⟩
  · rintro ⟨h1, h2, h3⟩
    refine ⟨by simpa using h2, fun i a b ha hb => ?_⟩
    cases i with
    | zero => simp at ha hb; subst ha; subst hb; exact h1
    | succ i => exact h3 i a b (by simpa using ha) (by simpa using hb)
theorem stateOk_nil : StateOk [] [] := ⟨rfl, fun i a b ha => by simp at ha⟩
theorem mem_exts {n : Nat} {s t : List Int} : t ∈ exts n s ↔ ∃ x : Nat, x < n ∧ t = s ++ [(x : Int)] := by
  unfold exts
  rw [List.mem_map]
  constructor
  · rintro ⟨x, hx, rfl⟩; exact ⟨x, List.mem_range.1 hx, rfl⟩
  · rintro ⟨x, hx, rfl⟩; exact ⟨x, List.mem_range.2 hx, rfl⟩
theorem mem_foldl_grows : ∀ (vars : List Int) (out : List (List Int)) (s : List Int), s ∈ vars.foldl grows out ↔ ∃ s0 ∈ out, ∃ r, s = s0 ++ r ∧ StateOk vars r
  | [], out, s => by
    constructor
    · intro h; exact ⟨s, h, [], by simp, stateOk_nil⟩
    · rintro ⟨s0, h, r, rfl, hr⟩
      have : r = [] := List.eq_nil_of_length_eq_zero hr.1
      subst this; simpa using h
  | k :: vs, out, s => by
    simp only [List.foldl_cons]
    rw [mem_foldl_grows vs (grows out k) s]
    constructor
    · rintro ⟨s1, h1, r, rfl, hr⟩
      obtain ⟨s0, h0, h2⟩ := List.mem_flatMap.1 h1
      obtain ⟨x, hx, rfl⟩ := mem_exts.1 h2
      exact ⟨s0, h0, (x : Int) :: r, by simp, stateOk_cons.2 ⟨⟨by omega, by omega⟩, hr⟩⟩
    · rintro ⟨s0, h0, r, rfl, hr⟩
      cases r with
      | nil => have := hr.1; simp at this
      | cons x r =>
        obtain ⟨⟨h1, h2⟩, h3⟩ := stateOk_cons.1 hr
        exact ⟨s0 ++ [x], List.mem_flatMap.2 ⟨s0, h0, mem_exts.2 ⟨x.toNat, by omega, by rw [show ((x.toNat : Nat) : Int) = x from by omega]⟩⟩, r, by simp, h3⟩
theorem mem_statesL {vars s : List Int} : s ∈ statesL vars ↔ StateOk vars s := by
  unfold statesL
  rw [mem_foldl_grows]
  constructor
  · rintro ⟨s0, h0, r, rfl, hr⟩
    have : s0 = [] := by simpa using h0
    subst this; exact hr
  · intro h; exact ⟨[], by simp, s, rfl, h⟩
theorem SmallOk.ok {t : Tsk} (h : SmallOk t) : TaskOk t := h.2.2.2.1
theorem SmallOk.states {t : Tsk} (h : SmallOk t) : ∀ k, (statesL (t.vars.take k)).length ≤ 512 := fun k => by
  rw [statesL_len]
  refine many_prod (most := 512) t.vars 1 (fun x hx => ?_) (Nat.le_refl _) h.2.2.2.2 k
  obtain ⟨i, hi, rfl⟩ := List.getElem_of_mem hx
  exact (h.ok.vars i _ (List.getElem?_eq_getElem hi)).1
theorem SmallOk.many {t : Tsk} (h : SmallOk t) : (statesL t.vars).length ≤ 512 := by
  have := h.states t.vars.length
  rwa [List.take_length] at this
end
section
open Go Go.RowKit
attribute [local irreducible] ewp owp hwp hwq Ev Evg Fn retPost Res1
structure Edg where
  src : Int
  op : Int
  dst : Int
instance : Rp Edg where
  isAgg := true
  size := 3
  R w F cs x := cs = [.int .i64 x.src, .int .i64 x.op, .int .i64 x.dst] ∧ inI64 x.src ∧ inI64 x.op ∧ inI64 x.dst
  len := by rintro w F cs x ⟨rfl, h0, h1, h2⟩; rfl
  one := by rintro w F cs x ⟨rfl, h0, h1, h2⟩ u hu; simp at hu; rcases hu with rfl | rfl | rfl <;> first | rfl | exact Vb.one rfl (by assumption)
  agree := by rintro w w' F cs x ⟨rfl, h0, h1, h2⟩ ha; exact ⟨rfl, h0, h1, h2⟩
  mono := by rintro w F G cs x ⟨rfl, h0, h1, h2⟩ ha; exact ⟨rfl, h0, h1, h2⟩
noncomputable def m_base_States (x0 : List Int) : Option (List (List Int)) :=
  bnd (rng (ρ := (List (List Int))) (fun (k24 : Nat) (a25 : Int) (s22 : (List (List Int))) => bnd (rng (ρ := Ctl (List (List Int)) (List (List Int))) (fun (k53 : Nat) (a54 : List Int) (s51 : (List (List Int))) => bnd (natI a25) fun N92 => bnd (rngN (ρ := Ctl (List (List Int)) (Ctl (List (List Int)) (List (List Int)))) (fun (k83 : Nat) (s81 : (List (List Int))) => bnd (appI 8 ([] : List Int) a54) fun u104 => bnd (appI 8 u104 [(k83 : Int)]) fun u115 => bnd (appI 24 s81 [u115]) fun u129 => some (.next u129)) N92 s51) fun res79 => fin res79 fun (s145 : (List (List Int))) => some (.next s145)) s22 0 ([] : List (List Int))) fun res49 => fin res49 fun (s151 : (List (List Int))) => some (.next s151)) x0 0 [([] : List Int)]) fun res20 => fin res20 fun (s159 : (List (List Int))) => some s159
theorem c_base_States {w : World} {A : Nat → Prop} (hA : ∀ k, A k → k < w.heap.size) {vx0 : Value} {x0 : List Int} (hx0 : Vb w A vx0 x0) {r : (List (List Int))} (hm : m_base_States x0 = some r) :
    Fn Try.prog 26 [vx0] w fun v w' => Ext w w' ∧ Vb w' (upA A w w') v r := by
 obtain ⟨O, hB, hA0⟩ := enter hA
 replace hx0 := hx0.mono hA0
 obtain ⟨A2, c3, rfl⟩ := hx0.form
 refine fn_enter Try.func26 rfl Try.ntmps26 rfl ?_
 unfold m_base_States at hm
 refine ewp_seq (ewp_region (o_as rfl rfl (o_z ?_)))
 refine ewp_seq (ewp_region (l_bslice 2 (by decide) O (xs := (([] : List Int) : List Int)) rfl rfl rfl rfl trivial (by decide) (by decide) rfl fun g4 w5 O6 S7 h8 => ?_))
 obtain ⟨O10, S11, h8⟩ := h8.freeze
 refine l_bslice 3 (by decide) O10 (xs := ([([] : List Int)] : List (List Int))) rfl rfl rfl rfl ⟨h8, trivial⟩ (by decide) (by decide) rfl fun g12 w13 O14 S15 h16 => ?_
 refine o_as rfl rfl (o_z ?_)
 refine ewp_seq (ewp_seq (ewp_region (o_mv rfl rfl (o_ln rfl rfl ?_))))
 replace hx0 := ((hx0.st S7).st S11).st S15
 have l19 : x0.length ≤ 9223372036854775807 := Nat.le_trans hx0.len.2.1 hx0.len.2.2
 have r18 : inI64 (x0.length : Int) := rngNat l19
 refine o_mv rfl rfl (o_z ?_)
 obtain ⟨res20, hL21, hm⟩ := bs hm
 refine ewp_join (aft res20 (fun (s22 : (List (List Int))) (x23 : (Option Addr × Nat)) => [(3, (.slice x23.1 s22.length x23.2))]) (fun s22 x23 w' => ∃ O' : Lab, Bs w A w' O' ∧ Vb w' (Fr 0 w' O') (.slice x23.1 s22.length x23.2) s22)) ?_ ?_
 ·
  refine ewp_block ?_
  obtain ⟨O37, S38, h16⟩ := h16.freeze
  replace hB := (((hB.st S7).st S11).st S15).st S38
  replace hx0 := hx0.st S38
  refine ewp_rng (σ := (List (List Int))) (X := (Option Addr × Nat)) (x0.length) hL21 rfl l19 (fun (s22 : (List (List Int))) (x23 : (Option Addr × Nat)) => [(3, (.slice x23.1 s22.length x23.2)), (12, (.slice A2 x0.length c3))]) _ (fun s22 x23 w' => ∃ O' : Lab, Bs w A w' O' ∧ Vb w' (Fr 0 w' O') (.slice x23.1 s22.length x23.2) s22 ∧ Vb w' (Fr 0 w' O') (.slice A2 x0.length c3) x0) _ ((some ⟨g12, 0, none⟩), 1) ⟨O37, hB, h16, hx0⟩ ⟨rfl, rfl, rfl, rfl, trivial⟩ (fun _ _ => ⟨rfl, rfl⟩) (fun _ _ => ⟨rfl, trivial⟩) (fun _ _ _ ⟨O', hB, h36, hx0⟩ => ⟨O', hB, h36⟩) ⟨rfl, rfl, rfl⟩ ⟨rfl, rfl⟩ ?_
  rintro k24 a25 s22 x23 w26 cc28 hx29 ⟨O27, hB, h36, hx0⟩ hf30 hret31 hbrk32
  have rk24 : inI64 (k24 : Int) := rngK hx29 l19
  refine ewp_seq (ewp_region ?_)
  obtain ⟨b39, o40, ce41, hA42, hl43, hd44, rfl, r46⟩ := hx0.elem' hx29
  refine o_iaE (hA := hA42) (hj := rfl) (hlt := hl43) rfl rfl rfl ?_
  refine o_ld (hc := cat0 hd44) rfl rfl ?_
  refine o_as rfl rfl (o_z ?_)
  refine ewp_seq (ewp_region (o_as rfl rfl (o_z ?_)))
  refine ewp_seq (ewp_seq (ewp_region (o_mv rfl rfl (o_ln rfl rfl ?_))))
  have l48 : s22.length ≤ 9223372036854775807 := Nat.le_trans h36.len.2.1 h36.len.2.2
  have r47 : inI64 (s22.length : Int) := rngNat l48
  refine o_mv rfl rfl (o_z ?_)
  obtain ⟨res49, hL50, hf30⟩ := bs hf30
  refine ewp_join (aft res49 (fun (s51 : (List (List Int))) (x52 : (Option Addr × Nat)) => [(6, (.slice x52.1 s51.length x52.2)), (12, (.slice A2 x0.length c3)), (13, (.int .i64 (x0.length : Int))), (14, (.int .i64 (k24 : Int)))]) (fun s51 x52 w' => ∃ O' : Lab, Bs w A w' O' ∧ Rw 5 w' O' 22 (.slice x52.1 s51.length x52.2) s51 ∧ Vb w' (Fr 0 w' O') (.slice A2 x0.length c3) x0)) ?_ ?_
  ·
   refine ewp_block (ewp_rng (σ := (List (List Int))) (X := (Option Addr × Nat)) (s22.length) hL50 rfl l48 (fun (s51 : (List (List Int))) (x52 : (Option Addr × Nat)) => [(5, (.int .i64 a25)), (6, (.slice x52.1 s51.length x52.2)), (12, (.slice A2 x0.length c3)), (13, (.int .i64 (x0.length : Int))), (14, (.int .i64 (k24 : Int))), (18, (.slice x23.1 s22.length x23.2))]) _ (fun s51 x52 w' => ∃ O' : Lab, Bs w A w' O' ∧ Rw 5 w' O' 22 (.slice x52.1 s51.length x52.2) s51 ∧ Vb w' (Fr 0 w' O') (.slice A2 x0.length c3) x0 ∧ Vb w' (Fr 0 w' O') (.slice x23.1 s22.length x23.2) s22) _ (none, 0) ⟨O27, hB, (Rw.nil 5 (by decide)), hx0, h36⟩ ⟨rfl, rfl, rfl, rfl, rfl, rfl, rfl, rfl, trivial⟩ (fun _ _ => ⟨rfl, rfl⟩) (fun _ _ => ⟨rfl, rfl, rfl, rfl, trivial⟩) (fun _ _ _ ⟨O', hB, h66, hx0, h36⟩ => ⟨O', hB, h66, hx0⟩) ⟨rfl, rfl, rfl⟩ ⟨rfl, rfl⟩ ?_)
   rintro k53 a54 s51 x52 w55 cc57 hx58 ⟨O56, hB, h66, hx0, h36⟩ hf59 hret60 hbrk61
   have rk53 : inI64 (k53 : Int) := rngK hx58 l48
   refine ewp_seq (ewp_region ?_)
   obtain ⟨b68, o69, ce70, hA71, hl72, hd73, v75, rfl, h76⟩ := h36.elem' hx58
   replace h76 := Vb.of_slice h76
   obtain ⟨A77, c78, rfl⟩ := h76.form
   refine o_iaE (hA := hA71) (hj := rfl) (hlt := hl72) rfl rfl rfl ?_
   refine o_ld (hc := cat0 hd73) rfl rfl ?_
   refine o_as rfl rfl (o_z ?_)
   refine ewp_seq (ewp_region (o_mv rfl rfl (o_mv rfl rfl (o_z ?_))))
   obtain ⟨N92, hN93, hf59⟩ := bs hf59
   replace hN93 := natI_some hN93
   obtain ⟨res79, hL80, hf59⟩ := bs hf59
   refine ewp_join (aft res79 (fun (s81 : (List (List Int))) (x82 : (Option Addr × Nat)) => [(5, (.int .i64 a25)), (6, (.slice x82.1 s81.length x82.2)), (12, (.slice A2 x0.length c3)), (13, (.int .i64 (x0.length : Int))), (14, (.int .i64 (k24 : Int))), (18, (.slice x23.1 s22.length x23.2)), (19, (.int .i64 (s22.length : Int))), (20, (.int .i64 (k53 : Int)))]) (fun s81 x82 w' => ∃ O' : Lab, Bs w A w' O' ∧ Rw 5 w' O' 22 (.slice x82.1 s81.length x82.2) s81 ∧ Vb w' (Fr 0 w' O') (.slice A2 x0.length c3) x0 ∧ Vb w' (Fr 0 w' O') (.slice x23.1 s22.length x23.2) s22)) ?_ ?_
   ·
    refine ewp_block (ewp_rngN (σ := (List (List Int))) (X := (Option Addr × Nat)) N92 hL80 (natI_le hN93 r46) (fun (s81 : (List (List Int))) (x82 : (Option Addr × Nat)) => [(5, (.int .i64 a25)), (6, (.slice x82.1 s81.length x82.2)), (8, (.slice A77 a54.length c78)), (12, (.slice A2 x0.length c3)), (13, (.int .i64 (x0.length : Int))), (14, (.int .i64 (k24 : Int))), (18, (.slice x23.1 s22.length x23.2)), (19, (.int .i64 (s22.length : Int))), (20, (.int .i64 (k53 : Int)))]) _ (fun s81 x82 w' => ∃ O' : Lab, Bs w A w' O' ∧ Rw 5 w' O' 22 (.slice x82.1 s81.length x82.2) s81 ∧ Vb w' (Fr 0 w' O') (.slice A77 a54.length c78) a54 ∧ Vb w' (Fr 0 w' O') (.slice A2 x0.length c3) x0 ∧ Vb w' (Fr 0 w' O') (.slice x23.1 s22.length x23.2) s22) _ (x52.1, x52.2) ⟨O56, hB, h66, h76, hx0, h36⟩ ⟨rfl, (congrArg (fun z => some (Value.int .i64 z)) hN93), rfl, rfl, rfl, rfl, rfl, rfl, rfl, rfl, rfl, trivial⟩ (fun _ _ => ⟨rfl, rfl⟩) (fun _ _ => ⟨rfl, rfl, rfl, rfl, rfl, rfl, rfl, rfl, trivial⟩) (fun _ _ _ ⟨O', hB, h96, h76, hx0, h36⟩ => ⟨O', hB, h96, hx0, h36⟩) ⟨rfl, rfl, rfl⟩ ⟨rfl, rfl⟩ ?_)
    rintro k83 s81 x82 w85 cc87 hx88 ⟨O86, hB, h96, h76, hx0, h36⟩ hf89 hret90 hbrk91
    have rk83 : inI64 (k83 : Int) := rngKN hx88 (natI_le hN93 r46)
    refine ewp_seq (ewp_region (o_mv rfl rfl (o_as rfl rfl (o_z ?_))))
    refine ewp_region (o_mv rfl rfl (l_bslice 4 (by decide) O86 (xs := (([] : List Int) : List Int)) rfl rfl rfl rfl trivial (by decide) (by decide) rfl fun g98 w99 O100 S101 h102 => ?_))
    refine o_mv rfl rfl ?_
    obtain ⟨u104, e105, hf89⟩ := bs hf89
    obtain ⟨e105, e106, e107⟩ := appI_some e105
    replace h76 := h76.st S101
    refine l_append rfl h102 (h76.rd) rfl rfl (by decide) e106 e107 rfl fun A108 c109 w110 O111 S112 h113 => ?_
    rw [← e105] at h113 ⊢
    refine o_mv rfl rfl ?_
    obtain ⟨u115, e116, hf89⟩ := bs hf89
    obtain ⟨e116, e117, e118⟩ := appI_some e116
    refine l_append1 rfl (a := (k83 : Int)) h113 (vInt rk83) (fun _ => rfl) rfl (by decide) (by decide) e117 e118 ⟨rfl, rfl⟩ fun g119 A120 c121 w122 O123 S124 h125 => ?_
    rw [← e116] at h125 ⊢
    obtain ⟨O127, S128, h125⟩ := h125.freeze
    obtain ⟨u129, e130, hf89⟩ := bs hf89
    obtain ⟨e130, e131, e132⟩ := appI_some e130
    replace h96 := (((h96.st S101).st S112).st S124).st S128
    refine l_append1 rfl (a := u115) h96 h125 (fun _ => rfl) rfl (by decide) (by decide) e131 e132 ⟨rfl, rfl⟩ fun g133 A134 c135 w136 O137 S138 h139 => ?_
    rw [← e130] at h139 ⊢
    refine o_as rfl rfl (o_z ?_)
    obtain rfl := sm hf89
    refine (?_ : Exists _)
    replace hB := ((((hB.st S101).st S112).st S124).st S128).st S138
    replace hx0 := ((((hx0.st S101).st S112).st S124).st S128).st S138
    replace h36 := ((((h36.st S101).st S112).st S124).st S128).st S138
    replace h76 := (((h76.st S112).st S124).st S128).st S138
    exact ⟨_, (A134, c135), rfl, ⟨rfl, rfl, rfl, rfl, rfl, rfl, rfl, rfl, rfl, rfl, rfl, trivial⟩, _, hB, h139, h76, hx0, h36⟩
   rintro l141 w142 ⟨s145, x146, rfl, hs144, O143, hB, h96, hx0, h36⟩
   replace hf59 := fin_done hf59
   obtain rfl := sm hf59
   refine (?_ : Exists _)
   exact ⟨_, (x146.1, x146.2), rfl, ⟨(subs_lk hs144 _ _ rfl), (subs_lk hs144 _ _ rfl), (subs_lk hs144 _ _ rfl), (subs_lk hs144 _ _ rfl), (subs_lk hs144 _ _ rfl), (subs_lk hs144 _ _ rfl), (subs_lk hs144 _ _ rfl), (subs_lk hs144 _ _ rfl), trivial⟩, _, hB, h96, hx0, h36⟩
  rintro l147 w148 ⟨s151, x152, rfl, hs150, O149, hB, h66, hx0⟩
  replace hf30 := fin_done hf30
  refine ewp_sub _ hs150 ?_
  refine ewp_region (o_mv rfl rfl (o_as rfl rfl (o_z ?_)))
  obtain ⟨O153, S154, h66⟩ := h66.freeze
  obtain rfl := sm hf30
  refine (?_ : Exists _)
  replace hB := hB.st S154
  replace hx0 := hx0.st S154
  exact ⟨_, (x152.1, x152.2), rfl, ⟨rfl, rfl, rfl, rfl, trivial⟩, _, hB, h66, hx0⟩
 replace hB := ((hB.st S7).st S11).st S15
 rintro l155 w156 ⟨s159, x160, rfl, hs158, O157, hB, h36⟩
 replace hm := fin_done hm
 refine ewp_sub _ hs158 ?_
 refine ewp_seq (ewp_region (o_mv rfl rfl (o_as rfl rfl (o_z ?_))))
 refine ewp_ret ?_
 obtain rfl := sm hm
 exact ret1v rfl (res_tmp rfl) ⟨hB.ext, (Vb.mono (F := Fr 0 w156 O157) h36 hB.out)⟩
noncomputable def m_base_Apply (x0 : Tsk) (x1 : List Int) (x2 : Int) : Option ((List Int) × Bool) :=
  bnd (if x2 < 0 then (some true) else (if (x0.ops.length : Int) ≤ x2 then (some true) else (bnd (atI x0.ops x2) fun a36 => bnd (m_base_Holds a36.pre x1) fun q57 => if q57 = true then some false else some true)) : Option Bool) fun y28 => if y28 = true then (some (([] : List Int), false)) else (bnd (appI 8 ([] : List Int) x1) fun u75 => bnd (atI x0.ops x2) fun a86 => bnd (rng (ρ := (List Int) × Bool) (fun (k113 : Nat) (a114 : Eff) (s111 : (List Int)) => bnd (m_base_Holds a114.cond x1) fun q148 => if q148 = true then bnd (atI s111 a114.var) fun a155 => some (.next (s111.set (a114.var : Int).toNat a114.val)) else some (.next s111)) a86.effs 0 u75) fun res109 => fin res109 fun (s173 : (List Int)) => some (s173, true))
theorem c_base_Apply {w : World} {A : Nat → Prop} (hA : ∀ k, A k → k < w.heap.size) {vx0 : Value} {x0 : Tsk} (hx0 : Vb w A vx0 x0) {vx1 : Value} {x1 : List Int} (hx1 : Vb w A vx1 x1) {x2 : Int} (rx2 : inI64 x2) {r : (List Int) × Bool} (hm : m_base_Apply x0 x1 x2 = some r) :
    Fn Try.prog 35 [vx0, vx1, (.int .i64 x2)] w fun v w' => Ext w w' ∧ T2 w' (upA A w w') v r := by
 obtain ⟨O, hB, hA0⟩ := enter hA
 replace hx0 := hx0.mono hA0
 obtain ⟨cs4, rfl, v5, v6, v7, v8, rfl, h9, h12, h15, h18⟩ := hx0
 obtain ⟨A10, c11, rfl⟩ := h9.form
 obtain ⟨A13, c14, rfl⟩ := h12.form
 obtain ⟨A16, c17, rfl⟩ := h15.form
 obtain ⟨A19, c20, rfl⟩ := h18.form
 replace hx1 := hx1.mono hA0
 obtain ⟨A21, c22, rfl⟩ := hx1.form
 refine fn_enter Try.func35 rfl Try.ntmps35 rfl ?_
 unfold m_base_Apply at hm
 refine ewp_seq (ewp_region (l_box 2 O rfl rfl fun g23 w24 O25 S26 h27 => ?_))
 replace h27 : Lc 2 w24 O25 g23 26 [(.slice A10 x0.vars.length c11), (.slice A13 x0.init.length c14), (.slice A16 x0.goal.length c17), (.slice A19 x0.ops.length c20)] := h27
 refine o_as rfl rfl (o_as rfl rfl (o_z ?_))
 refine ewp_seq (ewp_seq ?_)
 obtain ⟨y28, hy29, hm⟩ := bs hm
 refine ewp_join (fun l' w' => ∃ (x31 : Unit) (O' : Lab), subs l' [(1, (.slice A21 x1.length c22)), (2, (.int .i64 x2)), (3, (.pointer (some ⟨g23, 0, none⟩))), (30, (.bool y28))] ∧ Bs w A w' O' ∧ Vb w' (Fr 0 w' O') (.slice A21 x1.length c22) x1 ∧ Lc 2 w' O' g23 26 [(.slice A10 x0.vars.length c11), (.slice A13 x0.init.length c14), (.slice A16 x0.goal.length c17), (.slice A19 x0.ops.length c20)] ∧ Vb w' (Fr 0 w' O') (.slice A10 x0.vars.length c11) x0.vars ∧ Vb w' (Fr 0 w' O') (.slice A13 x0.init.length c14) x0.init ∧ Vb w' (Fr 0 w' O') (.slice A16 x0.goal.length c17) x0.goal ∧ Vb w' (Fr 0 w' O') (.slice A19 x0.ops.length c20) x0.ops) ?_ ?_
 ·
  refine ewp_region (o_mv rfl rfl (o_ltS rfl rfl rfl (fun c32 => ?_) fun c32 => ?_))
  ·
   replace hy29 := ip hy29 c32
   refine o_mv rfl rfl (owp_no rfl rfl rfl rfl (owp_no rfl rfl rfl rfl (owp_no rfl rfl rfl rfl (owp_no rfl rfl rfl rfl (owp_no rfl rfl rfl rfl (o_pt rfl rfl rfl (o_mv rfl rfl (owp_no rfl rfl rfl rfl (owp_no rfl rfl rfl rfl (owp_no rfl rfl rfl rfl (owp_no rfl rfl rfl rfl (owp_no rfl rfl rfl rfl (owp_no rfl rfl rfl rfl (owp_no rfl rfl rfl rfl ?_))))))))))))))
   refine owp_no rfl rfl rfl rfl (owp_no rfl rfl rfl rfl (o_pt rfl rfl rfl (o_z ?_)))
   obtain rfl := sm hy29
   replace hB := hB.st S26
   replace hx1 := hx1.st S26
   replace h9 := h9.st S26
   replace h12 := h12.st S26
   replace h15 := h15.st S26
   replace h18 := h18.st S26
   exact ⟨(), _, ⟨rfl, rfl, rfl, rfl, trivial⟩, hB, hx1, h27, h9, h12, h15, h18⟩
  ·
   replace hy29 := im hy29 c32
   refine o_mv rfl rfl (owp_yes rfl rfl (o_mv rfl rfl (owp_yes rfl rfl (o_fa rfl rfl (owp_yes rfl rfl (o_ld (hc := Blk.cell (i := 3) (h27.1) rfl) rfl rfl ?_))))))
   refine owp_yes rfl rfl (o_ln rfl rfl ?_)
   replace h18 := h18.st S26
   have l34 : x0.ops.length ≤ 9223372036854775807 := Nat.le_trans h18.len.2.1 h18.len.2.2
   have r33 : inI64 (x0.ops.length : Int) := rngNat l34
   refine owp_yes rfl rfl (o_geS rfl rfl rfl (fun c35 => ?_) fun c35 => ?_)
   ·
    replace hy29 := ip hy29 c35
    refine o_pf rfl rfl rfl (o_mv rfl rfl (owp_no rfl rfl rfl rfl (owp_no rfl rfl rfl rfl (owp_no rfl rfl rfl rfl (owp_no rfl rfl rfl rfl (owp_no rfl rfl rfl rfl (owp_no rfl rfl rfl rfl (owp_no rfl rfl rfl rfl (owp_no rfl rfl rfl rfl (owp_no rfl rfl rfl rfl (o_pt rfl rfl rfl (o_z ?_))))))))))))
    obtain rfl := sm hy29
    replace hB := hB.st S26
    replace hx1 := hx1.st S26
    replace h9 := h9.st S26
    replace h12 := h12.st S26
    replace h15 := h15.st S26
    exact ⟨(), _, ⟨rfl, rfl, rfl, rfl, trivial⟩, hB, hx1, h27, h9, h12, h15, h18⟩
   ·
    replace hy29 := im hy29 c35
    refine o_pf rfl rfl rfl (o_mv rfl rfl (owp_yes rfl rfl (o_fa rfl rfl (owp_yes rfl rfl (o_ld (hc := Blk.cell (i := 3) (h27.1) rfl) rfl rfl ?_)))))
    refine owp_yes rfl rfl (o_mv rfl rfl (owp_yes rfl rfl ?_))
    obtain ⟨a36, e37, hy29⟩ := bs hy29
    obtain ⟨p39, x38⟩ := atI_some' e37
    obtain ⟨b40, o41, ce42, hA43, hl44, hd45, v47, v48, rfl, h49, h52, r55, z56⟩ := h18.elem' x38
    obtain ⟨A50, c51, rfl⟩ := h49.form
    obtain ⟨A53, c54, rfl⟩ := h52.form
    refine o_iaE (hA := hA43) (hj := (Int.toNat_of_nonneg p39).symm) (hlt := hl44) rfl rfl rfl ?_
    refine owp_yes rfl rfl (o_fa rfl rfl (owp_yes rfl rfl (o_ld (hc := cat2 hd45) rfl rfl ?_)))
    refine owp_yes rfl rfl (o_mv rfl rfl (owp_yes rfl rfl ?_))
    obtain ⟨q57, e58, hy29⟩ := bs hy29
    replace hx1 := hx1.st S26
    refine l_callA (O := O25) (A := All w24) (R := fun w' F v => Vb w' F v q57) (c_base_Holds (fun _ h => h) (Vb.mono (F := Fr 0 w24 O25) h49 Fr.lt) (Vb.mono (F := Fr 0 w24 O25) hx1 Fr.lt) e58) rfl rfl fun v63 w59 O60 S61 h62 => ?_
    obtain rfl := h62.bool
    cases q57
    case false =>
     replace hy29 := iF hy29
     refine owp_yes rfl rfl (o_nf rfl rfl (o_pf rfl rfl rfl (o_z ?_)))
     obtain rfl := sm hy29
     replace hB := (hB.st S26).st S61
     replace hx1 := hx1.st S61
     replace h9 := (h9.st S26).st S61
     replace h12 := (h12.st S26).st S61
     replace h15 := (h15.st S26).st S61
     replace h18 := h18.st S61
     replace h27 := h27.st S61
     exact ⟨(), _, ⟨rfl, rfl, rfl, rfl, trivial⟩, hB, hx1, h27, h9, h12, h15, h18⟩
    replace hy29 := iT hy29
    refine owp_yes rfl rfl (o_nt rfl rfl (o_pf rfl rfl rfl (o_z ?_)))
    obtain rfl := sm hy29
    replace hB := (hB.st S26).st S61
    replace hx1 := hx1.st S61
    replace h9 := (h9.st S26).st S61
    replace h12 := (h12.st S26).st S61
    replace h15 := (h15.st S26).st S61
    replace h18 := h18.st S61
    replace h27 := h27.st S61
    exact ⟨(), _, ⟨rfl, rfl, rfl, rfl, trivial⟩, hB, hx1, h27, h9, h12, h15, h18⟩
 replace hB := hB.st S26
 replace hx1 := hx1.st S26
 replace h9 := h9.st S26
 replace h12 := h12.st S26
 replace h15 := h15.st S26
 replace h18 := h18.st S26
 rintro l64 w65 ⟨x31, O66, hs67, hB, hx1, h27, h9, h12, h15, h18⟩
 refine ewp_sub _ hs67 ?_
 refine ewp_cond rfl (fun c68 => ?_) (fun c68 => ?_)
 ·
  replace hm := ip hm c68
  refine ewp_seq (ewp_region (o_as rfl rfl (o_as rfl rfl (o_z ?_))))
  refine ewp_ret ?_
  obtain rfl := sm hm
  exact ret2 rfl (res_tmp rfl) (res_tmp rfl) ⟨hB.ext, _, _, rfl, (Vb.mono (F := Fr 0 w65 O66) (Vb.nil _ _) hB.out), vBool⟩
 ·
  replace hm := im' hm c68
  refine ewp_skip (ewp_seq (ewp_region (l_bslice 3 (by decide) O66 (xs := (([] : List Int) : List Int)) rfl rfl rfl rfl trivial (by decide) (by decide) rfl fun g69 w70 O71 S72 h73 => ?_)))
  refine o_mv rfl rfl ?_
  obtain ⟨u75, e76, hm⟩ := bs hm
  obtain ⟨e76, e77, e78⟩ := appI_some e76
  replace hx1 := hx1.st S72
  refine l_append rfl h73 (hx1.rd) rfl rfl (by decide) e77 e78 rfl fun A79 c80 w81 O82 S83 h84 => ?_
  rw [← e76] at h84 ⊢
  refine o_as rfl rfl (o_z ?_)
  refine ewp_seq (ewp_seq (ewp_region (o_fa rfl rfl ?_)))
  replace h27 := (h27.st S72).st S83
  refine o_ld (hc := Blk.cell (i := 3) (h27.1) rfl) rfl rfl ?_
  refine o_mv rfl rfl ?_
  obtain ⟨a86, e87, hm⟩ := bs hm
  obtain ⟨p89, x88⟩ := atI_some' e87
  replace h18 := (h18.st S72).st S83
  obtain ⟨b90, o91, ce92, hA93, hl94, hd95, v97, v98, rfl, h99, h102, r105, z106⟩ := h18.elem' x88
  obtain ⟨A100, c101, rfl⟩ := h99.form
  obtain ⟨A103, c104, rfl⟩ := h102.form
  refine o_iaE (hA := hA93) (hj := (Int.toNat_of_nonneg p89).symm) (hlt := hl94) rfl rfl rfl ?_
  refine o_fa rfl rfl (o_ld (hc := cat3 hd95) rfl rfl ?_)
  refine o_ln rfl rfl ?_
  have l108 : a86.effs.length ≤ 9223372036854775807 := Nat.le_trans h102.len.2.1 h102.len.2.2
  have r107 : inI64 (a86.effs.length : Int) := rngNat l108
  refine o_mv rfl rfl (o_z ?_)
  obtain ⟨res109, hL110, hm⟩ := bs hm
  refine ewp_join (aft res109 (fun (s111 : (List Int)) (x112 : Unit) => [(8, (.slice A79 u75.length c80))]) (fun s111 x112 w' => ∃ O' : Lab, Bs w A w' O' ∧ Rw 3 w' O' 3 (.slice A79 u75.length c80) s111)) ?_ ?_
  ·
   refine ewp_block ?_
   replace hB := (hB.st S72).st S83
   replace hx1 := hx1.st S83
   refine ewp_rng (σ := (List Int)) (X := Unit) (a86.effs.length) hL110 rfl l108 (fun (s111 : (List Int)) (x112 : Unit) => [(1, (.slice A21 x1.length c22)), (8, (.slice A79 u75.length c80)), (39, (.slice A103 a86.effs.length c104))]) _ (fun s111 x112 w' => ∃ O' : Lab, Bs w A w' O' ∧ Vb w' (Fr 0 w' O') (.slice A21 x1.length c22) x1 ∧ Rw 3 w' O' 3 (.slice A79 u75.length c80) s111 ∧ Vb w' (Fr 0 w' O') (.slice A103 a86.effs.length c104) a86.effs) _ () ⟨O82, hB, hx1, h84, h102⟩ ⟨rfl, rfl, rfl, rfl, rfl, trivial⟩ (fun _ _ => ⟨rfl, rfl⟩) (fun _ _ => ⟨rfl, trivial⟩) (fun _ _ _ ⟨O', hB, hx1, h126, h102⟩ => ⟨O', hB, h126⟩) ⟨rfl, rfl, rfl⟩ ⟨rfl, rfl⟩ ?_
   rintro k113 a114 s111 x112 w115 cc117 hx118 ⟨O116, hB, hx1, h126, h102⟩ hf119 hret120 hbrk121
   have rk113 : inI64 (k113 : Int) := rngK hx118 l108
   refine ewp_seq (ewp_region ?_)
   obtain ⟨b128, o129, ce130, hA131, hl132, hd133, v135, rfl, h136, r139, r140⟩ := h102.elem' hx118
   obtain ⟨A137, c138, rfl⟩ := h136.form
   refine o_iaE (hA := hA131) (hj := rfl) (hlt := hl132) rfl rfl rfl ?_
   refine o_la (hl := rfl) (hc := hd133) rfl rfl ?_
   refine l_alloc 4 O116 rfl fun g141 w142 O143 S144 h145 => ?_
   refine l_store h145 rfl rfl rfl (Nat.le_of_ble_eq_true rfl) (by first | exact allOne rfl | simp [Value.cells, Value.oneCell', errV_one]) fun w146 S147 h145 => ?_
   replace h145 : Lc 4 w146 O143 g141 74 [(.slice A137 a114.cond.length c138), (.int .i64 a114.var), (.int .i64 a114.val)] := h145
   refine o_z ?_
   refine ewp_seq (ewp_region (o_fa rfl rfl (o_ld (hc := Blk.cell (i := 0) (h145.1) rfl) rfl rfl ?_)))
   refine o_mv rfl rfl ?_
   obtain ⟨q148, e149, hf119⟩ := bs hf119
   replace hx1 := (hx1.st S144).st S147
   replace h136 := (h136.st S144).st S147
   refine l_callA (O := O143) (A := All w146) (R := fun w' F v => Vb w' F v q148) (c_base_Holds (fun _ h => h) (Vb.mono (F := Fr 0 w146 O143) h136 Fr.lt) (Vb.mono (F := Fr 0 w146 O143) hx1 Fr.lt) e149) rfl rfl fun v154 w150 O151 S152 h153 => ?_
   obtain rfl := h153.bool
   cases q148
   case false =>
    replace hf119 := iF hf119
    refine o_z ?_
    refine ewp_false rfl (ewp_skip ?_)
    obtain rfl := sm hf119
    refine (?_ : Exists _)
    replace hB := ((hB.st S144).st S147).st S152
    replace hx1 := hx1.st S152
    replace h102 := ((h102.st S144).st S147).st S152
    replace h126 := ((h126.st S144).st S147).st S152
    exact ⟨_, (), rfl, ⟨rfl, rfl, rfl, rfl, rfl, trivial⟩, _, hB, hx1, h126, h102⟩
   replace hf119 := iT hf119
   refine o_z ?_
   refine ewp_true rfl (ewp_region (o_mv rfl rfl (o_fa rfl rfl ?_)))
   replace h145 := h145.st S152
   refine o_ld (hc := Blk.cell (i := 1) (h145.1) rfl) rfl rfl ?_
   refine o_fa rfl rfl (o_ld (hc := Blk.cell (i := 2) (h145.1) rfl) rfl rfl ?_)
   obtain ⟨a155, e156, hf119⟩ := bs hf119
   obtain ⟨p158, x157⟩ := atI_some' e156
   replace h126 := ((h126.st S144).st S147).st S152
   obtain ⟨b159, o160, ce161, hA162, hl163, hd164, rfl, r166⟩ := h126.elem x157
   refine o_iaE (hA := hA162) (hj := (Int.toNat_of_nonneg p158).symm) (hlt := hl163) rfl rfl rfl ?_
   refine l_setE rfl h126 (a := a114.val) (vInt r140) hA162 rfl rfl (lt_of_get x157) fun w167 S168 h126 => ?_
   refine o_z ?_
   obtain rfl := sm hf119
   refine (?_ : Exists _)
   replace hB := (((hB.st S144).st S147).st S152).st S168
   replace hx1 := (hx1.st S152).st S168
   replace h102 := (((h102.st S144).st S147).st S152).st S168
   exact ⟨_, (), rfl, ⟨rfl, rfl, rfl, rfl, rfl, trivial⟩, _, hB, hx1, h126, h102⟩
  replace hB := (hB.st S72).st S83
  rintro l169 w170 ⟨s173, x174, rfl, hs172, O171, hB, h126⟩
  replace hm := fin_done hm
  refine ewp_sub _ hs172 ?_
  refine ewp_seq (ewp_region (o_mv rfl rfl (o_as rfl rfl (o_as rfl rfl (o_z ?_)))))
  refine ewp_ret ?_
  obtain ⟨O175, S176, h126⟩ := h126.freeze
  obtain rfl := sm hm
  replace hB := hB.st S176
  exact ret2 rfl (res_tmp rfl) (res_tmp rfl) ⟨hB.ext, _, _, rfl, (Vb.mono (F := Fr 0 w170 O175) h126 hB.out), vBool⟩
noncomputable def m_base_Rank (x0 : List Int) (x1 : List Int) : Option Int :=
  bnd (rng (ρ := Int) (fun (k13 : Nat) (a14 : Int) (s11 : Int) => bnd (x0[k13]?) fun a26 => bnd (chkI (s11 * a26)) fun n36 => bnd (chkI (n36 + a14)) fun n47 => some (.next n47)) x1 0 0) fun res9 => fin res9 fun (s54 : Int) => some s54
theorem c_base_Rank {w : World} {A : Nat → Prop} (hA : ∀ k, A k → k < w.heap.size) {vx0 : Value} {x0 : List Int} (hx0 : Vb w A vx0 x0) {vx1 : Value} {x1 : List Int} (hx1 : Vb w A vx1 x1) {r : Int} (hm : m_base_Rank x0 x1 = some r) :
    Fn Try.prog 33 [vx0, vx1] w fun v w' => Ext w w' ∧ Vb w' (upA A w w') v r := by
 obtain ⟨O, hB, hA0⟩ := enter hA
 replace hx0 := hx0.mono hA0
 obtain ⟨A3, c4, rfl⟩ := hx0.form
 replace hx1 := hx1.mono hA0
 obtain ⟨A5, c6, rfl⟩ := hx1.form
 refine fn_enter Try.func33 rfl Try.ntmps33 rfl ?_
 unfold m_base_Rank at hm
 refine ewp_seq (ewp_region (o_as rfl rfl (o_z ?_)))
 refine ewp_seq (ewp_region (o_as rfl rfl (o_z ?_)))
 refine ewp_seq (ewp_seq (ewp_region (o_mv rfl rfl (o_ln rfl rfl ?_))))
 have l8 : x1.length ≤ 9223372036854775807 := Nat.le_trans hx1.len.2.1 hx1.len.2.2
 have r7 : inI64 (x1.length : Int) := rngNat l8
 refine o_mv rfl rfl (o_z ?_)
 obtain ⟨res9, hL10, hm⟩ := bs hm
 refine ewp_join (aft res9 (fun (s11 : Int) (x12 : Unit) => [(5, (.int .i64 s11))]) (fun s11 x12 w' => ∃ O' : Lab, Bs w A w' O' ∧ inI64 s11)) ?_ ?_
 ·
  refine ewp_block (ewp_rng (σ := Int) (X := Unit) (x1.length) hL10 rfl l8 (fun (s11 : Int) (x12 : Unit) => [(0, (.slice A3 x0.length c4)), (1, (.slice A5 x1.length c6)), (5, (.int .i64 s11))]) _ (fun s11 x12 w' => ∃ O' : Lab, Bs w A w' O' ∧ Vb w' (Fr 0 w' O') (.slice A3 x0.length c4) x0 ∧ Vb w' (Fr 0 w' O') (.slice A5 x1.length c6) x1 ∧ inI64 s11) _ () ⟨O, hB, hx0, hx1, (show inI64 (0) from by decide)⟩ ⟨rfl, rfl, rfl, rfl, rfl, trivial⟩ (fun _ _ => ⟨rfl, rfl⟩) (fun _ _ => ⟨rfl, trivial⟩) (fun _ _ _ ⟨O', hB, hx0, hx1, r25⟩ => ⟨O', hB, r25⟩) ⟨rfl, rfl, rfl⟩ ⟨rfl, rfl⟩ ?_)
  rintro k13 a14 s11 x12 w15 cc17 hx18 ⟨O16, hB, hx0, hx1, r25⟩ hf19 hret20 hbrk21
  have rk13 : inI64 (k13 : Int) := rngK hx18 l8
  refine ewp_seq (ewp_region (o_mv rfl rfl (o_as rfl rfl (o_z ?_))))
  refine ewp_draw (· = w15) [(0, true), (1, true), (2, true), (3, true), (4, true), (5, true), (6, true), (7, true), (8, true), (9, true), (10, true), (11, true)] (by kernel_rfl) rfl (by kernel_rfl) rfl ?_
  refine h_mv rfl rfl rfl (h_mv rfl rfl rfl (h_mv rfl rfl rfl ?_))
  obtain ⟨a26, e27, hf19⟩ := bs hf19
  obtain ⟨b28, o29, ce30, hA31, hl32, hd33, rfl, r35⟩ := hx0.elem' e27
  refine h_iaE (hA := hA31) (hj := rfl) (hlt := hl32) rfl rfl rfl rfl ?_
  refine h_ldA (hc := cat0 hd33) rfl rfl rfl ?_
  obtain ⟨n36, e37, hf19⟩ := bs hf19
  have r38 := (chkI_rng e37)
  refine h_mlE (he := e37) rfl rfl rfl rfl ?_
  refine h_mv rfl rfl rfl (h_mv rfl rfl rfl ?_)
  obtain ⟨b39, o40, ce41, hA42, hl43, hd44, rfl, r46⟩ := hx1.elem' hx18
  refine h_iaE (hA := hA42) (hj := rfl) (hlt := hl43) rfl rfl rfl rfl ?_
  refine h_ldA (hc := cat0 hd44) rfl rfl rfl ?_
  obtain ⟨n47, e48, hf19⟩ := bs hf19
  have r49 := (chkI_rng e48)
  refine h_adE (he := e48) rfl rfl rfl rfl ?_
  refine h_as rfl rfl rfl (h_z ?_)
  obtain rfl := sm hf19
  refine (?_ : Exists _)
  exact ⟨_, (), rfl, ⟨rfl, rfl, rfl, rfl, rfl, trivial⟩, _, hB, hx0, hx1, r49⟩
 rintro l50 w51 ⟨s54, x55, rfl, hs53, O52, hB, r25⟩
 replace hm := fin_done hm
 refine ewp_sub _ hs53 ?_
 refine ewp_seq (ewp_region (o_mv rfl rfl (o_as rfl rfl (o_z ?_))))
 refine ewp_ret ?_
 obtain rfl := sm hm
 exact ret1v rfl (res_tmp rfl) ⟨hB.ext, (vInt r25)⟩
noncomputable def m_base_Edges (x0 : Tsk) : Option (List Edg) :=
  bnd (m_base_States x0.vars) fun q24 => bnd (rng (ρ := (List Edg)) (fun (k39 : Nat) (a40 : List Int) (s37 : (List Edg)) => bnd (rng (ρ := Ctl (List Edg) (List Edg)) (fun (k71 : Nat) (a72 : Opr) (s69 : (List Edg)) => bnd (m_base_Apply x0 a40 (k71 : Int)) fun q86 => if q86.2 = true then (bnd (m_base_Rank x0.vars q86.1) fun q100 => bnd (appI 24 s69 [(⟨(k39 : Int), (k71 : Int), q100⟩ : Edg)]) fun u108 => some (.next u108)) else (some (.next s69))) x0.ops 0 s37) fun res67 => fin res67 fun (s124 : (List Edg)) => some (.next s124)) q24 0 ([] : List Edg)) fun res35 => fin res35 fun (s130 : (List Edg)) => some s130
theorem c_base_Edges {w : World} {A : Nat → Prop} (hA : ∀ k, A k → k < w.heap.size) {vx0 : Value} {x0 : Tsk} (hx0 : Vb w A vx0 x0) {r : (List Edg)} (hm : m_base_Edges x0 = some r) :
    Fn Try.prog 62 [vx0] w fun v w' => Ext w w' ∧ Vb w' (upA A w w') v r := by
 obtain ⟨O, hB, hA0⟩ := enter hA
 replace hx0 := hx0.mono hA0
 obtain ⟨cs2, rfl, v3, v4, v5, v6, rfl, h7, h10, h13, h16⟩ := hx0
 obtain ⟨A8, c9, rfl⟩ := h7.form
 obtain ⟨A11, c12, rfl⟩ := h10.form
 obtain ⟨A14, c15, rfl⟩ := h13.form
 obtain ⟨A17, c18, rfl⟩ := h16.form
 refine fn_enter Try.func62 rfl Try.ntmps62 rfl ?_
 unfold m_base_Edges at hm
 refine ewp_seq (ewp_region (l_box 2 O rfl rfl fun g19 w20 O21 S22 h23 => ?_))
 replace h23 : Lc 2 w20 O21 g19 26 [(.slice A8 x0.vars.length c9), (.slice A11 x0.init.length c12), (.slice A14 x0.goal.length c15), (.slice A17 x0.ops.length c18)] := h23
 refine o_as rfl rfl (o_z ?_)
 refine ewp_seq (ewp_region (o_as rfl rfl (o_z ?_)))
 refine ewp_seq (ewp_seq (ewp_region (o_fa rfl rfl (o_ld (hc := Blk.cell (i := 0) (h23.1) rfl) rfl rfl ?_))))
 obtain ⟨q24, e25, hm⟩ := bs hm
 replace h7 := h7.st S22
 refine l_call (O := O21) (R := fun w' F v => Vb w' F v q24) (c_base_States Fr.lt h7 e25) rfl rfl fun v30 w26 O27 S28 h29 => ?_
 obtain ⟨A31, c32, rfl⟩ := h29.form
 refine o_ln rfl rfl ?_
 have l34 : q24.length ≤ 9223372036854775807 := Nat.le_trans h29.len.2.1 h29.len.2.2
 have r33 : inI64 (q24.length : Int) := rngNat l34
 refine o_mv rfl rfl (o_z ?_)
 obtain ⟨res35, hL36, hm⟩ := bs hm
 refine ewp_join (aft res35 (fun (s37 : (List Edg)) (x38 : (Option Addr × Nat)) => [(3, (.slice x38.1 s37.length x38.2))]) (fun s37 x38 w' => ∃ O' : Lab, Bs w A w' O' ∧ Rw 3 w' O' 96 (.slice x38.1 s37.length x38.2) s37)) ?_ ?_
 ·
  refine ewp_block ?_
  replace hB := (hB.st S22).st S28
  replace h7 := h7.st S28
  replace h10 := (h10.st S22).st S28
  replace h13 := (h13.st S22).st S28
  replace h16 := (h16.st S22).st S28
  replace h23 := h23.st S28
  refine ewp_rng (σ := (List Edg)) (X := (Option Addr × Nat)) (q24.length) hL36 rfl l34 (fun (s37 : (List Edg)) (x38 : (Option Addr × Nat)) => [(1, (.pointer (some ⟨g19, 0, none⟩))), (3, (.slice x38.1 s37.length x38.2)), (11, (.slice A31 q24.length c32))]) _ (fun s37 x38 w' => ∃ O' : Lab, Bs w A w' O' ∧ Lc 2 w' O' g19 26 [(.slice A8 x0.vars.length c9), (.slice A11 x0.init.length c12), (.slice A14 x0.goal.length c15), (.slice A17 x0.ops.length c18)] ∧ Vb w' (Fr 0 w' O') (.slice A8 x0.vars.length c9) x0.vars ∧ Vb w' (Fr 0 w' O') (.slice A11 x0.init.length c12) x0.init ∧ Vb w' (Fr 0 w' O') (.slice A14 x0.goal.length c15) x0.goal ∧ Vb w' (Fr 0 w' O') (.slice A17 x0.ops.length c18) x0.ops ∧ Rw 3 w' O' 96 (.slice x38.1 s37.length x38.2) s37 ∧ Vb w' (Fr 0 w' O') (.slice A31 q24.length c32) q24) _ (none, 0) ⟨O27, hB, h23, h7, h10, h13, h16, (Rw.nil 3 (by decide)), h29⟩ ⟨rfl, rfl, rfl, rfl, rfl, trivial⟩ (fun _ _ => ⟨rfl, rfl⟩) (fun _ _ => ⟨rfl, trivial⟩) (fun _ _ _ ⟨O', hB, h23, h7, h10, h13, h16, h52, h29⟩ => ⟨O', hB, h52⟩) ⟨rfl, rfl, rfl⟩ ⟨rfl, rfl⟩ ?_
  rintro k39 a40 s37 x38 w41 cc43 hx44 ⟨O42, hB, h23, h7, h10, h13, h16, h52, h29⟩ hf45 hret46 hbrk47
  have rk39 : inI64 (k39 : Int) := rngK hx44 l34
  refine ewp_seq (ewp_region (o_mv rfl rfl ?_))
  obtain ⟨b54, o55, ce56, hA57, hl58, hd59, v61, rfl, h62⟩ := h29.elem' hx44
  replace h62 := Vb.of_slice h62
  obtain ⟨A63, c64, rfl⟩ := h62.form
  refine o_iaE (hA := hA57) (hj := rfl) (hlt := hl58) rfl rfl rfl ?_
  refine o_ld (hc := cat0 hd59) rfl rfl ?_
  refine o_as rfl rfl (o_as rfl rfl (o_z ?_))
  refine ewp_seq (ewp_region (o_fa rfl rfl (o_ld (hc := Blk.cell (i := 3) (h23.1) rfl) rfl rfl ?_)))
  refine o_ln rfl rfl ?_
  have l66 : x0.ops.length ≤ 9223372036854775807 := Nat.le_trans h16.len.2.1 h16.len.2.2
  have r65 : inI64 (x0.ops.length : Int) := rngNat l66
  refine o_mv rfl rfl (o_z ?_)
  obtain ⟨res67, hL68, hf45⟩ := bs hf45
  refine ewp_join (aft res67 (fun (s69 : (List Edg)) (x70 : (Option Addr × Nat)) => [(1, (.pointer (some ⟨g19, 0, none⟩))), (3, (.slice x70.1 s69.length x70.2)), (11, (.slice A31 q24.length c32)), (12, (.int .i64 (q24.length : Int))), (13, (.int .i64 (k39 : Int)))]) (fun s69 x70 w' => ∃ O' : Lab, Bs w A w' O' ∧ Lc 2 w' O' g19 26 [(.slice A8 x0.vars.length c9), (.slice A11 x0.init.length c12), (.slice A14 x0.goal.length c15), (.slice A17 x0.ops.length c18)] ∧ Vb w' (Fr 0 w' O') (.slice A8 x0.vars.length c9) x0.vars ∧ Vb w' (Fr 0 w' O') (.slice A11 x0.init.length c12) x0.init ∧ Vb w' (Fr 0 w' O') (.slice A14 x0.goal.length c15) x0.goal ∧ Vb w' (Fr 0 w' O') (.slice A17 x0.ops.length c18) x0.ops ∧ Rw 3 w' O' 96 (.slice x70.1 s69.length x70.2) s69 ∧ Vb w' (Fr 0 w' O') (.slice A31 q24.length c32) q24)) ?_ ?_
  ·
   refine ewp_block (ewp_rng (σ := (List Edg)) (X := (Option Addr × Nat)) (x0.ops.length) hL68 rfl l66 (fun (s69 : (List Edg)) (x70 : (Option Addr × Nat)) => [(1, (.pointer (some ⟨g19, 0, none⟩))), (3, (.slice x70.1 s69.length x70.2)), (4, (.int .i64 (k39 : Int))), (5, (.slice A63 a40.length c64)), (11, (.slice A31 q24.length c32)), (12, (.int .i64 (q24.length : Int))), (13, (.int .i64 (k39 : Int)))]) _ (fun s69 x70 w' => ∃ O' : Lab, Bs w A w' O' ∧ Lc 2 w' O' g19 26 [(.slice A8 x0.vars.length c9), (.slice A11 x0.init.length c12), (.slice A14 x0.goal.length c15), (.slice A17 x0.ops.length c18)] ∧ Vb w' (Fr 0 w' O') (.slice A8 x0.vars.length c9) x0.vars ∧ Vb w' (Fr 0 w' O') (.slice A11 x0.init.length c12) x0.init ∧ Vb w' (Fr 0 w' O') (.slice A14 x0.goal.length c15) x0.goal ∧ Vb w' (Fr 0 w' O') (.slice A17 x0.ops.length c18) x0.ops ∧ Rw 3 w' O' 96 (.slice x70.1 s69.length x70.2) s69 ∧ Vb w' (Fr 0 w' O') (.slice A63 a40.length c64) a40 ∧ Vb w' (Fr 0 w' O') (.slice A31 q24.length c32) q24) _ (x38.1, x38.2) ⟨O42, hB, h23, h7, h10, h13, h16, h52, h62, h29⟩ ⟨rfl, rfl, rfl, rfl, rfl, rfl, rfl, rfl, rfl, trivial⟩ (fun _ _ => ⟨rfl, rfl⟩) (fun _ _ => ⟨rfl, rfl, rfl, rfl, rfl, trivial⟩) (fun _ _ _ ⟨O', hB, h23, h7, h10, h13, h16, h84, h62, h29⟩ => ⟨O', hB, h23, h7, h10, h13, h16, h84, h29⟩) ⟨rfl, rfl, rfl⟩ ⟨rfl, rfl⟩ ?_)
   rintro k71 a72 s69 x70 w73 cc75 hx76 ⟨O74, hB, h23, h7, h10, h13, h16, h84, h62, h29⟩ hf77 hret78 hbrk79
   have rk71 : inI64 (k71 : Int) := rngK hx76 l66
   refine ewp_seq (ewp_region (o_mv rfl rfl (o_as rfl rfl (o_z ?_))))
   refine ewp_seq (ewp_region (o_la (hl := rfl) (hc := (h23.1).cellsAt) rfl rfl ?_))
   refine o_mv rfl rfl (o_mv rfl rfl ?_)
   obtain ⟨q86, e87, hf77⟩ := bs hf77
   refine l_call (O := O74) (R := fun w' F v => T2 w' F v q86) (c_base_Apply Fr.lt (Vb.ofAgg (cs := [(.slice A8 x0.vars.length c9), (.slice A11 x0.init.length c12), (.slice A14 x0.goal.length c15), (.slice A17 x0.ops.length c18)]) (x := x0) rfl ⟨_, _, _, _, rfl, h7, h10, h13, h16⟩) h62 rk71 e87) rfl rfl fun v92 w88 O89 S90 h91 => ?_
   obtain ⟨v93, v94, rfl, h95, h96⟩ := h91
   obtain ⟨A97, c98, rfl⟩ := h95.form
   obtain rfl := h96.bool
   refine o_mv rfl rfl (o_ex rfl rfl rfl (o_ex rfl rfl rfl (o_as rfl rfl (o_as rfl rfl (o_z ?_)))))
   refine ewp_seq (ewp_region (o_mv rfl rfl (o_z ?_)))
   refine ewp_cond rfl (fun c99 => ?_) (fun c99 => ?_)
   ·
    replace hf77 := ip hf77 c99
    refine ewp_region (o_mv rfl rfl (o_mv rfl rfl (o_mv rfl rfl (o_fa rfl rfl ?_))))
    replace h23 := h23.st S90
    refine o_ld (hc := Blk.cell (i := 0) (h23.1) rfl) rfl rfl ?_
    refine o_mv rfl rfl ?_
    obtain ⟨q100, e101, hf77⟩ := bs hf77
    replace h7 := h7.st S90
    refine l_callA (O := O89) (A := All w88) (R := fun w' F v => Vb w' F v q100) (c_base_Rank (fun _ h => h) (Vb.mono (F := Fr 0 w88 O89) h7 Fr.lt) (Vb.mono (F := Fr 0 w88 O89) h95 Fr.lt) e101) rfl rfl fun v106 w102 O103 S104 h105 => ?_
    obtain ⟨rfl, r107⟩ := h105.int
    refine o_bd rfl rfl rfl ?_
    obtain ⟨u108, e109, hf77⟩ := bs hf77
    obtain ⟨e109, e110, e111⟩ := appI_some e109
    replace h84 := (h84.st S90).st S104
    refine l_append1 rfl (a := (⟨(k39 : Int), (k71 : Int), q100⟩ : Edg)) h84 (Vb.ofAgg (cs := [(.int .i64 (k39 : Int)), (.int .i64 (k71 : Int)), (.int .i64 q100)]) (x := (⟨(k39 : Int), (k71 : Int), q100⟩ : Edg)) rfl ⟨rfl, rk39, rk71, r107⟩) (fun _ => rfl) rfl (by decide) (by decide) e110 e111 ⟨rfl, rfl⟩ fun g112 A113 c114 w115 O116 S117 h118 => ?_
    rw [← e109] at h118 ⊢
    refine o_as rfl rfl (o_z ?_)
    obtain rfl := sm hf77
    refine (?_ : Exists _)
    replace hB := ((hB.st S90).st S104).st S117
    replace h7 := (h7.st S104).st S117
    replace h10 := ((h10.st S90).st S104).st S117
    replace h13 := ((h13.st S90).st S104).st S117
    replace h16 := ((h16.st S90).st S104).st S117
    replace h23 := (h23.st S104).st S117
    replace h29 := ((h29.st S90).st S104).st S117
    replace h62 := ((h62.st S90).st S104).st S117
    exact ⟨_, (A113, c114), rfl, ⟨rfl, rfl, rfl, rfl, rfl, rfl, rfl, rfl, rfl, trivial⟩, _, hB, h23, h7, h10, h13, h16, h118, h62, h29⟩
   ·
    replace hf77 := im' hf77 c99
    refine ewp_skip ?_
    obtain rfl := sm hf77
    refine (?_ : Exists _)
    replace hB := hB.st S90
    replace h7 := h7.st S90
    replace h10 := h10.st S90
    replace h13 := h13.st S90
    replace h16 := h16.st S90
    replace h23 := h23.st S90
    replace h29 := h29.st S90
    replace h62 := h62.st S90
    replace h84 := h84.st S90
    exact ⟨_, (x70.1, x70.2), rfl, ⟨rfl, rfl, rfl, rfl, rfl, rfl, rfl, rfl, rfl, trivial⟩, _, hB, h23, h7, h10, h13, h16, h84, h62, h29⟩
  rintro l120 w121 ⟨s124, x125, rfl, hs123, O122, hB, h23, h7, h10, h13, h16, h84, h29⟩
  replace hf45 := fin_done hf45
  obtain rfl := sm hf45
  refine (?_ : Exists _)
  exact ⟨_, (x125.1, x125.2), rfl, ⟨(subs_lk hs123 _ _ rfl), (subs_lk hs123 _ _ rfl), (subs_lk hs123 _ _ rfl), (subs_lk hs123 _ _ rfl), (subs_lk hs123 _ _ rfl), trivial⟩, _, hB, h23, h7, h10, h13, h16, h84, h29⟩
 replace hB := (hB.st S22).st S28
 rintro l126 w127 ⟨s130, x131, rfl, hs129, O128, hB, h52⟩
 replace hm := fin_done hm
 refine ewp_sub _ hs129 ?_
 refine ewp_seq (ewp_region (o_mv rfl rfl (o_as rfl rfl (o_z ?_))))
 refine ewp_ret ?_
 obtain ⟨O132, S133, h52⟩ := h52.freeze
 obtain rfl := sm hm
 replace hB := hB.st S133
 exact ret1v rfl (res_tmp rfl) ⟨hB.ext, (Vb.mono (F := Fr 0 w127 O132) h52 hB.out)⟩
noncomputable def m_base_Distances (x0 : Tsk) : Option (List Int) :=
  bnd (m_base_States x0.vars) fun q25 => bnd (mkI 8 (0 : Int) (q25.length : Int)) fun u36 => bnd (rng (ρ := (List Int)) (fun (k55 : Nat) (a56 : List Int) (s53 : (List Int)) => bnd (s53[k55]?) fun a81 => bnd (m_base_Holds x0.goal a56) fun q93 => if q93 = true then bnd ((s53.set k55 1125899906842624)[k55]?) fun a100 => some (.next ((s53.set k55 1125899906842624).set k55 0)) else some (.next (s53.set k55 1125899906842624))) q25 0 u36) fun res51 => fin res51 fun (s116 : (List Int)) => bnd (m_base_Edges x0) fun q118 => bnd (lop (ρ := (List Int)) (fun (s129 : (List Int) × Bool) => if s129.2 = true then (bnd (rng (ρ := Ctl ((List Int) × Bool) (List Int)) (fun (k153 : Nat) (a154 : Edg) (s151 : (List Int) × Bool) => bnd (atI x0.ops a154.op) fun a185 => bnd (bnd (atI s151.1 a154.dst) fun a210 => if a210 < 1125899906842624 then (bnd (atI s151.1 a154.dst) fun a223 => bnd (chkI (a223 + a185.cost)) fun n235 => bnd (atI s151.1 a154.src) fun a238 => if n235 < a238 then (some true) else (some false)) else (some false) : Option Bool) fun y206 => if y206 = true then (bnd (atI s151.1 a154.dst) fun a256 => bnd (chkI (a256 + a185.cost)) fun n268 => bnd (atI s151.1 a154.src) fun a271 => some (.next ((s151.1.set (a154.src : Int).toNat n268), true))) else (some (.next (s151.1, s151.2)))) q118 0 (s129.1, false)) fun res149 => fin res149 fun (s289 : (List Int) × Bool) => some (.next (s289.1, s289.2))) else (some (.brk (s129.1, s129.2)))) (s116, true)) fun res127 => fin res127 fun (s295 : (List Int) × Bool) => some s295.1
theorem c_base_Distances {w : World} {A : Nat → Prop} (hA : ∀ k, A k → k < w.heap.size) {vx0 : Value} {x0 : Tsk} (hx0 : Vb w A vx0 x0) {r : (List Int)} (hm : m_base_Distances x0 = some r) :
    Fn Try.prog 34 [vx0, (.slice none 0 0)] w fun v w' => Ext w w' ∧ Vb w' (upA A w w') v r := by
 obtain ⟨O, hB, hA0⟩ := enter hA
 replace hx0 := hx0.mono hA0
 obtain ⟨cs3, rfl, v4, v5, v6, v7, rfl, h8, h11, h14, h17⟩ := hx0
 obtain ⟨A9, c10, rfl⟩ := h8.form
 obtain ⟨A12, c13, rfl⟩ := h11.form
 obtain ⟨A15, c16, rfl⟩ := h14.form
 obtain ⟨A18, c19, rfl⟩ := h17.form
 refine fn_enter Try.func34 rfl Try.ntmps34 rfl ?_
 unfold m_base_Distances at hm
 refine ewp_seq (ewp_region (l_box 2 O rfl rfl fun g20 w21 O22 S23 h24 => ?_))
 replace h24 : Lc 2 w21 O22 g20 26 [(.slice A9 x0.vars.length c10), (.slice A12 x0.init.length c13), (.slice A15 x0.goal.length c16), (.slice A18 x0.ops.length c19)] := h24
 refine o_as rfl rfl (o_z ?_)
 refine ewp_seq (ewp_region (o_fa rfl rfl (o_ld (hc := Blk.cell (i := 0) (h24.1) rfl) rfl rfl ?_)))
 obtain ⟨q25, e26, hm⟩ := bs hm
 replace h8 := h8.st S23
 refine l_call (O := O22) (R := fun w' F v => Vb w' F v q25) (c_base_States Fr.lt h8 e26) rfl rfl fun v31 w27 O28 S29 h30 => ?_
 obtain ⟨A32, c33, rfl⟩ := h30.form
 refine o_as rfl rfl (o_z ?_)
 refine ewp_seq (ewp_region (o_mv rfl rfl (o_ln rfl rfl ?_)))
 have l35 : q25.length ≤ 9223372036854775807 := Nat.le_trans h30.len.2.1 h30.len.2.2
 have r34 : inI64 (q25.length : Int) := rngNat l35
 obtain ⟨u36, e37, hm⟩ := bs hm
 obtain ⟨m38, e39, e40, e41, e42⟩ := mkI_some e37
 refine l_make 3 (by decide) O28 (z0 := (0 : Int)) rfl rfl rfl rfl rfl e39 (vInt (show inI64 0 from by decide)) e40 e41 rfl fun g43 w44 O45 S46 h47 => ?_
 rw [← e42] at h47 ⊢
 refine o_as rfl rfl (o_z ?_)
 refine ewp_seq (ewp_seq (ewp_region (o_mv rfl rfl (o_ln rfl rfl ?_))))
 replace h30 := h30.st S46
 have l50 : q25.length ≤ 9223372036854775807 := Nat.le_trans h30.len.2.1 h30.len.2.2
 have r49 : inI64 (q25.length : Int) := rngNat l50
 refine o_mv rfl rfl (o_z ?_)
 obtain ⟨res51, hL52, hm⟩ := bs hm
 refine ewp_join (aft res51 (fun (s53 : (List Int)) (x54 : Unit) => [(1, (.slice none 0 0)), (2, (.pointer (some ⟨g20, 0, none⟩))), (6, (.slice (some ⟨g43, 0, none⟩) u36.length m38))]) (fun s53 x54 w' => ∃ O' : Lab, Bs w A w' O' ∧ Lc 2 w' O' g20 26 [(.slice A9 x0.vars.length c10), (.slice A12 x0.init.length c13), (.slice A15 x0.goal.length c16), (.slice A18 x0.ops.length c19)] ∧ Vb w' (Fr 0 w' O') (.slice A9 x0.vars.length c10) x0.vars ∧ Vb w' (Fr 0 w' O') (.slice A12 x0.init.length c13) x0.init ∧ Vb w' (Fr 0 w' O') (.slice A15 x0.goal.length c16) x0.goal ∧ Vb w' (Fr 0 w' O') (.slice A18 x0.ops.length c19) x0.ops ∧ Rw 3 w' O' 3 (.slice (some ⟨g43, 0, none⟩) u36.length m38) s53)) ?_ ?_
 ·
  refine ewp_block ?_
  replace hB := ((hB.st S23).st S29).st S46
  replace h8 := (h8.st S29).st S46
  replace h11 := ((h11.st S23).st S29).st S46
  replace h14 := ((h14.st S23).st S29).st S46
  replace h17 := ((h17.st S23).st S29).st S46
  replace h24 := (h24.st S29).st S46
  refine ewp_rng (σ := (List Int)) (X := Unit) (q25.length) hL52 rfl l50 (fun (s53 : (List Int)) (x54 : Unit) => [(1, (.slice none 0 0)), (2, (.pointer (some ⟨g20, 0, none⟩))), (6, (.slice (some ⟨g43, 0, none⟩) u36.length m38)), (20, (.slice A32 q25.length c33))]) _ (fun s53 x54 w' => ∃ O' : Lab, Bs w A w' O' ∧ Lc 2 w' O' g20 26 [(.slice A9 x0.vars.length c10), (.slice A12 x0.init.length c13), (.slice A15 x0.goal.length c16), (.slice A18 x0.ops.length c19)] ∧ Vb w' (Fr 0 w' O') (.slice A9 x0.vars.length c10) x0.vars ∧ Vb w' (Fr 0 w' O') (.slice A12 x0.init.length c13) x0.init ∧ Vb w' (Fr 0 w' O') (.slice A15 x0.goal.length c16) x0.goal ∧ Vb w' (Fr 0 w' O') (.slice A18 x0.ops.length c19) x0.ops ∧ Rw 3 w' O' 3 (.slice (some ⟨g43, 0, none⟩) u36.length m38) s53 ∧ Vb w' (Fr 0 w' O') (.slice A32 q25.length c33) q25) _ () ⟨O45, hB, h24, h8, h11, h14, h17, h47, h30⟩ ⟨rfl, rfl, rfl, rfl, rfl, rfl, trivial⟩ (fun _ _ => ⟨rfl, rfl⟩) (fun _ _ => ⟨rfl, rfl, rfl, trivial⟩) (fun _ _ _ ⟨O', hB, h24, h8, h11, h14, h17, h68, h30⟩ => ⟨O', hB, h24, h8, h11, h14, h17, h68⟩) ⟨rfl, rfl, rfl⟩ ⟨rfl, rfl⟩ ?_
  rintro k55 a56 s53 x54 w57 cc59 hx60 ⟨O58, hB, h24, h8, h11, h14, h17, h68, h30⟩ hf61 hret62 hbrk63
  have rk55 : inI64 (k55 : Int) := rngK hx60 l50
  refine ewp_seq (ewp_region (o_mv rfl rfl ?_))
  obtain ⟨b70, o71, ce72, hA73, hl74, hd75, v77, rfl, h78⟩ := h30.elem' hx60
  replace h78 := Vb.of_slice h78
  obtain ⟨A79, c80, rfl⟩ := h78.form
  refine o_iaE (hA := hA73) (hj := rfl) (hlt := hl74) rfl rfl rfl ?_
  refine o_ld (hc := cat0 hd75) rfl rfl ?_
  refine o_as rfl rfl (o_as rfl rfl (o_z ?_))
  refine ewp_seq (ewp_region (o_mv rfl rfl (o_mv rfl rfl ?_)))
  obtain ⟨a81, e82, hf61⟩ := bs hf61
  obtain ⟨b83, o84, ce85, hA86, hl87, hd88, rfl, r90⟩ := h68.elem e82
  refine o_iaE (hA := hA86) (hj := rfl) (hlt := hl87) rfl rfl rfl ?_
  refine l_setE rfl h68 (a := 1125899906842624) (vInt (show inI64 (1125899906842624) from by decide)) hA86 rfl rfl (lt_of_get e82) fun w91 S92 h68 => ?_
  refine o_z ?_
  refine ewp_seq (ewp_region (o_fa rfl rfl ?_))
  replace h24 := h24.st S92
  refine o_ld (hc := Blk.cell (i := 2) (h24.1) rfl) rfl rfl ?_
  refine o_mv rfl rfl ?_
  obtain ⟨q93, e94, hf61⟩ := bs hf61
  replace h14 := h14.st S92
  replace h78 := h78.st S92
  refine l_callA (O := O58) (A := All w91) (R := fun w' F v => Vb w' F v q93) (c_base_Holds (fun _ h => h) (Vb.mono (F := Fr 0 w91 O58) h14 Fr.lt) (Vb.mono (F := Fr 0 w91 O58) h78 Fr.lt) e94) rfl rfl fun v99 w95 O96 S97 h98 => ?_
  obtain rfl := h98.bool
  cases q93
  case false =>
   replace hf61 := iF hf61
   refine o_z ?_
   refine ewp_false rfl (ewp_skip ?_)
   obtain rfl := sm hf61
   refine (?_ : Exists _)
   replace hB := (hB.st S92).st S97
   replace h8 := (h8.st S92).st S97
   replace h11 := (h11.st S92).st S97
   replace h14 := h14.st S97
   replace h17 := (h17.st S92).st S97
   replace h24 := h24.st S97
   replace h30 := (h30.st S92).st S97
   replace h68 := h68.st S97
   exact ⟨_, (), rfl, ⟨rfl, rfl, rfl, rfl, rfl, rfl, trivial⟩, _, hB, h24, h8, h11, h14, h17, h68, h30⟩
  replace hf61 := iT hf61
  refine o_z ?_
  refine ewp_true rfl (ewp_region (o_mv rfl rfl (o_mv rfl rfl ?_)))
  obtain ⟨a100, e101, hf61⟩ := bs hf61
  replace h68 := h68.st S97
  obtain ⟨b102, o103, ce104, hA105, hl106, hd107, rfl, r109⟩ := h68.elem e101
  refine o_iaE (hA := hA105) (hj := rfl) (hlt := hl106) rfl rfl rfl ?_
  refine l_setE rfl h68 (a := 0) (vInt (show inI64 (0) from by decide)) hA105 rfl rfl (lt_of_get e101) fun w110 S111 h68 => ?_
  refine o_z ?_
  obtain rfl := sm hf61
  refine (?_ : Exists _)
  replace hB := ((hB.st S92).st S97).st S111
  replace h8 := ((h8.st S92).st S97).st S111
  replace h11 := ((h11.st S92).st S97).st S111
  replace h14 := (h14.st S97).st S111
  replace h17 := ((h17.st S92).st S97).st S111
  replace h24 := (h24.st S97).st S111
  replace h30 := ((h30.st S92).st S97).st S111
  exact ⟨_, (), rfl, ⟨rfl, rfl, rfl, rfl, rfl, rfl, trivial⟩, _, hB, h24, h8, h11, h14, h17, h68, h30⟩
 replace hB := ((hB.st S23).st S29).st S46
 replace h8 := (h8.st S29).st S46
 replace h11 := ((h11.st S23).st S29).st S46
 replace h14 := ((h14.st S23).st S29).st S46
 replace h17 := ((h17.st S23).st S29).st S46
 replace h24 := (h24.st S29).st S46
 rintro l112 w113 ⟨s116, x117, rfl, hs115, O114, hB, h24, h8, h11, h14, h17, h68⟩
 replace hm := fin_done hm
 refine ewp_sub _ hs115 ?_
 refine ewp_seq (ewp_region (o_la (hl := rfl) (hc := (h24.1).cellsAt) rfl rfl ?_))
 obtain ⟨q118, e119, hm⟩ := bs hm
 refine l_call (O := O114) (R := fun w' F v => Vb w' F v q118) (c_base_Edges Fr.lt (Vb.ofAgg (cs := [(.slice A9 x0.vars.length c10), (.slice A12 x0.init.length c13), (.slice A15 x0.goal.length c16), (.slice A18 x0.ops.length c19)]) (x := x0) rfl ⟨_, _, _, _, rfl, h8, h11, h14, h17⟩) e119) rfl rfl fun v124 w120 O121 S122 h123 => ?_
 obtain ⟨A125, c126, rfl⟩ := h123.form
 refine o_as rfl rfl (o_z ?_)
 refine ewp_seq (ewp_seq (ewp_region (o_as rfl rfl (o_z ?_))))
 obtain ⟨res127, hL128, hm⟩ := bs hm
 refine ewp_join (aft res127 (fun (s129 : (List Int) × Bool) (x130 : Unit) => [(6, (.slice (some ⟨g43, 0, none⟩) u36.length m38))]) (fun s129 x130 w' => ∃ O' : Lab, Bs w A w' O' ∧ Rw 3 w' O' 3 (.slice (some ⟨g43, 0, none⟩) u36.length m38) s129.1)) ?_ ?_
 ·
  refine ewp_block ?_
  replace hB := hB.st S122
  replace h8 := h8.st S122
  replace h11 := h11.st S122
  replace h14 := h14.st S122
  replace h17 := h17.st S122
  replace h24 := h24.st S122
  replace h68 := h68.st S122
  refine ewp_lop (σ := (List Int) × Bool) (X := Unit) hL128 (fun (s129 : (List Int) × Bool) (x130 : Unit) => [(1, (.slice none 0 0)), (2, (.pointer (some ⟨g20, 0, none⟩))), (6, (.slice (some ⟨g43, 0, none⟩) u36.length m38)), (9, (.slice A125 q118.length c126)), (10, (.bool s129.2))]) _ (fun s129 x130 w' => ∃ O' : Lab, Bs w A w' O' ∧ Lc 2 w' O' g20 26 [(.slice A9 x0.vars.length c10), (.slice A12 x0.init.length c13), (.slice A15 x0.goal.length c16), (.slice A18 x0.ops.length c19)] ∧ Vb w' (Fr 0 w' O') (.slice A9 x0.vars.length c10) x0.vars ∧ Vb w' (Fr 0 w' O') (.slice A12 x0.init.length c13) x0.init ∧ Vb w' (Fr 0 w' O') (.slice A15 x0.goal.length c16) x0.goal ∧ Vb w' (Fr 0 w' O') (.slice A18 x0.ops.length c19) x0.ops ∧ Rw 3 w' O' 3 (.slice (some ⟨g43, 0, none⟩) u36.length m38) s129.1 ∧ Vb w' (Fr 0 w' O') (.slice A125 q118.length c126) q118) _ () ⟨O121, hB, h24, h8, h11, h14, h17, h68, h123⟩ ⟨rfl, rfl, rfl, rfl, rfl, trivial⟩ ?_
  rintro s129 x130 w133 cc135 ⟨O134, hB, h24, h8, h11, h14, h17, h144, h123⟩ hf137 hret138 hbrk139
  refine ewp_seq (ewp_seq (ewp_region (o_mv rfl rfl (o_z ?_))))
  refine ewp_cond rfl (fun c146 => ?_) (fun c146 => ?_)
  ·
   replace hf137 := ip hf137 c146
   refine ewp_skip (ewp_block (ewp_seq (ewp_region (o_as rfl rfl (o_z ?_)))))
   refine ewp_seq (ewp_region (o_mv rfl rfl (o_ln rfl rfl ?_)))
   have l148 : q118.length ≤ 9223372036854775807 := Nat.le_trans h123.len.2.1 h123.len.2.2
   have r147 : inI64 (q118.length : Int) := rngNat l148
   refine o_mv rfl rfl (o_z ?_)
   obtain ⟨res149, hL150, hf137⟩ := bs hf137
   refine ewp_join (aft res149 (fun (s151 : (List Int) × Bool) (x152 : Unit) => [(1, (.slice none 0 0)), (2, (.pointer (some ⟨g20, 0, none⟩))), (6, (.slice (some ⟨g43, 0, none⟩) u36.length m38)), (9, (.slice A125 q118.length c126)), (10, (.bool s151.2))]) (fun s151 x152 w' => ∃ O' : Lab, Bs w A w' O' ∧ Lc 2 w' O' g20 26 [(.slice A9 x0.vars.length c10), (.slice A12 x0.init.length c13), (.slice A15 x0.goal.length c16), (.slice A18 x0.ops.length c19)] ∧ Vb w' (Fr 0 w' O') (.slice A9 x0.vars.length c10) x0.vars ∧ Vb w' (Fr 0 w' O') (.slice A12 x0.init.length c13) x0.init ∧ Vb w' (Fr 0 w' O') (.slice A15 x0.goal.length c16) x0.goal ∧ Vb w' (Fr 0 w' O') (.slice A18 x0.ops.length c19) x0.ops ∧ Rw 3 w' O' 3 (.slice (some ⟨g43, 0, none⟩) u36.length m38) s151.1 ∧ Vb w' (Fr 0 w' O') (.slice A125 q118.length c126) q118)) ?_ ?_
   ·
    refine ewp_block (ewp_rng (σ := (List Int) × Bool) (X := Unit) (q118.length) hL150 rfl l148 (fun (s151 : (List Int) × Bool) (x152 : Unit) => [(1, (.slice none 0 0)), (2, (.pointer (some ⟨g20, 0, none⟩))), (6, (.slice (some ⟨g43, 0, none⟩) u36.length m38)), (9, (.slice A125 q118.length c126)), (10, (.bool s151.2)), (41, (.slice A125 q118.length c126))]) _ (fun s151 x152 w' => ∃ O' : Lab, Bs w A w' O' ∧ Lc 2 w' O' g20 26 [(.slice A9 x0.vars.length c10), (.slice A12 x0.init.length c13), (.slice A15 x0.goal.length c16), (.slice A18 x0.ops.length c19)] ∧ Vb w' (Fr 0 w' O') (.slice A9 x0.vars.length c10) x0.vars ∧ Vb w' (Fr 0 w' O') (.slice A12 x0.init.length c13) x0.init ∧ Vb w' (Fr 0 w' O') (.slice A15 x0.goal.length c16) x0.goal ∧ Vb w' (Fr 0 w' O') (.slice A18 x0.ops.length c19) x0.ops ∧ Rw 3 w' O' 3 (.slice (some ⟨g43, 0, none⟩) u36.length m38) s151.1 ∧ Vb w' (Fr 0 w' O') (.slice A125 q118.length c126) q118) _ () ⟨O134, hB, h24, h8, h11, h14, h17, h144, h123⟩ ⟨rfl, rfl, rfl, rfl, rfl, rfl, rfl, rfl, trivial⟩ (fun _ _ => ⟨rfl, rfl⟩) (fun _ _ => ⟨rfl, rfl, rfl, rfl, rfl, trivial⟩) (fun _ _ _ ⟨O', hB, h24, h8, h11, h14, h17, h166, h123⟩ => ⟨O', hB, h24, h8, h11, h14, h17, h166, h123⟩) ⟨rfl, rfl, rfl⟩ ⟨rfl, rfl⟩ ?_)
    rintro k153 a154 s151 x152 w155 cc157 hx158 ⟨O156, hB, h24, h8, h11, h14, h17, h166, h123⟩ hf159 hret160 hbrk161
    have rk153 : inI64 (k153 : Int) := rngK hx158 l148
    refine ewp_seq (ewp_region ?_)
    obtain ⟨b168, o169, ce170, hA171, hl172, hd173, rfl, r175, r176, r177⟩ := h123.elem' hx158
    refine o_iaE (hA := hA171) (hj := rfl) (hlt := hl172) rfl rfl rfl ?_
    refine o_la (hl := rfl) (hc := hd173) rfl rfl ?_
    refine l_alloc 4 O156 rfl fun g178 w179 O180 S181 h182 => ?_
    refine l_store h182 rfl rfl rfl (Nat.le_of_ble_eq_true rfl) (by first | exact allOne rfl | simp [Value.cells, Value.oneCell', errV_one]) fun w183 S184 h182 => ?_
    replace h182 : Lc 4 w183 O180 g178 96 [(.int .i64 a154.src), (.int .i64 a154.op), (.int .i64 a154.dst)] := h182
    refine o_z ?_
    refine ewp_seq (ewp_region (o_fa rfl rfl ?_))
    replace h24 := (h24.st S181).st S184
    refine o_ld (hc := Blk.cell (i := 3) (h24.1) rfl) rfl rfl ?_
    refine o_fa rfl rfl (o_ld (hc := Blk.cell (i := 1) (h182.1) rfl) rfl rfl ?_)
    obtain ⟨a185, e186, hf159⟩ := bs hf159
    obtain ⟨p188, x187⟩ := atI_some' e186
    replace h17 := (h17.st S181).st S184
    obtain ⟨b189, o190, ce191, hA192, hl193, hd194, v196, v197, rfl, h198, h201, r204, z205⟩ := h17.elem' x187
    obtain ⟨A199, c200, rfl⟩ := h198.form
    obtain ⟨A202, c203, rfl⟩ := h201.form
    refine o_iaE (hA := hA192) (hj := (Int.toNat_of_nonneg p188).symm) (hlt := hl193) rfl rfl rfl ?_
    refine o_fa rfl rfl (o_ld (hc := cat1 hd194) rfl rfl ?_)
    refine o_as rfl rfl (o_z ?_)
    refine ewp_seq (ewp_seq (ewp_region (o_mv rfl rfl (o_sq rfl rfl ?_))))
    refine o_z ?_
    refine ewp_false rfl (ewp_skip (ewp_seq ?_))
    obtain ⟨y206, hy207, hf159⟩ := bs hf159
    refine ewp_join (fun l' w' => ∃ (x209 : Unit) (O' : Lab), subs l' [(1, (.slice none 0 0)), (2, (.pointer (some ⟨g20, 0, none⟩))), (6, (.slice (some ⟨g43, 0, none⟩) u36.length m38)), (9, (.slice A125 q118.length c126)), (10, (.bool s151.2)), (12, (.pointer (some ⟨g178, 0, none⟩))), (13, (.int .i64 a185.cost)), (41, (.slice A125 q118.length c126)), (42, (.int .i64 (q118.length : Int))), (43, (.int .i64 (k153 : Int))), (81, (.bool y206))] ∧ Bs w A w' O' ∧ Lc 2 w' O' g20 26 [(.slice A9 x0.vars.length c10), (.slice A12 x0.init.length c13), (.slice A15 x0.goal.length c16), (.slice A18 x0.ops.length c19)] ∧ Vb w' (Fr 0 w' O') (.slice A9 x0.vars.length c10) x0.vars ∧ Vb w' (Fr 0 w' O') (.slice A12 x0.init.length c13) x0.init ∧ Vb w' (Fr 0 w' O') (.slice A15 x0.goal.length c16) x0.goal ∧ Vb w' (Fr 0 w' O') (.slice A18 x0.ops.length c19) x0.ops ∧ Rw 3 w' O' 3 (.slice (some ⟨g43, 0, none⟩) u36.length m38) s151.1 ∧ Vb w' (Fr 0 w' O') (.slice A125 q118.length c126) q118 ∧ Lc 4 w' O' g178 96 [(.int .i64 a154.src), (.int .i64 a154.op), (.int .i64 a154.dst)]) ?_ ?_
    ·
     refine ewp_draw (· = w183) [(0, true), (1, true), (2, true), (3, true), (4, true), (5, true), (6, true), (7, true), (8, true), (9, true), (10, true), (11, true), (12, true), (13, true), (14, true), (15, true), (16, true), (17, true), (18, true), (19, true), (20, true)] (by kernel_rfl) rfl (by kernel_rfl) rfl ?_
     refine h_mv rfl rfl rfl (h_fa rfl rfl rfl (h_ldA (hc := Blk.cell (i := 2) (h182.1) rfl) rfl rfl rfl ?_))
     obtain ⟨a210, e211, hy207⟩ := bs hy207
     obtain ⟨p213, x212⟩ := atI_some' e211
     replace h166 := (h166.st S181).st S184
     obtain ⟨b214, o215, ce216, hA217, hl218, hd219, rfl, r221⟩ := h166.elem x212
     refine h_iaE (hA := hA217) (hj := (Int.toNat_of_nonneg p213).symm) (hlt := hl218) rfl rfl rfl rfl ?_
     refine h_ldA (hc := cat0 hd219) rfl rfl rfl ?_
     refine h_ltS rfl rfl rfl rfl (fun c222 => ?_) fun c222 => ?_
     ·
      replace hy207 := ip hy207 c222
      refine h_mv rfl rfl rfl (hwp_o rfl (hwq_yes rfl rfl (g_mv rfl rfl (hwp_o rfl (hwq_yes rfl rfl (g_fa rfl rfl (hwp_o rfl (hwq_yes rfl rfl (g_ldA (hc := Blk.cell (i := 2) (h182.1) rfl) rfl rfl ?_)))))))))
      refine hwp_o rfl (hwq_yes rfl rfl ?_)
      obtain ⟨a223, e224, hy207⟩ := bs hy207
      obtain ⟨p226, x225⟩ := atI_some' e224
      obtain ⟨b227, o228, ce229, hA230, hl231, hd232, rfl, r234⟩ := h166.elem x225
      refine g_iaE (hA := hA230) (hj := (Int.toNat_of_nonneg p226).symm) (hlt := hl231) rfl rfl rfl ?_
      refine hwp_o rfl (hwq_yes rfl rfl (g_ldA (hc := cat0 hd232) rfl rfl ?_))
      refine hwp_o rfl (hwq_yes rfl rfl (g_mv rfl rfl (hwp_o rfl (hwq_yes rfl rfl ?_))))
      obtain ⟨n235, e236, hy207⟩ := bs hy207
      have r237 := (chkI_rng e236)
      refine g_adE (he := e236) rfl rfl rfl ?_
      refine hwp_o rfl (hwq_yes rfl rfl (g_mv rfl rfl (hwp_o rfl (hwq_yes rfl rfl (g_fa rfl rfl (hwp_o rfl (hwq_yes rfl rfl (g_ldA (hc := Blk.cell (i := 0) (h182.1) rfl) rfl rfl ?_))))))))
      refine hwp_o rfl (hwq_yes rfl rfl ?_)
      obtain ⟨a238, e239, hy207⟩ := bs hy207
      obtain ⟨p241, x240⟩ := atI_some' e239
      obtain ⟨b242, o243, ce244, hA245, hl246, hd247, rfl, r249⟩ := h166.elem x240
      refine g_iaE (hA := hA245) (hj := (Int.toNat_of_nonneg p241).symm) (hlt := hl246) rfl rfl rfl ?_
      refine hwp_o rfl (hwq_yes rfl rfl (g_ldA (hc := cat0 hd247) rfl rfl ?_))
      refine hwp_o rfl (hwq_yes rfl rfl (hwq_split (fun _ _ => ev_lss rfl rfl) rfl (fun c250 => ?_) (fun c250 => ?_)))
      ·
       replace hy207 := ip hy207 c250
       refine h_pt rfl rfl rfl rfl (h_z ?_)
       obtain rfl := sm hy207
       replace hB := (hB.st S181).st S184
       replace h8 := (h8.st S181).st S184
       replace h11 := (h11.st S181).st S184
       replace h14 := (h14.st S181).st S184
       replace h123 := (h123.st S181).st S184
       exact ⟨(), _, ⟨rfl, rfl, rfl, rfl, rfl, rfl, rfl, rfl, rfl, rfl, rfl, trivial⟩, hB, h24, h8, h11, h14, h17, h166, h123, h182⟩
      ·
       replace hy207 := im hy207 c250
       refine h_pt rfl rfl rfl rfl (h_z ?_)
       obtain rfl := sm hy207
       replace hB := (hB.st S181).st S184
       replace h8 := (h8.st S181).st S184
       replace h11 := (h11.st S181).st S184
       replace h14 := (h14.st S181).st S184
       replace h123 := (h123.st S181).st S184
       exact ⟨(), _, ⟨rfl, rfl, rfl, rfl, rfl, rfl, rfl, rfl, rfl, rfl, rfl, trivial⟩, hB, h24, h8, h11, h14, h17, h166, h123, h182⟩
     ·
      replace hy207 := im hy207 c222
      refine h_mv rfl rfl rfl (h_no rfl rfl rfl rfl rfl (h_no rfl rfl rfl rfl rfl (h_no rfl rfl rfl rfl rfl (h_no rfl rfl rfl rfl rfl (h_no rfl rfl rfl rfl rfl (h_no rfl rfl rfl rfl rfl (h_no rfl rfl rfl rfl rfl (h_no rfl rfl rfl rfl rfl (h_no rfl rfl rfl rfl rfl (h_no rfl rfl rfl rfl rfl (h_no rfl rfl rfl rfl rfl (h_no rfl rfl rfl rfl rfl (h_no rfl rfl rfl rfl rfl (h_pf rfl rfl rfl rfl ?_))))))))))))))
      refine h_z ?_
      obtain rfl := sm hy207
      replace hB := (hB.st S181).st S184
      replace h8 := (h8.st S181).st S184
      replace h11 := (h11.st S181).st S184
      replace h14 := (h14.st S181).st S184
      replace h123 := (h123.st S181).st S184
      exact ⟨(), _, ⟨rfl, rfl, rfl, rfl, rfl, rfl, rfl, rfl, rfl, rfl, rfl, trivial⟩, hB, h24, h8, h11, h14, h17, h166, h123, h182⟩
    replace hB := (hB.st S181).st S184
    replace h8 := (h8.st S181).st S184
    replace h11 := (h11.st S181).st S184
    replace h14 := (h14.st S181).st S184
    replace h123 := (h123.st S181).st S184
    replace h166 := (h166.st S181).st S184
    rintro l251 w252 ⟨x209, O253, hs254, hB, h24, h8, h11, h14, h17, h166, h123, h182⟩
    refine ewp_sub _ hs254 ?_
    refine ewp_cond rfl (fun c255 => ?_) (fun c255 => ?_)
    ·
     replace hf159 := ip hf159 c255
     refine ewp_seq (ewp_drawX [] O253 ?_)
     refine x_pre (fuel := 1) [] [(0, true), (1, true), (2, true), (3, true), (4, true), (5, true), (6, true), (7, true), (8, true), (9, true), (10, true)] (by kernel_rfl) rfl ?_
     refine h_mv rfl rfl rfl (h_fa rfl rfl rfl (h_ldC (hc := fun w' ⟨O', hq⟩ => Blk.cell (i := 0) ((h182.st hq (by decide)).1) rfl) rfl rfl rfl ?_))
     refine h_mv rfl rfl rfl (h_fa rfl rfl rfl (h_ldC (hc := fun w' ⟨O', hq⟩ => Blk.cell (i := 2) ((h182.st hq (by decide)).1) rfl) rfl rfl rfl ?_))
     obtain ⟨a256, e257, hf159⟩ := bs hf159
     obtain ⟨p259, x258⟩ := atI_some' e257
     obtain ⟨b260, o261, ce262, hA263, hF266, hl264, hd265, rfl, r267⟩ := h166.elemF x258
     refine h_iaE (hA := hA263) (hj := (Int.toNat_of_nonneg p259).symm) (hlt := hl264) rfl rfl rfl rfl ?_
     refine h_ldC (hc := fun w' ⟨O', hq⟩ => cat0 (cellsAt_agree (hq.agree (i := 3) (by decide)) hF266 hd265)) rfl rfl rfl ?_
     refine h_mv rfl rfl rfl ?_
     obtain ⟨n268, e269, hf159⟩ := bs hf159
     have r270 := (chkI_rng e269)
     refine h_adE (he := e269) rfl rfl rfl rfl ?_
     obtain ⟨a271, e272, hf159⟩ := bs hf159
     obtain ⟨p274, x273⟩ := atI_some' e272
     obtain ⟨b275, o276, ce277, hA278, hF281, hl279, hd280, rfl, r282⟩ := h166.elemF x273
     refine h_iaE (hA := hA278) (hj := (Int.toNat_of_nonneg p274).symm) (hlt := hl279) rfl rfl rfl rfl ?_
     refine hwp_nilT ?_
     refine x_one (i := 11) (by kernel_rfl) rfl ?_
     refine l_setE rfl h166 (a := n268) (vInt r270) hA278 rfl rfl (lt_of_get x273) fun w283 S284 h166 => ?_
     refine x_end (by kernel_rfl) ?_
     refine x_nil (by kernel_rfl) ?_
     refine ewp_region (o_as rfl rfl (o_z ?_))
     obtain rfl := sm hf159
     refine (?_ : Exists _)
     replace hB := hB.st S284
     replace h8 := h8.st S284
     replace h11 := h11.st S284
     replace h14 := h14.st S284
     replace h17 := h17.st S284
     replace h24 := h24.st S284
     replace h123 := h123.st S284
     exact ⟨_, (), rfl, ⟨rfl, rfl, rfl, rfl, rfl, rfl, rfl, rfl, trivial⟩, _, hB, h24, h8, h11, h14, h17, h166, h123⟩
    ·
     replace hf159 := im' hf159 c255
     refine ewp_skip ?_
     obtain rfl := sm hf159
     refine (?_ : Exists _)
     exact ⟨_, (), rfl, ⟨rfl, rfl, rfl, rfl, rfl, rfl, rfl, rfl, trivial⟩, _, hB, h24, h8, h11, h14, h17, h166, h123⟩
   rintro l285 w286 ⟨s289, x290, rfl, hs288, O287, hB, h24, h8, h11, h14, h17, h166, h123⟩
   replace hf137 := fin_done hf137
   obtain rfl := sm hf137
   refine (?_ : Exists _)
   exact ⟨_, (), rfl, ⟨(subs_lk hs288 _ _ rfl), (subs_lk hs288 _ _ rfl), (subs_lk hs288 _ _ rfl), (subs_lk hs288 _ _ rfl), (subs_lk hs288 _ _ rfl), trivial⟩, _, hB, h24, h8, h11, h14, h17, h166, h123⟩
  ·
   replace hf137 := im' hf137 c146
   refine ewp_exit ?_
   obtain rfl := sm hf137
   refine (?_ : Exists _)
   exact ⟨_, (), hbrk139 _ rfl, ⟨rfl, trivial⟩, _, hB, h144⟩
 replace hB := hB.st S122
 rintro l291 w292 ⟨s295, x296, rfl, hs294, O293, hB, h144⟩
 replace hm := fin_done hm
 refine ewp_sub _ hs294 ?_
 refine ewp_seq (ewp_region (o_mv rfl rfl (o_as rfl rfl (o_z ?_))))
 refine ewp_ret ?_
 obtain ⟨O297, S298, h144⟩ := h144.freeze
 obtain rfl := sm hm
 replace hB := hB.st S298
 exact ret1v rfl (res_tmp rfl) ⟨hB.ext, (Vb.mono (F := Fr 0 w292 O297) h144 hB.out)⟩
end
section
open Go Go.RowKit
class TMap (P : Program) (t : TypeId) (k e : outParam TypeId) : Prop where eq : P.underlying t = some (.map k e)
/-- Plain data as keys. -/
class MKey (K : Type) where
  dec : DecidableEq K
  enc : K → Value
  desc : TypeDesc
  key : ∀ a, MapKept.IsKey desc (enc a)
  inj : ∀ a b, enc a = enc b → a = b
class TKey (P : Program) (t : TypeId) (K : Type) [MKey K] : Prop where eq : P.underlying t = some (MKey.desc K)
instance : MKey ByteArray where
  dec := inferInstance
  enc a := .string a
  desc := .string
  key _ := trivial
  inj _ _ h := by injection h
section
variable {K V : Type} [MKey K]
instance keyDec : DecidableEq K := MKey.dec
def mhas : List (K × V) → K → Bool
  | [], _ => false
  | p :: r, k => if p.1 = k then true else mhas r k
def mget (z : V) : List (K × V) → K → V
  | [], _ => z
  | p :: r, k => if p.1 = k then p.2 else mget z r k
def mput : List (K × V) → K → V → List (K × V)
  | [], k, v => [(k, v)]
  | p :: r, k, v => if p.1 = k then (k, v) :: r else p :: mput r k v
def midx : List (K × V) → K → Option Nat
  | [], _ => none
  | p :: r, k => if p.1 = k then some 0 else (midx r k).map (· + 1)
theorem find_spec (a : K) : ∀ (es : List MapEntry) (x : List (K × V)) (i : Nat), es.map (·.key) = x.map (fun p => MKey.enc p.1) →
    (midx x a = none ∧ Instr.findNow (MKey.desc K) (MKey.enc a) es i = some none ∧ mhas x a = false ∧ (∀ z, mget z x a = z) ∧ ∀ v, mput x a v = x ++ [(a, v)]) ∨
    ∃ j e p, midx x a = some j ∧ es[j]? = some e ∧ x[j]? = some p ∧ Instr.findNow (MKey.desc K) (MKey.enc a) es i = some (some (i + j, e.val)) ∧ e.key = MKey.enc a ∧ mhas x a = true ∧ (∀ z, mget z x a = p.2) ∧ ∀ v, mput x a v = x.set j (a, v)
  | [], [], _, _ => .inl ⟨rfl, rfl, rfl, fun _ => rfl, fun _ => rfl⟩
  | [], _ :: _, _, h => by simp at h
  | _ :: _, [], _, h => by simp at h
  | e :: es, p :: x, i, h => by
    rw [List.map_cons, List.map_cons] at h
    injection h with h1 h2
    obtain ⟨r, hr, hiff⟩ := MapKept.sameNow_of_keys (MKey.key a) (MKey.key p.1)
    by_cases hp : p.1 = a
    · have : r = true := hiff.2 (by rw [hp])
      subst this
      refine .inr ⟨0, e, p, by simp [midx, hp], rfl, rfl, ?_, by rw [h1, hp], by simp [mhas, hp], fun z => by simp [mget, hp], fun v => by simp [mput, hp]⟩
      simp [Instr.findNow, h1, hr]
    · have : r = false := by
        cases r with
        | false => rfl
        | true => exact absurd (MKey.inj _ _ (hiff.1 rfl)).symm hp
      subst this
      rcases find_spec a es x (i + 1) h2 with ⟨g0, g1, g2, g3, g4⟩ | ⟨j, e', p', g0, g1, g2, g3, g4, g5, g6, g7⟩
      · exact .inl ⟨by simp [midx, hp, g0], by simp [Instr.findNow, h1, hr, g1], by simp [mhas, hp, g2], fun z => by simp [mget, hp, g3], fun v => by simp [mput, hp, g4]⟩
      · refine .inr ⟨j + 1, e', p', by simp [midx, hp, g0], by simpa using g1, by simpa using g2, ?_, g4, by simp [mhas, hp, g5], fun z => by simp [mget, hp, g6], fun v => by simp [mput, hp, g7]⟩
        simp [Instr.findNow, h1, hr, g3]; omega
end
/-- What a look-up yields. -/
def LkV (d : TypeDesc) (z : Value) (w : World) (r : Nat) (key v : Value) (b : Bool) : Prop := ∃ es ck a, w.heap[r]? = some (.map es ck) ∧ Instr.findNow d key es.toList 0 = some a ∧ v = (match a with | some p => p.2 | none => z) ∧ b = a.isSome
section
variable {P : Program} {l : Env} {w : World} {dst : Option Tmp} {ty : TypeId} {pos : String} {aft : Array Edge}
theorem ev_lk {K : Type} [MKey K] {t k e : TypeId} [ht : TMap P t k e] [hk : TKey P k K] {z : Value} {size bytes : Nat} [TInfo P e z size bytes] {x y : Operand} {r : Nat} {a : K} {v : Value} {b : Bool} (hx : opv l x = some (.map (some r))) (hy : opv l y = some (MKey.enc a)) (hv : LkV (MKey.desc K) z w r (MKey.enc a) v b) :
    Ev P ⟨dst, .lookup t x y false, ty, pos, aft, none⟩ l w v := fun _ _ d ha => by
  obtain ⟨es, ck, q, h1, h2, h3, h4⟩ := hv
  have hb : (dr w d).heap[r]? = some (.map es ck) := h1
  subst h3
  cases q with
  | none => simp [execOp, ha.eval hx, ha.eval hy, Instr.lookup, run_underlying ht.eq, MapKept.run_getObj_map hb, MapKept.run_checkKey hk.eq (MKey.key a), MapKept.run_findKey hk.eq h2, Result.andThen, run_zero (P := P) (t := e)]
  | some p => simp [execOp, ha.eval hx, ha.eval hy, Instr.lookup, run_underlying ht.eq, MapKept.run_getObj_map hb, MapKept.run_checkKey hk.eq (MKey.key a), MapKept.run_findKey hk.eq h2, Result.andThen]
end
/-- Entries behind an update. -/
def putEs (es : List MapEntry) (ck : Nat) (key v : Value) : Option Nat → List MapEntry
  | none => es ++ [{ key := key, val := v, born := ck }]
  | some j => es.modify j fun e => { e with key := key, val := v }
section
variable {P : Program} {n : Nat} {ops : Array Oper} {Q : Post} {rest : List Oper} {l : Env} {w : World} {d : Tmp} {ty : TypeId} {pos : String} {aft : Array Edge}
theorem owp_mput {K V : Type} [MKey K] {t k e : TypeId} [ht : TMap P t k e] [hk : TKey P k K] {x y u : Operand} {r ck : Nat} {a : K} {v : Value} {es : List MapEntry} {xs : List (K × V)} (hb : w.heap[r]? = some (.map es.toArray ck)) (hks : es.map (·.key) = xs.map (fun p => MKey.enc p.1)) (hx : opv l x = some (.map (some r))) (hy : opv l y = some (MKey.enc a)) (hu : opv l u = some v)
    (h : ∀ w' ck', w'.os = w.os → w'.tape = w.tape → w'.output = w.output → w'.heap.size = w.heap.size → w'.heap[r]? = some (.map (putEs es ck (MKey.enc a) v (midx xs a)).toArray ck') → (∀ q, q ≠ r → w'.heap[q]? = w.heap[q]?) → owp P n ops Q rest l w') : owp P n ops Q (⟨none, .mapUpdate t x y u, ty, pos, aft, none⟩ :: rest) l w := fun ac d ha => by
  refine wpList_plain rfl fun K' hK => ?_
  have hbd : (dr w d).heap[r]? = some (.map es.toArray ck) := hb
  unfold Oper.wp
  rcases find_spec a es xs 0 hks with ⟨g0, g1, _⟩ | ⟨j, e', p, g0, g1, g2, g3, g4, _⟩
  · have hr : (execOp ac.eval ⟨none, .mapUpdate t x y u, ty, pos, aft, none⟩).run P (dr w d) = .ok .skip { (dr w d) with heap := (dr w d).heap.setIfInBounds r (.map (es.toArray.push { key := MKey.enc a, val := v, born := ck }) (ck + 1)) } := by
      simp [execOp, ha.eval hx, ha.eval hy, ha.eval hu, Instr.mapUpdate, run_underlying ht.eq, MapKept.run_getObj_map hbd, MapKept.run_checkKey hk.eq (MKey.key a), MapKept.run_findKey hk.eq g1, MapKept.run_setObj_map _ hbd, Result.andThen]
    rw [hr]
    refine hK _ _ (h { w with heap := w.heap.setIfInBounds r (.map (es.toArray.push { key := MKey.enc a, val := v, born := ck }) (ck + 1)) } (ck + 1) rfl rfl rfl (by simp) ?_ (fun q hq => (MapKept.heap_set hb).2 q hq) _ d ha)
    rw [g0]
    simpa [putEs] using (MapKept.heap_set hb).1
  · have hj : es.toArray[j]? = some e' := by simpa using g1
    have hj' : es[j]? = some e' := g1
    rw [Nat.zero_add] at g3
    have hr : (execOp ac.eval ⟨none, .mapUpdate t x y u, ty, pos, aft, none⟩).run P (dr w d) = .ok .skip { (dr w d) with heap := (dr w d).heap.setIfInBounds r (.map (es.toArray.modify j fun e => { e with key := MKey.enc a, val := v }) ck) } := by
      simp [execOp, ha.eval hx, ha.eval hy, ha.eval hu, Instr.mapUpdate, run_underlying ht.eq, MapKept.run_getObj_map hbd, MapKept.run_checkKey hk.eq (MKey.key a), MapKept.run_findKey hk.eq g3, hj', g4, MapKept.run_keyThatStays (MKey.key a), MapKept.run_setObj_map _ hbd, Result.andThen]
    rw [hr]
    refine hK _ _ (h { w with heap := w.heap.setIfInBounds r (.map (es.toArray.modify j fun e => { e with key := MKey.enc a, val := v }) ck) } ck rfl rfl rfl (by simp) ?_ (fun q hq => (MapKept.heap_set hb).2 q hq) _ d ha)
    rw [g0]
    have := (MapKept.heap_set (o' := .map (es.toArray.modify j fun e => { e with key := MKey.enc a, val := v }) ck) hb).1
    simpa [putEs] using this
theorem owp_mkmap {t : TypeId} (hd : Nat.blt d n = true) (h : ∀ w', Ext w w' → w'.heap.size = w.heap.size + 1 → w'.heap[w.heap.size]? = some (.map #[] 0) → owp P n ops Q rest ((d, .map (some w.heap.size)) :: l) w') : owp P n ops Q (⟨some d, .makeMap t none, ty, pos, aft, none⟩ :: rest) l w :=
  owp_eff (w' := w.alloc (.map #[] 0)) (fun a e ha => .inl ⟨.map (some w.heap.size), e, by simp [execOp, Instr.makeMap]; exact ⟨rfl, rfl⟩, ha.put hd _⟩)
    (h _ ((Below.refl _ _).alloc (Nat.le_refl _) _) (by simp) (by show (w.heap.push _)[_]? = _; simp))
end
theorem putEs_keys {K V : Type} [MKey K] {es : List MapEntry} {xs : List (K × V)} (ck : Nat) (a : K) (v : Value) (y : V) (h : es.map (·.key) = xs.map (fun p => MKey.enc p.1)) : (putEs es ck (MKey.enc a) v (midx xs a)).map (·.key) = (mput xs a y).map (fun p => MKey.enc p.1) := by
  rcases find_spec a es xs 0 h with ⟨g0, _, _, _, g4⟩ | ⟨j, e', p, g0, g1, g2, g3, g4, _, _, g7⟩
  · rw [g0, g4]; simp [putEs, h]
  · rw [g0, g7]
    simp only [putEs, List.map_set, ← h]
    apply List.ext_getElem?
    intro q
    rw [List.getElem?_map, List.getElem?_modify, List.getElem?_set]
    by_cases hq : j = q
    · subst hq
      have hlt : j < es.length := lt_of_get g1
      simp [g1, hlt]
    · simp [hq]
/-- Maps to plain values. -/
structure MapP (K V : Type) where
  l : List (K × V)
def VA {V : Type} [Rp V] (w : World) (F : Nat → Prop) (es : List MapEntry) {K : Type} (xs : List (K × V)) : Prop := ∀ (j : Nat) (e : MapEntry) (p : K × V), es[j]? = some e → xs[j]? = some p → Vb w F e.val p.2
instance {K V : Type} [MKey K] [Rp V] : Ow (MapP K V) where
  R w F M v x := ∃ (r : Nat) (es : List MapEntry) (ck : Nat), v = .map (some r) ∧ w.heap[r]? = some (.map es.toArray ck) ∧ M r ∧ es.map (·.key) = x.l.map (fun p => MKey.enc p.1) ∧ VA w F es x.l
  agree := by rintro w w' F M v x ⟨r, es, ck, rfl, hb, hM, hk, hv⟩ a1 a2; exact ⟨r, es, ck, rfl, (a2 r hM).trans hb, hM, hk, fun j e p h1 h2 => (hv j e p h1 h2).agree a1⟩
  mono := by rintro w F M F' M' v x ⟨r, es, ck, rfl, hb, hM, hk, hv⟩ a1 a2 a3; exact ⟨r, es, ck, rfl, hb, a2 r hM, hk, fun j e p h1 h2 => (hv j e p h1 h2).mono a1⟩
theorem VA.put {K V : Type} [MKey K] [Rp V] {w : World} {F : Nat → Prop} {es : List MapEntry} {xs : List (K × V)} {ck : Nat} {a : K} {v : Value} {y : V} (hk : es.map (·.key) = xs.map (fun p => MKey.enc p.1)) (h : VA w F es xs) (hv : Vb w F v y) : VA w F (putEs es ck (MKey.enc a) v (midx xs a)) (mput xs a y) := by
  have hlen : es.length = xs.length := by have := congrArg List.length hk; simpa using this
  intro q e p h1 h2
  rcases find_spec a es xs 0 hk with ⟨g0, _, _, _, g4⟩ | ⟨j, e', p', g0, g1, g2, g3, g4, _, _, g7⟩
  · rw [g0] at h1
    rw [g4] at h2
    simp only [putEs] at h1
    by_cases hq : q < es.length
    · rw [List.getElem?_append_left hq] at h1
      rw [List.getElem?_append_left (by omega)] at h2
      exact h q e p h1 h2
    · rw [List.getElem?_append_right (by omega)] at h1
      rw [List.getElem?_append_right (by omega)] at h2
      cases hz : q - es.length with
      | zero =>
        rw [hz] at h1
        rw [show q - xs.length = 0 from by omega] at h2
        simp at h1 h2
        subst h1; subst h2
        exact hv
      | succ m => rw [hz] at h1; simp at h1
  · rw [g0] at h1
    rw [g7] at h2
    simp only [putEs] at h1
    rw [List.getElem?_modify] at h1
    rw [List.getElem?_set] at h2
    by_cases hq : j = q
    · subst hq
      have hlt := lt_of_get g2
      rw [g1] at h1
      simp [hlt] at h1 h2
      subst h1; subst h2
      exact hv
    · simp [hq] at h1 h2
      exact h q e p h1 h2
section
variable {K V : Type} [MKey K] [Rp V] {i : Nat} {w : World} {O : Lab} {r : Nat} {x : MapP K V}
theorem MapP.get (h : Ob i w O (.map (some r)) x) (a : K) {z : Value} {z0 : V} (hz : Vb w (Fr 0 w O) z z0) : ∃ v, LkV (MKey.desc K) z w r (MKey.enc a) v (mhas x.l a) ∧ Vb w (Fr 0 w O) v (mget z0 x.l a) := by
  obtain ⟨⟨r', es, ck, hv, hb, hM, hk, hva⟩, _⟩ := h
  injection hv with hv
  injection hv with hv
  subst hv
  rcases find_spec a es x.l 0 hk with ⟨g0, g1, g2, g3, g4⟩ | ⟨j, e', p, g0, g1, g2, g3, g4, g5, g6, g7⟩
  · exact ⟨z, ⟨_, ck, none, hb, by simpa using g1, rfl, g2⟩, by rw [g3]; exact hz⟩
  · exact ⟨e'.val, ⟨_, ck, some (0 + j, e'.val), hb, by simpa using g3, rfl, g5⟩, by rw [g6]; exact hva j e' p g1 g2⟩
end
section
variable {P : Program} {n : Nat} {ops : Array Oper} {Q : Post} {rest : List Oper} {l : Env} {w : World} {d : Tmp} {ty : TypeId} {pos : String} {aft : Array Edge} {K V : Type} [MKey K] {i : Nat} {O : Lab} {r : Nat}
theorem l_mput [Rp V] {x : MapP K V} {t k e : TypeId} [TMap P t k e] [TKey P k K] {m y u : Operand} {a : K} {v : Value} {b : V} (hM : Ob i w O (.map (some r)) x) (hv : Vb w (Fr 0 w O) v b) (hx : opv l m = some (.map (some r))) (hy : opv l y = some (MKey.enc a)) (hu : opv l u = some v)
    (h : ∀ w', St (eT i) w O w' O → Ob i w' O (.map (some r)) (⟨mput x.l a b⟩ : MapP K V) → owp P n ops Q rest l w') : owp P n ops Q (⟨none, .mapUpdate t m y u, ty, pos, aft, none⟩ :: rest) l w := by
  obtain ⟨⟨r', es, ck, hv', hb, hM', hk, hva⟩, hi⟩ := hM
  injection hv' with hv'
  injection hv' with hv'
  subst hv'
  refine owp_mput hb hk hx hy hu fun w' ck' e1 e2 e3 e4 e5 e6 => ?_
  have hS : St (eT i) w O w' O := ⟨e1, e2, e3, by omega, fun q hq hT => ⟨e6 q fun e => hT (by rw [e]; exact hM'.2), rfl⟩⟩
  have h0 : ¬ (eT i) 0 := fun e => hi e.symm
  refine h w' hS ⟨⟨r, _, ck', rfl, e5, ⟨by rw [e4]; exact hM'.1, hM'.2⟩, putEs_keys ck a v b hk, ?_⟩, hi⟩
  have := hva.put (ck := ck) hk hv (a := a)
  exact fun j e p h1 h2 => ((this j e p h1 h2).agree (hS.agree h0)).mono (hS.fr h0)
theorem l_mkmap [Rp V] {t : TypeId} (i : Nat) (hi : i ≠ 0) (O : Lab) (hd : Nat.blt d n = true) (h : ∀ g w' O', St nT w O w' O' → Ob i w' O' (.map (some g)) (⟨[]⟩ : MapP K V) → owp P n ops Q rest ((d, .map (some g)) :: l) w') : owp P n ops Q (⟨some d, .makeMap t none, ty, pos, aft, none⟩ :: rest) l w :=
  owp_mkmap hd fun w' hE hs hb => h _ w' _ (hE.st O fun _ => i) ⟨⟨w.heap.size, [], 0, rfl, hb, ⟨by omega, upO_new (Nat.le_refl _)⟩, rfl, fun j e p h1 _ => by simp at h1⟩, hi⟩
end
section
variable {P : Program} {n : Nat} {ops : Array Oper} {Q : Post} {rest : List Oper} {l : Env} {w : World} {d : Tmp} {ty : TypeId} {pos : String} {aft : Array Edge} {S : World → Prop} {rr : List (Nat × Bool)} {i' : Nat}
theorem o_lk {K : Type} [MKey K] {t k e : TypeId} [TMap P t k e] [TKey P k K] {z : Value} {size bytes : Nat} [TInfo P e z size bytes] {x y : Operand} {r : Nat} {v : Value} {b : Bool} (a : K) (hv : LkV (MKey.desc K) z w r (MKey.enc a) v b) (hx : opv l x = some (.map (some r))) (hy : opv l y = some (MKey.enc a)) (hd : Nat.blt d n = true) (h : owp P n ops Q rest ((d, v) :: l) w) : owp P n ops Q (⟨some d, .lookup t x y false, ty, pos, aft, none⟩ :: rest) l w := owp_ev (ev_lk hx hy hv) hd h
end
end
section
open Go Go.RowKit
/-- A number as a byte. -/
def bw (a : Int) : Byt := ⟨a % 256, by omega, by omega⟩
theorem wrap_u8 (a : Int) : IntKind.u8.wrap a = (bw a).n := by
  unfold bw
  simp [IntKind.wrap, IntKind.bits, IntKind.signed]
/-- Bytes as a string. -/
def strB (xs : List Byt) : ByteArray := ⟨(xs.map fun b => UInt8.ofNat b.n.toNat).toArray⟩
theorem strB_size (xs : List Byt) : (strB xs).size = xs.length := by simp [strB, ByteArray.size]
section
variable {P : Program} {l : Env} {w : World} {dst : Option Tmp} {ty : TypeId} {pos : String} {aft : Array Edge}
theorem ev_c8 {s t : TypeId} {k : IntKind} [hs : TInt P s k] [ht : TInt P t .u8] {x : Operand} {a : Int} (hx : opv l x = some (.int k a)) : Ev P ⟨dst, .convert s t x, ty, pos, aft, none⟩ l w (.int .u8 (bw a).n) := fun _ _ d ha => by
  simp [execOp, ha.eval hx, convert, run_underlying hs.eq, run_underlying ht.eq, Conv.intToInt, wrap_u8]
theorem chunks_byt {F : Nat → Prop} : ∀ {xs : List Byt} {cells : List Value}, Chunks w F cells xs → cells = xs.map fun b => .int .u8 b.n
  | [], _, h => h
  | x :: xs, _, ⟨cs, rest, he, hr, hc⟩ => by
    have h1 : cs = [.int .u8 x.n] := hr
    rw [he, h1, chunks_byt hc]; rfl
theorem strB_push (xs : List Byt) : ∀ (d : Array UInt8), xs.foldl (fun s b => s.push (UInt8.ofNat b.n.toNat)) (⟨d⟩ : ByteArray) = ⟨d ++ (xs.map fun b => UInt8.ofNat b.n.toNat).toArray⟩ := by
  induction xs with
  | nil => intro d; simp
  | cons x xs ih =>
    intro d
    rw [List.foldl_cons]
    have := ih (d.push (UInt8.ofNat x.n.toNat))
    show List.foldl _ (⟨d.push (UInt8.ofNat x.n.toNat)⟩ : ByteArray) xs = _
    rw [this]
    congr 1
    apply Array.toList_inj.1
    simp
theorem strB_fold (xs : List Byt) : xs.foldl (fun s b => s.push (UInt8.ofNat b.n.toNat)) ByteArray.empty = strB xs := by
  have := strB_push xs #[]
  show List.foldl _ (⟨#[]⟩ : ByteArray) xs = _
  rw [this]
  unfold strB
  congr 1
  apply Array.toList_inj.1
  simp
theorem ev_bs {s t e : TypeId} [hs : TSlice P s e] [he : TInt P e .u8] [ht : TStr P t] {x : Operand} {v : Value} {F : Nat → Prop} {xs : List Byt} (hx : opv l x = some v) (hv : Vb w F v xs) : Ev P ⟨dst, .convert s t x, ty, pos, aft, none⟩ l w (.string (strB xs)) := fun _ _ d ha => by
  obtain ⟨A, c, cells, rfl, h1, h2, h3, h4⟩ := hv.slice
  have hc := chunks_byt h3
  subst hc
  cases A with
  | none =>
    have h0 : xs = [] := by
      by_cases h : 0 < xs.length
      · obtain ⟨b, o, hb, _⟩ := h4 h; cases hb
      · exact List.eq_nil_of_length_eq_zero (by omega)
    subst h0
    simp [execOp, ha.eval hx, convert, run_underlying hs.eq, run_underlying he.eq, run_underlying ht.eq, Conv.bytesToString]
    rfl
  | some ad =>
    by_cases h : 0 < xs.length
    · obtain ⟨b, o, hb, _, hcell⟩ := h4 h
      obtain rfl := Option.some.inj hb
      have := run_loadCellsFrom (P := P) (dr w d) b o (xs.map fun b => Value.int .u8 b.n) 0 #[] (fun j v hv => by rw [Nat.zero_add]; exact cellsAt_get hcell j v hv)
      rw [List.length_map] at this
      simp [execOp, ha.eval hx, convert, run_underlying hs.eq, run_underlying he.eq, run_underlying ht.eq, Conv.bytesToString, loadCells, this, strB_fold]
    · have h0 : xs = [] := List.eq_nil_of_length_eq_zero (by omega)
      subst h0
      simp [execOp, ha.eval hx, convert, run_underlying hs.eq, run_underlying he.eq, run_underlying ht.eq, Conv.bytesToString, loadCells, loadCellsFrom]
      rfl
end
/-- Bytes as a string that is not too long. -/
def strI (xs : List Byt) : Option ByteArray := if xs.length ≤ 9223372036854775807 then some (strB xs) else none
theorem strI_some {xs : List Byt} {c : ByteArray} (h : strI xs = some c) : c = strB xs ∧ xs.length ≤ 9223372036854775807 := by
  unfold strI at h
  split at h
  · exact ⟨(sm h).symm, by assumption⟩
  · cases h
theorem strI_eq {xs : List Byt} (h : xs.length ≤ 9223372036854775807) : strI xs = some (strB xs) := if_pos h
theorem strI_sz {xs : List Byt} {c : ByteArray} (h : strI xs = some c) : c.size ≤ 9223372036854775807 := by
  obtain ⟨rfl, h2⟩ := strI_some h
  rw [strB_size]; exact h2
section
variable {P : Program} {n : Nat} {ops : Array Oper} {Q : Post} {rest : List Oper} {l : Env} {w : World} {d : Tmp} {ty : TypeId} {pos : String} {aft : Array Edge}
theorem o_c8 {s t : TypeId} {k : IntKind} [TInt P s k] [TInt P t .u8] {x : Operand} {a : Int} (hx : opv l x = some (.int k a)) (hd : Nat.blt d n = true) (h : owp P n ops Q rest ((d, .int .u8 (bw a).n) :: l) w) : owp P n ops Q (⟨some d, .convert s t x, ty, pos, aft, none⟩ :: rest) l w := owp_ev (ev_c8 hx) hd h
theorem o_bs {s t e : TypeId} [TSlice P s e] [TInt P e .u8] [TStr P t] {x : Operand} {v : Value} {F : Nat → Prop} {xs : List Byt} {c : ByteArray} (hx : opv l x = some v) (hv : Vb w F v xs) (he : strI xs = some c) (hd : Nat.blt d n = true) (h : owp P n ops Q rest ((d, .string c) :: l) w) : owp P n ops Q (⟨some d, .convert s t x, ty, pos, aft, none⟩ :: rest) l w := by
  obtain ⟨rfl, _⟩ := strI_some he
  exact owp_ev (ev_bs hx hv) hd h
theorem l_ins {t : TypeId} {m y u : Operand} (h : owp P n ops Q (⟨none, .mapUpdate t m y u, ty, pos, aft, none⟩ :: rest) l w) : owp P n ops Q (⟨none, .insert t m y u, ty, pos, aft, none⟩ :: rest) l w := fun ac d ha => h ac d ha
end
end
section
open Go Go.RowKit
def lift1 (n : Nat) (Q : Post) (e : Exit) (a : Act) (w : World) : Prop := noPanic e ∧ ∃ l, Ok n a l ∧ Q e l w
def ewp1 (P : Program) (n : Nat) (c : Code) (Q : Post) (l : Env) (w : World) : Prop := ∀ a, Ok n a l → c.wp P (lift1 n Q) a w
def owp1 (P : Program) (n : Nat) (ops : Array Oper) (Q : Post) (rest : List Oper) (l : Env) (w : World) : Prop := ∀ a, Ok n a l → wpList P ops (lift1 n Q) rest a w
section
variable {P : Program} {n : Nat} {Q : Post} {l : Env} {w : World}
theorem one_seq {x y : Code} (h : ewp1 P n x (thn (ewp1 P n y Q) Q) l w) : ewp1 P n (.seq x y) Q l w := fun a ha =>
  wp_seq (Code.wp_mono (fun e a w hl => by
    obtain ⟨hn, l', ho, hq⟩ := hl
    cases e with
    | normal => exact hq a ho
    | panic c => exact hn.elim
    | outgrown => exact hn.elim
    | exit i => exact ⟨trivial, l', ho, hq⟩
    | goto i => exact ⟨trivial, l', ho, hq⟩
    | ret => exact ⟨trivial, l', ho, hq⟩) (h a ha))
theorem one_skip (h : Q .normal l w) : ewp1 P n .skip Q l w := fun _ ha => wp_skip ⟨trivial, l, ha, h⟩
theorem one_exit {i : Nat} (h : Q (.exit i) l w) : ewp1 P n (.exit i) Q l w := fun _ ha => wp_exit ⟨trivial, l, ha, h⟩
theorem one_ret (h : Q .ret l w) : ewp1 P n .ret Q l w := fun _ ha => wp_ret ⟨trivial, l, ha, h⟩
theorem one_true {c : Operand} {x y : Code} (hc : opv l c = some (.bool true)) (h : ewp1 P n x Q l w) : ewp1 P n (.cond c x y) Q l w := fun a ha => wp_cond_true (ha.eval hc) (h a ha)
theorem one_false {c : Operand} {x y : Code} (hc : opv l c = some (.bool false)) (h : ewp1 P n y Q l w) : ewp1 P n (.cond c x y) Q l w := fun a ha => wp_cond_false (ha.eval hc) (h a ha)
theorem one_block {id : Nat} {c : Code} (h : ewp1 P n c (inBlk id Q) l w) : ewp1 P n (.block id c) Q l w := fun a ha =>
  wp_block (Code.wp_mono (fun e a w hl => by
    obtain ⟨hn, l', ho, hq⟩ := hl
    cases e with
    | exit i =>
      simp only [Exit.inBlock]
      simp only [inBlk] at hq
      by_cases hi : i = id
      · subst hi
        have hb : Nat.beq i i = true := Nat.beq_refl i
        rw [hb] at hq
        rw [if_pos rfl]
        exact ⟨trivial, l', ho, hq⟩
      · have hb : Nat.beq i id = false := by
          cases hx : Nat.beq i id
          · rfl
          · exact absurd (Nat.eq_of_beq_eq_true hx) hi
        rw [hb] at hq
        rw [if_neg hi]
        exact ⟨trivial, l', ho, hq⟩
    | panic c => exact hn.elim
    | outgrown => exact hn.elim
    | normal => exact ⟨trivial, l', ho, hq⟩
    | goto i => exact ⟨trivial, l', ho, hq⟩
    | ret => exact ⟨trivial, l', ho, hq⟩) (h a ha))
theorem one_region {id : Nat} {L : List Oper} (h : owp1 P n L.toArray Q L l w) : ewp1 P n (.region id L.toArray false) Q l w := fun a ha => wp_region_lit (h a ha)
/-- A loop over a number that grows up to a bound; the world stays. -/
theorem one_loop {c : Code} (E : Nat → Env) (I : Nat → Prop) (N k₀ : Nat) (hs : subs l (E k₀)) (h₀ : I k₀)
    (round : ∀ k, I k → k ≤ N ∧ ewp1 P n c (thn (fun l' w' => w' = w ∧ subs l' (E (k + 1)) ∧ I (k + 1)) Q) (E k) w) : ewp1 P n (.loop c) Q l w := by
  intro a ha
  have hex : ∀ a' w', (∃ k, w' = w ∧ Ok n a' (E k) ∧ I k) → ∃ m, (∃ k, w' = w ∧ Ok n a' (E k) ∧ I k ∧ N - k = m) ∧ ∀ k, Ok n a' (E k) → I k → m ≤ N - k := by
    intro a' w' ⟨k, h1, h2, h3⟩
    have : ∀ (q k : Nat), N - k ≤ q → Ok n a' (E k) → I k → ∃ m, (∃ k, w' = w ∧ Ok n a' (E k) ∧ I k ∧ N - k = m) ∧ ∀ k, Ok n a' (E k) → I k → m ≤ N - k := by
      intro q
      induction q with
      | zero => intro k hq ho hI; exact ⟨N - k, ⟨k, h1, ho, hI, rfl⟩, fun _ _ _ => by omega⟩
      | succ q ih =>
        intro k hq ho hI
        by_cases hx : ∃ k', Ok n a' (E k') ∧ I k' ∧ N - k' ≤ q
        · obtain ⟨k', g1, g2, g3⟩ := hx
          exact ih k' g3 g1 g2
        · refine ⟨N - k, ⟨k, h1, ho, hI, rfl⟩, fun k' g1 g2 => ?_⟩
          rcases Nat.lt_or_ge (N - k') (N - k) with h | h
          · exact absurd ⟨k', g1, g2, by omega⟩ hx
          · exact h
    exact this _ k (Nat.le_refl _) h2 h3
  refine wp_loop (fun a' w' => ∃ k, w' = w ∧ Ok n a' (E k) ∧ I k) (fun a' w' => Classical.epsilon fun m => (∃ k, w' = w ∧ Ok n a' (E k) ∧ I k ∧ N - k = m) ∧ ∀ k, Ok n a' (E k) → I k → m ≤ N - k) ⟨k₀, rfl, ha.sub hs, h₀⟩ ?_
  intro a' w' hinv
  obtain ⟨⟨k, rfl, ho, hI, hk⟩, _⟩ := Classical.epsilon_spec (hex a' w' hinv)
  obtain ⟨hkN, hr⟩ := round k hI
  refine Code.wp_mono (fun e a'' w'' hl => ?_) (hr a' ho)
  obtain ⟨hn, l', ho', hq⟩ := hl
  cases e with
  | normal =>
    obtain ⟨rfl, hs₂, hI₂⟩ := hq
    have ho₂ := ho'.sub hs₂
    refine ⟨⟨k + 1, rfl, ho₂, hI₂⟩, ?_⟩
    obtain ⟨_, hmin⟩ := Classical.epsilon_spec (hex a'' w'' ⟨k + 1, rfl, ho₂, hI₂⟩)
    have h1 := hmin (k + 1) ho₂ hI₂
    have h2 := (round (k + 1) hI₂).1
    exact Nat.lt_of_le_of_lt h1 (Nat.lt_of_lt_of_eq (by omega) hk)
  | panic c => exact hn.elim
  | outgrown => exact hn.elim
  | exit i => exact ⟨trivial, l', ho', hq⟩
  | goto i => exact ⟨trivial, l', ho', hq⟩
  | ret => exact ⟨trivial, l', ho', hq⟩
variable {ops : Array Oper} {rest : List Oper} {d : Tmp} {ty : TypeId} {pos : String} {aft : Array Edge}
theorem one_z {K : Env → World → Prop} [h : NilQ Q K] (hk : K l w) : owp1 P n ops Q [] l w := fun _ ha => wpList_nil ⟨trivial, l, ha, h.of l w hk⟩
theorem one_op {op : Op} {v : Value} (he : Ev P ⟨some d, op, ty, pos, aft, none⟩ l w v) (hd : Nat.blt d n = true) (h : owp1 P n ops Q rest ((d, v) :: l) w) : owp1 P n ops Q (⟨some d, op, ty, pos, aft, none⟩ :: rest) l w :=
  fun a ha => wpList_plain rfl fun K hK => by
    unfold Oper.wp
    have := he n a w.drawn ha
    rw [dr_self] at this
    rw [this]
    exact hK _ _ (h _ (ha.put hd v))
theorem one_call {f : FuncId} [hf : Callable P f] {xs : List Operand} {vs : List Value} {ts : Array TypeId} {v : Value} (hx : opvs l xs = some vs) (hd : Nat.blt d n = true) (hc : Calls P f vs.toArray w fun e w' => e = .returned v ∧ w' = w)
    (h : owp1 P n ops Q rest ((d, v) :: l) w) : owp1 P n ops Q (⟨some d, .call { callee := .value (.func f), args := xs.toArray, argTypes := ts }, ty, pos, aft, none⟩ :: rest) l w :=
  fun a ha => wpList_plain rfl fun K hK => by
    obtain ⟨fn, h1, h2, h3⟩ := hf.eq
    have h2' : ¬ fn.body = none := fun e => by rw [e] at h2; simp at h2
    have h3' : ¬ fn.name = "runtime.NumGoroutine" := fun e => by rw [e] at h3; simp at h3
    unfold Oper.wp
    have hev : a.eval (.func f) = .func (.func f) #[] #[] := rfl
    have : (execOp a.eval ⟨some d, .call { callee := .value (.func f), args := xs.toArray, argTypes := ts }, ty, pos, aft, none⟩).run P w = .ok (.enter f vs.toArray) w := by
      simp [execOp, resolve, hev, Deferred.ofValue, invoke, callFunc, h1, h2', h3', ha.evals hx]
    rw [this]
    exact hc.mono fun _ _ ⟨he, hw⟩ => by subst he; subst hw; exact hK _ _ (h _ (ha.put hd v))
end
theorem one_enter {P : Program} {f : FuncId} {fn : Func} {c : Code} {vs : List Value} {w : World} {v : Value} {n : Nat} (hf : P.funcs[f]? = some fn) (hb : fn.body = some c) (hn : fn.ntmps = n) (hl : Nat.ble vs.length n = true)
    (h : ewp1 P n c (retPost P fn fun u w' => u = v ∧ w' = w) (ent 0 vs) w) : Calls P f vs.toArray w fun e w' => e = .returned v ∧ w' = w := by
  have hl' : vs.length ≤ n := by simpa using hl
  refine calls_of_wp hf hb (Code.wp_mono (fun e a w' hq => ?_) (h _ (?_ : Ok n { tmps := vs.toArray ++ Array.replicate (fn.ntmps - vs.toArray.size) undef, defers := [] } (ent 0 vs))))
  · obtain ⟨hp, l, ho, q⟩ := hq
    cases e with
    | normal => obtain ⟨v', hr, hv, hw⟩ := q; subst hv hw; have := hr n a w'.drawn ho; rw [dr_self] at this; exact ⟨ho.defers, v', this, rfl, rfl⟩
    | ret => obtain ⟨v', hr, hv, hw⟩ := q; subst hv hw; have := hr n a w'.drawn ho; rw [dr_self] at this; exact ⟨ho.defers, v', this, rfl, rfl⟩
    | panic c => exact hp.elim
    | outgrown => exact hp.elim
    | exit i => exact q.elim
    | goto i => exact q.elim
  · refine ⟨by simp [hn]; omega, rfl, fun i v hv => ?_⟩
    obtain ⟨_, h2⟩ := lk_ent vs 0 i v hv
    simp only [Nat.sub_zero] at h2
    have hi : i < vs.length := (List.getElem?_eq_some_iff.1 h2).1
    simp only [Array.getD_eq_getD_getElem?]
    rw [Array.getElem?_append_left (by simpa using hi)]
    simp [h2]
end
section
open Go Go.RowKit Go.Lib Go.Sort
/-- Lists of numbers by the first difference. -/
def cfL : List Int → List Int → Int
  | [], [] => 0
  | [], _ :: _ => -1
  | _ :: _, [] => 1
  | x :: xs, y :: ys => if Lib.compareInt x y ≠ 0 then Lib.compareInt x y else cfL xs ys
theorem some_lt {α : Type} {l : List α} {k : Nat} (h : k < l.length) : ∃ x, l[k]? = some x := ⟨l[k], List.getElem?_eq_getElem h⟩
theorem drop_nil {α : Type} {l : List α} {k : Nat} (h : l.length ≤ k) : l.drop k = [] := List.drop_eq_nil_of_le h
theorem cfL_step {xs ys : List Int} {k : Nat} {x y : Int} (hx : xs[k]? = some x) (hy : ys[k]? = some y) : cfL (xs.drop k) (ys.drop k) = if Lib.compareInt x y ≠ 0 then Lib.compareInt x y else cfL (xs.drop (k + 1)) (ys.drop (k + 1)) := by
  have h1 : xs.drop k = x :: xs.drop (k + 1) := by
    rw [List.drop_eq_getElem_cons (lt_of_get hx)]
    rw [List.getElem?_eq_getElem (lt_of_get hx)] at hx
    rw [Option.some.inj hx]
  have h2 : ys.drop k = y :: ys.drop (k + 1) := by
    rw [List.drop_eq_getElem_cons (lt_of_get hy)]
    rw [List.getElem?_eq_getElem (lt_of_get hy)] at hy
    rw [Option.some.inj hy]
  rw [h1, h2]
  rfl
theorem compareL {W : World} {F F' : Nat → Prop} {v1 v2 : Value} {xs ys : List Int} (h1 : Vb W F v1 xs) (h2 : Vb W F' v2 ys) : Calls Try.prog 57 [v1, v2].toArray W fun e w' => e = .returned (.int .i64 (cfL xs ys)) ∧ w' = W := by
  obtain ⟨A1, c1, rfl⟩ := h1.form
  obtain ⟨A2, c2, rfl⟩ := h2.form
  have l1 : xs.length ≤ 9223372036854775807 := Nat.le_trans h1.len.2.1 h1.len.2.2
  refine one_enter Try.func57 rfl Try.ntmps57 rfl ?_
  refine one_seq (one_region (one_op (ev_assign rfl) rfl (one_z ?_)))
  refine one_seq (one_seq (one_region (one_op (ev_move rfl) rfl (one_op (ev_len rfl) rfl (one_op (ev_move rfl) rfl (one_z ?_))))))
  refine one_block (one_loop (fun k => [(0, .slice A1 xs.length c1), (1, .slice A2 ys.length c2), (9, .slice A1 xs.length c1), (10, .int .i64 (xs.length : Int)), (11, .int .i64 (k : Int))]) (fun k => k ≤ xs.length ∧ k ≤ ys.length ∧ cfL xs ys = cfL (xs.drop k) (ys.drop k)) xs.length 0 ⟨rfl, rfl, rfl, rfl, rfl, trivial⟩ ⟨Nat.zero_le _, Nat.zero_le _, rfl⟩ fun k hk => ⟨hk.1, ?_⟩)
  obtain ⟨k1, k2, k3⟩ := hk
  refine one_seq (one_region (one_op (ev_lss rfl rfl) rfl (one_z ?_)))
  refine one_seq ?_
  by_cases hlt : (k : Int) < (xs.length : Int)
  · rw [decide_eq_true hlt]
    refine one_true rfl (one_skip ?_)
    obtain ⟨x, hx⟩ := some_lt (l := xs) (k := k) (by omega)
    obtain ⟨b1, o1, ce1, hA1, hl1, hd1, rfl, r1⟩ := h1.elem' hx
    refine one_seq (one_block ?_)
    refine one_seq (one_region (one_op (ev_move rfl) rfl (one_op (ev_iaE rfl rfl hA1 rfl hl1) rfl (one_op (ev_load1 rfl (cat0 hd1)) rfl (one_op (ev_assign rfl) rfl (one_op (ev_assign rfl) rfl (one_z ?_)))))))
    refine one_seq (one_seq (one_region (one_op (ev_move rfl) rfl (one_op (ev_move rfl) rfl (one_op (ev_len rfl) rfl (one_op (ev_geq rfl rfl) rfl (one_z ?_)))))))
    by_cases hge : (ys.length : Int) ≤ (k : Int)
    · rw [decide_eq_true hge]
      refine one_true rfl (one_seq (one_region (one_op (ev_assign rfl) rfl (one_z ?_))))
      have hv : (1 : Int) = cfL xs ys := by
        rw [k3, drop_nil (l := ys) (by omega), List.drop_eq_getElem_cons (lt_of_get hx)]
        rfl
      refine one_ret ?_
      exact ⟨_, res1 rfl (res_tmp rfl), by rw [hv], rfl⟩
    · rw [decide_eq_false hge]
      refine one_false rfl (one_skip ?_)
      obtain ⟨y, hy⟩ := some_lt (l := ys) (k := k) (by omega)
      obtain ⟨b2, o2, ce2, hA2, hl2, hd2, rfl, r2⟩ := h2.elem' hy
      refine one_seq (one_region (one_op (ev_move rfl) rfl (one_op (ev_move rfl) rfl (one_op (ev_iaE rfl rfl hA2 rfl hl2) rfl (one_op (ev_load1 rfl (cat0 hd2)) rfl (one_op (ev_assign rfl) rfl (one_z ?_)))))))
      refine one_seq (one_region (one_op (ev_move rfl) rfl (one_op (ev_move rfl) rfl (one_call rfl rfl (compareI x y W) (one_op (ev_assign rfl) rfl (one_z ?_))))))
      refine one_seq (one_region (one_op (ev_move rfl) rfl (one_op (ev_ne rfl rfl) rfl (one_z ?_))))
      have hst := cfL_step hx hy
      by_cases hc : Lib.compareInt x y ≠ 0
      · rw [decide_eq_true hc]
        rw [if_pos hc] at hst
        have hv : Lib.compareInt x y = cfL xs ys := by rw [k3, hst]
        refine one_true rfl (one_seq (one_region (one_op (ev_move rfl) rfl (one_op (ev_assign rfl) rfl (one_z ?_)))))
        refine one_ret ?_
        exact ⟨_, res1 rfl (res_tmp rfl), by rw [hv], rfl⟩
      · rw [decide_eq_false hc]
        rw [if_neg hc] at hst
        refine one_false rfl (one_skip ?_)
        refine one_region (one_op (ev_add rfl rfl (by omega)) rfl (one_op (ev_move rfl) rfl (one_z ?_)))
        exact ⟨rfl, ⟨rfl, rfl, rfl, rfl, rfl, trivial⟩, by omega, by omega, by rw [k3, hst]⟩
  · rw [decide_eq_false hlt]
    refine one_false rfl (one_exit ?_)
    refine one_seq (one_seq (one_region (one_op (ev_move rfl) rfl (one_op (ev_len rfl) rfl (one_op (ev_move rfl) rfl (one_op (ev_len rfl) rfl (one_op (ev_lss rfl rfl) rfl (one_z ?_))))))))
    have hkx : k = xs.length := by omega
    by_cases hll : (xs.length : Int) < (ys.length : Int)
    · rw [decide_eq_true hll]
      have hv : (-1 : Int) = cfL xs ys := by
        rw [k3, hkx, List.drop_length, List.drop_eq_getElem_cons (l := ys) (i := xs.length) (by omega)]
        rfl
      refine one_true rfl (one_seq (one_region (one_op (ev_assign rfl) rfl (one_z ?_))))
      refine one_ret ?_
      exact ⟨_, res1 rfl (res_tmp rfl), by rw [hv], rfl⟩
    · rw [decide_eq_false hll]
      have hv : (0 : Int) = cfL xs ys := by
        rw [k3, hkx, List.drop_length, drop_nil (l := ys) (by omega)]
        rfl
      refine one_false rfl (one_skip ?_)
      refine one_seq (one_region (one_op (ev_assign rfl) rfl (one_z ?_)))
      refine one_ret ?_
      exact ⟨_, res1 rfl (res_tmp rfl), by rw [hv], rfl⟩
end
section
open Go.Shelf
def Try.laysS_f59_ren : Go.Shelf.Ren := ⟨fun | 6 => 59 | 15 => 82 | 14 => 81 | 28 => 101 | 29 => 102 | 20 => 93 | 21 => 94 | 22 => 95 | 23 => 96 | 24 => 97 | 25 => 98 | 26 => 99 | 27 => 100 | 46 => 105 | 47 => 106 | 48 => 107 | 49 => 108 | 50 => 109 | 57 => 118 | n => n, fun | 22 => 27 | 24 => 22 | 25 => 65 | 3 => 3 | 39 => 116 | 0 => 0 | 53 => 135 | 55 => 137 | 4 => 4 | 46 => 129 | 45 => 128 | 50 => 71 | 5 => 5 | 9 => 9 | 66 => 140 | 70 => 144 | 76 => 151 | 77 => 152 | n => n, fun | n => n⟩
theorem Try.laysS_f59 : Go.Proofs.SlLaysF.n6 Try.prog Try.laysS_f59_ren := {
  mixed := by kernel_rfl
  f6 := ⟨Try.f59.name, by decide, Try.func59.trans (congrArg some (by kernel_rfl))⟩
  f14 := ⟨Try.f81.name, by decide, Try.func81.trans (congrArg some (by kernel_rfl))⟩
  f15 := Try.func82.trans (congrArg some (by kernel_rfl))
  f20 := ⟨Try.f93.name, by decide, Try.func93.trans (congrArg some (by kernel_rfl))⟩
  f21 := ⟨Try.f94.name, by decide, Try.func94.trans (congrArg some (by kernel_rfl))⟩
  f22 := ⟨Try.f95.name, by decide, Try.func95.trans (congrArg some (by kernel_rfl))⟩
  f23 := ⟨Try.f96.name, by decide, Try.func96.trans (congrArg some (by kernel_rfl))⟩
  f24 := ⟨Try.f97.name, by decide, Try.func97.trans (congrArg some (by kernel_rfl))⟩
  f25 := ⟨Try.f98.name, by decide, Try.func98.trans (congrArg some (by kernel_rfl))⟩
  f26 := ⟨Try.f99.name, by decide, Try.func99.trans (congrArg some (by kernel_rfl))⟩
  f27 := ⟨Try.f100.name, by decide, Try.func100.trans (congrArg some (by kernel_rfl))⟩
  f28 := Try.func101.trans (congrArg some (by kernel_rfl))
  f29 := Try.func102.trans (congrArg some (by kernel_rfl))
  f46 := ⟨Try.f105.name, by decide, Try.func105.trans (congrArg some (by kernel_rfl))⟩
  f47 := Try.func106.trans (congrArg some (by kernel_rfl))
  f48 := Try.func107.trans (congrArg some (by kernel_rfl))
  f49 := ⟨Try.f108.name, by decide, Try.func108.trans (congrArg some (by kernel_rfl))⟩
  f50 := ⟨Try.f109.name, by decide, Try.func109.trans (congrArg some (by kernel_rfl))⟩
  f57 := ⟨Try.f118.name, by decide, Try.func118.trans (congrArg some (by kernel_rfl))⟩
  t0 := Try.underlying0
  a0 := Try.isAgg0
  z0 := Try.sizeOf0
  v0 := Try.zeroValue0
  t3 := Try.underlying3
  a3 := Try.isAgg3
  z3 := Try.sizeOf3
  v3 := Try.zeroValue3
  t4 := Try.underlying4
  a4 := Try.isAgg4
  z4 := Try.sizeOf4
  v4 := Try.zeroValue4
  t5 := Try.underlying5
  a5 := Try.isAgg5
  z5 := Try.sizeOf5
  v5 := Try.zeroValue5
  t9 := Try.underlying9
  a9 := Try.isAgg9
  z9 := Try.sizeOf9
  v9 := Try.zeroValue9
  t22 := Try.underlying27
  a22 := Try.isAgg27
  z22 := Try.sizeOf27
  v22 := Try.zeroValue27
  a24 := Try.isAgg22
  z24 := Try.sizeOf22
  t25 := Try.underlying65
  a25 := Try.isAgg65
  z25 := Try.sizeOf65
  v25 := Try.zeroValue65
  t39 := Try.underlying116
  a39 := Try.isAgg116
  z39 := Try.sizeOf116
  v39 := Try.zeroValue116
  t45 := Try.underlying128
  a45 := Try.isAgg128
  z45 := Try.sizeOf128
  v45 := Try.zeroValue128
  t46 := Try.underlying129
  a46 := Try.isAgg129
  z46 := Try.sizeOf129
  v46 := Try.zeroValue129
  t50 := Try.underlying71
  a50 := Try.isAgg71
  z50 := Try.sizeOf71
  v50 := Try.zeroValue71
  t53 := Try.underlying135
  a53 := Try.isAgg135
  z53 := Try.sizeOf135
  v53 := Try.zeroValue135
  t55 := Try.underlying137
  a55 := Try.isAgg137
  z55 := Try.sizeOf137
  v55 := Try.zeroValue137
  t66 := Try.underlying140
  a66 := Try.isAgg140
  z66 := Try.sizeOf140
  v66 := Try.zeroValue140
  t70 := Try.underlying144
  a70 := Try.isAgg144
  z70 := Try.sizeOf144
  v70 := Try.zeroValue144
  t76 := Try.underlying151
  a76 := Try.isAgg151
  z76 := Try.sizeOf151
  v76 := Try.zeroValue151
  t77 := Try.underlying152
  a77 := Try.isAgg152
  z77 := Try.sizeOf152
  v77 := Try.zeroValue152 }
open Go.RowKit Go.Lib Go.Sort in
theorem Try.sortL_eq {α : Type} [Inhabited α] (enc : α → Value) (h1 : OneCell enc) (cf : α → α → Int) (hO : SWO (ltOf cf)) (g : Nat) (cb : Array Value) (blk off cap : Nat) (d : Array α) (w : World) (eg : ∀ args w, (callFunc g args).run Try.prog w = .ok (.enter g args) w) (hcmp : CmpLays1 Try.prog g cb enc cf blk off d.size w) (hH : Holds enc w blk off d) (hblk : blk < w.heap.size) (hsz : d.size < 4611686018427387904) :
    Calls Try.prog 59 #[.slice (some ⟨blk, off, none⟩) d.size cap, .func (.func g) #[] cb] w fun e w' =>
      e = .returned (.tuple #[]) ∧ ∃ n os, w' = sortWorld enc w blk off n (pdq (ltOf cf) d 0 d.size (Lib.bitLen d.size) true true) os := Any.slices_SortFunc_eq Try.laysS_f59 enc h1 cf hO g cb blk off cap d w eg hcmp hH hblk hsz
open Go.RowKit Go.Lib Go.Sort in
theorem Try.sortL_none {α : Type} [Inhabited α] (p : Option Addr) (cap : Nat) (fv : Value) (w : World) :
    Calls Try.prog 59 #[.slice p 0 cap, fv] w fun e w' => e = .returned (.tuple #[]) ∧ w' = w := AnyF.slices_SortFunc_none { Try.laysS_f59 with } p cap fv w
end
section
open Go Go.RowKit Go.Lib Go.Sort
theorem ci_cases (x y : Int) : (x < y ∧ Lib.compareInt x y = -1) ∨ (x = y ∧ Lib.compareInt x y = 0) ∨ (y < x ∧ Lib.compareInt x y = 1) := by
  unfold Lib.compareInt
  by_cases h : x < y
  · simp [h]
  · by_cases h2 : y < x
    · simp [h, h2]
    · right; left; simp [h, h2]; omega
theorem cfL_eq : ∀ {x y : List Int}, cfL x y = 0 → x = y
  | [], [], _ => rfl
  | [], _ :: _, h => by simp [cfL] at h
  | _ :: _, [], h => by simp [cfL] at h
  | a :: x, b :: y, h => by
    simp only [cfL] at h
    rcases ci_cases a b with ⟨_, h2⟩ | ⟨h1, h2⟩ | ⟨_, h2⟩
    · rw [h2] at h; simp at h
    · rw [h2] at h; simp at h; rw [h1, cfL_eq h]
    · rw [h2] at h; simp at h
theorem cfL_self : ∀ x : List Int, cfL x x = 0
  | [] => rfl
  | a :: x => by
    simp only [cfL]
    rcases ci_cases a a with ⟨h1, _⟩ | ⟨_, h2⟩ | ⟨h1, _⟩
    · omega
    · rw [h2]; simp [cfL_self x]
    · omega
theorem cfL_neg : ∀ x y : List Int, cfL y x = - cfL x y
  | [], [] => rfl
  | [], _ :: _ => rfl
  | _ :: _, [] => rfl
  | a :: x, b :: y => by
    simp only [cfL]
    have ih := cfL_neg x y
    rcases ci_cases a b with ⟨h1, h2⟩ | ⟨h1, h2⟩ | ⟨h1, h2⟩ <;> rcases ci_cases b a with ⟨g1, g2⟩ | ⟨g1, g2⟩ | ⟨g1, g2⟩ <;> first | omega | (rw [h2, g2]; simp [ih])
theorem cfL_trans : ∀ {x y z : List Int}, cfL x y ≤ 0 → cfL y z ≤ 0 → cfL x z ≤ 0
  | [], _, [], _, _ => by simp [cfL]
  | [], _, _ :: _, _, _ => by simp [cfL]
  | _ :: _, [], _, h, _ => by simp [cfL] at h
  | _ :: _, _ :: _, [], _, h => by simp [cfL] at h
  | a :: x, b :: y, c :: z, h1, h2 => by
    simp only [cfL] at h1 h2 ⊢
    have ih := @cfL_trans x y z
    rcases ci_cases a b with ⟨p1, p2⟩ | ⟨p1, p2⟩ | ⟨p1, p2⟩ <;> rcases ci_cases b c with ⟨q1, q2⟩ | ⟨q1, q2⟩ | ⟨q1, q2⟩ <;> rcases ci_cases a c with ⟨r1, r2⟩ | ⟨r1, r2⟩ | ⟨r1, r2⟩ <;> rw [p2] at h1 <;> rw [q2] at h2 <;> rw [r2] <;> simp at h1 h2 ⊢ <;> first | omega | exact ih h1 h2
def leL (x y : List Int) : Bool := decide (cfL x y ≤ 0)
def srt_slices_Compare_Lint_int (xs : List (List Int)) : List (List Int) := xs.mergeSort leL
theorem leL_trans (a b c : List Int) (h1 : leL a b = true) (h2 : leL b c = true) : leL a c = true := by unfold leL at *; simp at *; exact cfL_trans h1 h2
theorem leL_total (a b : List Int) : (leL a b || leL b a) = true := by
  unfold leL
  have := cfL_neg a b
  simp
  omega
theorem leL_anti {a b : List Int} (h1 : leL a b = true) (h2 : leL b a = true) : a = b := by
  unfold leL at *
  simp at h1 h2
  have := cfL_neg a b
  exact cfL_eq (by omega)
theorem srtL_perm (xs : List (List Int)) : (srt_slices_Compare_Lint_int xs).Perm xs := List.mergeSort_perm xs leL
theorem srt_slices_Compare_Lint_int_len (xs : List (List Int)) : (srt_slices_Compare_Lint_int xs).length = xs.length := (srtL_perm xs).length_eq
theorem srtL_sorted (xs : List (List Int)) : (srt_slices_Compare_Lint_int xs).Pairwise (fun a b => leL a b = true) := List.pairwise_mergeSort leL_trans leL_total xs
theorem srtL_uniq {a b : List (List Int)} (ha : a.Pairwise fun x y => leL x y = true) (hb : b.Pairwise fun x y => leL x y = true) (h : a.Perm b) : a = b := List.Perm.eq_of_pairwise (le := fun x y => leL x y = true) (fun x y _ _ h1 h2 => leL_anti h1 h2) ha hb h
/-- Elements with what they read as. -/
abbrev EltL (w : World) (O : Lab) : Type := { p : Value × List Int // Vb w (Fr 0 w O) p.1 p.2 }
instance eltInh {w : World} {O : Lab} : Inhabited (EltL w O) := ⟨⟨(.slice none 0 0, []), Vb.nil _ _⟩⟩
def encL {w : World} {O : Lab} (x : EltL w O) : Value := x.1.1
def cfE {w : World} {O : Lab} (x y : EltL w O) : Int := cfL x.1.2 y.1.2
theorem ltE {w : World} {O : Lab} (x y : EltL w O) : ltOf cfE x y = decide (cfL x.1.2 y.1.2 < 0) := by
  unfold ltOf cfE; rfl
theorem swoE {w : World} {O : Lab} : SWO (ltOf (cfE (w := w) (O := O))) where
  irrefl x := by rw [ltE, cfL_self]; simp
  trans x y z h1 h2 := by
    rw [ltE] at *
    simp at *
    have h3 := cfL_trans (Int.le_of_lt h1) (Int.le_of_lt h2)
    rcases Int.lt_or_eq_of_le h3 with h | h
    · exact h
    · exfalso
      have he := cfL_eq h
      rw [← he, cfL_neg] at h2
      omega
  ntrans x y z h1 h2 := by
    rw [ltE] at *
    simp at *
    have a1 := cfL_neg x.1.2 y.1.2
    have a2 := cfL_neg y.1.2 z.1.2
    have a3 := cfL_neg x.1.2 z.1.2
    have := cfL_trans (x := z.1.2) (y := y.1.2) (z := x.1.2) (by omega) (by omega)
    omega
theorem chunksL {w : World} {O : Lab} : ∀ {xs : List (List Int)} {cells : List Value}, Chunks w (Fr 0 w O) cells xs → ∃ ps : List (EltL w O), cells = ps.map encL ∧ ps.map (·.1.2) = xs
  | [], _, h => ⟨[], h, rfl⟩
  | x :: xs, _, ⟨cs, rest, he, hr, hc⟩ => by
    obtain ⟨ps, h1, h2⟩ := chunksL hc
    obtain ⟨v, hv, hs⟩ := hr
    refine ⟨⟨(v, x), ⟨v, rfl, hs⟩⟩ :: ps, by rw [he, hv, h1]; rfl, by simp [h2]⟩
theorem chunksL_mk {w w' : World} {O : Lab} (ha : Agree (Fr 0 w O) w w') : ∀ (ps : List (EltL w O)), Chunks w' (Fr 0 w O) (ps.map encL) (ps.map (·.1.2))
  | [] => rfl
  | p :: ps => ⟨[encL p], ps.map encL, rfl, by
      obtain ⟨v, hv, hs⟩ := (p.2.agree ha : Vb w' (Fr 0 w O) p.1.1 p.1.2)
      exact ⟨_, rfl, by have : p.1.1 = v := by simpa using hv
                        unfold encL; rw [this]; exact hs⟩, chunksL_mk ha ps⟩
theorem sortWorld_old {α : Type} [Inhabited α] (enc : α → Value) {w : World} {blk off m : Nat} {dk : Array α} {os : Array Obj} {k : Nat} (hk : k < w.heap.size) (hne : blk ≠ k) : (sortWorld enc w blk off m dk os).heap[k]? = w.heap[k]? := by
  show ((w.heap.modify blk _) ++ os)[k]? = _
  rw [Array.getElem?_append_left (by simpa using hk), Array.getElem?_modify, if_neg hne]
theorem s_slices_Compare_Lint_int {i : Nat} {w : World} {O : Lab} {v : Value} {xs : List (List Int)} (hR : Rw i w O 22 v xs) (hl : xs.length < 4611686018427387904) :
    Fn Try.prog 59 [v, .func (.func 57) #[] #[]] w fun _ w' => ∃ O', St (eT i) w O w' O' ∧ Rw i w' O' 22 v (srt_slices_Compare_Lint_int xs) := by
  intro d
  rcases Nat.eq_zero_or_pos xs.length with h0 | h0
  · have hx : xs = [] := List.eq_nil_of_length_eq_zero h0
    subst hx
    obtain ⟨p, c, rfl⟩ := hR.form
    have hs : srt_slices_Compare_Lint_int [] = [] := List.eq_nil_of_length_eq_zero (srt_slices_Compare_Lint_int_len [])
    exact (Try.sortL_none (α := Fct) p c _ (dr w d)).mono fun e w' ⟨he, hw⟩ => ⟨_, w, d, he, hw, O, St.refl _ _ _, by rw [hs]; exact hR⟩
  · obtain ⟨g, cap, cells, sp, rfl, hg, hFg, hb, hc, hlen, hnc, hcm, htot⟩ := hR.1.open h0
    obtain ⟨ps, rfl, hxs⟩ := chunksL hc
    have hpl : ps.length = xs.length := by rw [← hxs, List.length_map]
    have hgi : O g = i := hR.2.1 g rfl
    have hg0 : ∀ k, Fr 0 w O k → g ≠ k := fun k hk e => by subst e; exact hR.2.2 (hgi.symm.trans hk.2)
    have hH : Holds encL (dr w d) g 0 ps.toArray := fun j hj => by
      have hj' : j < ps.length := by simpa using hj
      refine ⟨?_, by rw [Nat.zero_add]; exact hb.frozen j⟩
      rw [Nat.zero_add]
      refine hb.cell ?_
      rw [List.getElem?_append_left (by simpa using hj'), List.getElem?_map, List.getElem?_eq_getElem hj', getElem!_pos _ j hj]
      simp
    have eg : ∀ args w, (callFunc 57 args).run Try.prog w = .ok (.enter 57 args) w := enters_of Try.func57 (by kernel_rfl) rfl
    have hcmp : CmpLays1 Try.prog 57 #[] encL (cfE (w := w) (O := O)) g 0 ps.toArray.size (dr w d) := by
      intro m os dk hs x y
      have ag : Agree (Fr 0 w O) w (sortWorld encL (dr w d) g 0 m dk os) := fun k hk => sortWorld_old encL (w := dr w d) hk.1 (hg0 k hk)
      exact (compareL (x.2.agree ag) (y.2.agree ag)).mono fun e w' ⟨he, hw⟩ => ⟨he, 0, #[], by rw [hw, grow_empty]; rfl⟩
    have hcall := Try.sortL_eq encL (fun x => by obtain ⟨A, c, hv⟩ := x.2.form; unfold encL; rw [hv]; rfl) cfE swoE 57 #[] g 0 cap ps.toArray (dr w d) eg hcmp hH hb.lt (by simpa [hpl] using hl)
    have e1 : ps.toArray.size = xs.length := by simp [hpl]
    rw [e1] at hcall
    obtain ⟨⟨hsz, _, hperm⟩, hsort⟩ := pdq_sorts (ltOf (cfE (w := w) (O := O))) swoE ps.toArray 0 ps.toArray.size (Lib.bitLen xs.length) true true (Nat.zero_le _) (Nat.le_refl _) (Or.inl rfl)
    rw [e1] at hsz hperm hsort
    generalize hqs : pdq (ltOf (cfE (w := w) (O := O))) ps.toArray 0 xs.length (Lib.bitLen xs.length) true true = qs at *
    have hqsz : qs.size = xs.length := hsz
    have hqp : qs.toList.Perm ps := by
      have e2 : qs.extract 0 xs.length = qs := by rw [← hqsz]; exact Array.extract_size
      have e3 : ps.toArray.extract 0 xs.length = ps.toArray := by rw [← e1]; exact Array.extract_size
      rw [e2, e3] at hperm
      simpa using hperm
    have hres : qs.toList.map (·.1.2) = srt_slices_Compare_Lint_int xs := by
      refine srtL_uniq ?_ (srtL_sorted xs) ((hqp.map _).trans (by rw [hxs]; exact (srtL_perm xs).symm))
      rw [List.pairwise_map, List.pairwise_iff_getElem]
      intro a b ha hb' hab
      have := hsort a b (Nat.zero_le _) hab (by have := hb'; rw [Array.length_toList, hqsz] at this; exact this)
      simp only [Array.length_toList] at ha hb'
      rw [getElem!_pos _ b hb', getElem!_pos _ a ha, ltE] at this
      have hn := cfL_neg qs[a].1.2 qs[b].1.2
      unfold leL
      simp at this ⊢
      omega
    refine hcall.mono fun e w' ⟨he, n, os, hw⟩ => ⟨_, w', w'.drawn, he, rfl, upO O w.heap.size (fun _ => 0), ?_, ?_⟩
    · subst hw
      refine ⟨rfl, rfl, rfl, ?_, fun k hk hne => ⟨?_, upO_old hk⟩⟩
      · show w.heap.size ≤ ((w.heap.modify g _) ++ os).size
        simp
      · exact sortWorld_old encL (w := dr w d) hk (fun e => hne (by rw [← e]; exact hgi))
    · have hblk : Blk w' g 22 (qs.toList.map encL ++ sp) := by
        subst hw
        unfold Blk at hb ⊢
        have hsz' : g < w.heap.size := Blk.lt hb
        show ((w.heap.modify g _) ++ os)[g]? = _
        rw [Array.getElem?_append_left (by simpa using hsz'), Array.getElem?_modify, if_pos rfl, hb]
        simp only [Option.map_some, Go.Sort.onCells]
        congr 2
        apply Array.ext
        · simp only [Go.Sort.putCells, Array.size_mapIdx, List.size_toArray, List.length_append, List.length_map, Array.length_toList, hqsz, hpl]
        · intro j h1 h2
          simp only [Go.Sort.putCells, Array.getElem_mapIdx, Nat.zero_add, Nat.sub_zero, Nat.zero_le, true_and, List.getElem_toArray]
          by_cases hj : j < xs.length
          · rw [if_pos (by simp [hqsz]; exact hj), List.getElem_append_left (by simp [hqsz]; exact hj)]
            rw [getElem!_pos qs j (by rw [hqsz]; exact hj)]
            simp
          · rw [if_neg (by simp [hqsz]; omega)]
            rw [List.getElem_append_right (by simp [hpl]; omega), List.getElem_append_right (by simp [hqsz]; omega)]
            simp [hpl, hqsz]
      have hS : ∀ k, Fr 0 w O k → Fr 0 w' (upO O w.heap.size fun _ => 0) k := fun k hk => ⟨by subst hw; show k < ((w.heap.modify g _) ++ os).size; have := hk.1; simp; omega, (upO_old hk.1).trans hk.2⟩
      have ag : Agree (Fr 0 w O) w w' := fun k hk => by subst hw; exact sortWorld_old encL (w := dr w d) hk.1 (hg0 k hk)
      have hml : (qs.toList.map (fun x : EltL w O => x.1.2)).length = xs.length := by simp [hqsz]
      have := Own.close (w := w') (base := 0) (F := Fr 0 w O) (cap := cap) (xs := qs.toList.map (fun x : EltL w O => x.1.2)) (Nat.zero_le _) hFg hblk (chunksL_mk ag qs.toList) (by rw [hml]; exact hnc) hcm (by rw [List.length_append, List.length_map] at htot ⊢; rw [Array.length_toList, hqsz, ← hpl]; exact htot)
      rw [hml, hres] at this
      exact this.rw hS (fun g' hg' => by
        have : g = g' := by simpa [Value.ownBlock] using hg'
        subst this
        exact (upO_old hb.lt).trans hgi) hR.2.2
end
section
open Go Go.RowKit
attribute [local irreducible] ewp owp hwp hwq Ev Evg Fn retPost Res1
attribute [local irreducible] hwx loudX
instance : TMap Try.prog 89 9 4 := ⟨Try.underlying89⟩
instance : TKey Try.prog 9 ByteArray := ⟨Try.underlying9⟩
noncomputable def m_cmp_isNaN_int (x0 : Int) : Option Bool :=
  bnd (if x0 ≠ x0 then (some true) else (some false) : Option Bool) fun y2 => some y2
theorem c_cmp_isNaN_int {w : World} {A : Nat → Prop} (hA : ∀ k, A k → k < w.heap.size) {x0 : Int} (rx0 : inI64 x0) {r : Bool} (hm : m_cmp_isNaN_int x0 = some r) :
    Fn Try.prog 92 [(.int .i64 x0)] w fun v w' => Ext w w' ∧ Vb w' (upA A w w') v r := by
 obtain ⟨O, hB, hA0⟩ := enter hA
 refine fn_enter Try.func92 rfl Try.ntmps92 rfl ?_
 unfold m_cmp_isNaN_int at hm
 refine ewp_seq (ewp_region (o_as rfl rfl (o_z ?_)))
 refine ewp_seq ?_
 obtain ⟨y2, hy3, hm⟩ := bs hm
 refine ewp_join (fun l' w' => ∃ (x5 : Unit) (O' : Lab), subs l' [(2, (.bool y2))] ∧ Bs w A w' O') ?_ ?_
 ·
  refine ewp_region (o_mv rfl rfl (o_mv rfl rfl (o_neS rfl rfl rfl (fun c6 => ?_) fun c6 => ?_)))
  ·
   replace hy3 := ip hy3 c6
   refine o_as rfl rfl (o_z ?_)
   obtain rfl := sm hy3
   exact ⟨(), _, ⟨rfl, trivial⟩, hB⟩
  ·
   replace hy3 := im hy3 c6
   refine o_as rfl rfl (o_z ?_)
   obtain rfl := sm hy3
   exact ⟨(), _, ⟨rfl, trivial⟩, hB⟩
 rintro l7 w8 ⟨x5, O9, hs10, hB⟩
 refine ewp_sub _ hs10 ?_
 refine ewp_ret ?_
 obtain rfl := sm hm
 exact ret1v rfl (res_tmp rfl) ⟨hB.ext, vBool⟩
noncomputable def m_cmp_Compare_int (x0 : Int) (x1 : Int) : Option Int :=
  bnd (bnd (m_cmp_isNaN_int x0) fun q7 => if q7 = true then some true else some false : Option Bool) fun y3 => bnd (bnd (m_cmp_isNaN_int x1) fun q22 => if q22 = true then some true else some false : Option Bool) fun y18 => if y3 = true then (if y18 = true then (some 0) else (some (-1))) else (if y18 = true then (some 1) else (if x0 < x1 then (some (-1)) else (if x1 < x0 then (some 1) else (some 0))))
theorem c_cmp_Compare_int {w : World} {A : Nat → Prop} (hA : ∀ k, A k → k < w.heap.size) {x0 : Int} (rx0 : inI64 x0) {x1 : Int} (rx1 : inI64 x1) {r : Int} (hm : m_cmp_Compare_int x0 x1 = some r) :
    Fn Try.prog 80 [(.int .i64 x0), (.int .i64 x1)] w fun v w' => Ext w w' ∧ Vb w' (upA A w w') v r := by
 obtain ⟨O, hB, hA0⟩ := enter hA
 refine fn_enter Try.func80 rfl Try.ntmps80 rfl ?_
 unfold m_cmp_Compare_int at hm
 refine ewp_seq (ewp_region (o_as rfl rfl (o_z ?_)))
 refine ewp_seq ?_
 obtain ⟨y3, hy4, hm⟩ := bs hm
 refine ewp_join (fun l' w' => ∃ (x6 : Unit) (O' : Lab), subs l' [(0, (.int .i64 x0)), (1, (.int .i64 x1)), (5, (.bool y3))] ∧ Bs w A w' O') ?_ ?_
 ·
  refine ewp_region (o_mv rfl rfl ?_)
  obtain ⟨q7, e8, hy4⟩ := bs hy4
  refine l_callA (O := O) (A := All w) (R := fun w' F v => Vb w' F v q7) (c_cmp_isNaN_int (fun _ h => h) rx0 e8) rfl rfl fun v13 w9 O10 S11 h12 => ?_
  obtain rfl := h12.bool
  cases q7
  case false =>
   replace hy4 := iF hy4
   refine o_as rfl rfl (o_z ?_)
   obtain rfl := sm hy4
   replace hB := hB.st S11
   exact ⟨(), _, ⟨rfl, rfl, rfl, trivial⟩, hB⟩
  replace hy4 := iT hy4
  refine o_as rfl rfl (o_z ?_)
  obtain rfl := sm hy4
  replace hB := hB.st S11
  exact ⟨(), _, ⟨rfl, rfl, rfl, trivial⟩, hB⟩
 rintro l14 w15 ⟨x6, O16, hs17, hB⟩
 refine ewp_sub _ hs17 ?_
 refine ewp_seq ?_
 obtain ⟨y18, hy19, hm⟩ := bs hm
 refine ewp_join (fun l' w' => ∃ (x21 : Unit) (O' : Lab), subs l' [(0, (.int .i64 x0)), (1, (.int .i64 x1)), (5, (.bool y3)), (6, (.bool y18))] ∧ Bs w A w' O') ?_ ?_
 ·
  refine ewp_region (o_mv rfl rfl ?_)
  obtain ⟨q22, e23, hy19⟩ := bs hy19
  refine l_callA (O := O16) (A := All w15) (R := fun w' F v => Vb w' F v q22) (c_cmp_isNaN_int (fun _ h => h) rx1 e23) rfl rfl fun v28 w24 O25 S26 h27 => ?_
  obtain rfl := h27.bool
  cases q22
  case false =>
   replace hy19 := iF hy19
   refine o_as rfl rfl (o_z ?_)
   obtain rfl := sm hy19
   replace hB := hB.st S26
   exact ⟨(), _, ⟨rfl, rfl, rfl, rfl, trivial⟩, hB⟩
  replace hy19 := iT hy19
  refine o_as rfl rfl (o_z ?_)
  obtain rfl := sm hy19
  replace hB := hB.st S26
  exact ⟨(), _, ⟨rfl, rfl, rfl, rfl, trivial⟩, hB⟩
 rintro l29 w30 ⟨x21, O31, hs32, hB⟩
 refine ewp_sub _ hs32 ?_
 refine ewp_seq (ewp_seq (ewp_region (o_mv rfl rfl (o_z ?_))))
 refine ewp_cond rfl (fun c33 => ?_) (fun c33 => ?_)
 ·
  replace hm := ip hm c33
  refine ewp_seq (ewp_seq (ewp_region (o_mv rfl rfl (o_z ?_))))
  refine ewp_cond rfl (fun c34 => ?_) (fun c34 => ?_)
  ·
   replace hm := ip hm c34
   refine ewp_seq (ewp_region (o_as rfl rfl (o_z ?_)))
   refine ewp_ret ?_
   obtain rfl := sm hm
   exact ret1v rfl (res_tmp rfl) ⟨hB.ext, (vInt (show inI64 (0) from by decide))⟩
  ·
   replace hm := im' hm c34
   refine ewp_skip (ewp_seq (ewp_region (o_as rfl rfl (o_z ?_))))
   refine ewp_ret ?_
   obtain rfl := sm hm
   exact ret1v rfl (res_tmp rfl) ⟨hB.ext, (vInt (show inI64 (-1) from by decide))⟩
 ·
  replace hm := im' hm c33
  refine ewp_skip (ewp_seq (ewp_seq (ewp_region (o_mv rfl rfl (o_z ?_)))))
  refine ewp_cond rfl (fun c35 => ?_) (fun c35 => ?_)
  ·
   replace hm := ip hm c35
   refine ewp_seq (ewp_region (o_as rfl rfl (o_z ?_)))
   refine ewp_ret ?_
   obtain rfl := sm hm
   exact ret1v rfl (res_tmp rfl) ⟨hB.ext, (vInt (show inI64 (1) from by decide))⟩
  ·
   replace hm := im' hm c35
   refine ewp_skip (ewp_seq (ewp_seq (ewp_region (o_mv rfl rfl (o_mv rfl rfl (o_ltS rfl rfl rfl (fun c36 => ?_) fun c36 => ?_))))))
   ·
    replace hm := ip hm c36
    refine o_z ?_
    refine ewp_true rfl (ewp_seq (ewp_region (o_as rfl rfl (o_z ?_))))
    refine ewp_ret ?_
    obtain rfl := sm hm
    exact ret1v rfl (res_tmp rfl) ⟨hB.ext, (vInt (show inI64 (-1) from by decide))⟩
   ·
    replace hm := im hm c36
    refine o_z ?_
    refine ewp_false rfl (ewp_skip (ewp_seq (ewp_seq (ewp_region (o_mv rfl rfl (o_mv rfl rfl (o_gtS rfl rfl rfl (fun c37 => ?_) fun c37 => ?_)))))))
    ·
     replace hm := ip hm c37
     refine o_z ?_
     refine ewp_true rfl (ewp_seq (ewp_region (o_as rfl rfl (o_z ?_))))
     refine ewp_ret ?_
     obtain rfl := sm hm
     exact ret1v rfl (res_tmp rfl) ⟨hB.ext, (vInt (show inI64 (1) from by decide))⟩
    ·
     replace hm := im hm c37
     refine o_z ?_
     refine ewp_false rfl (ewp_skip (ewp_seq (ewp_region (o_as rfl rfl (o_z ?_)))))
     refine ewp_ret ?_
     obtain rfl := sm hm
     exact ret1v rfl (res_tmp rfl) ⟨hB.ext, (vInt (show inI64 (0) from by decide))⟩
noncomputable def m_slices_Compare_Lint_int (x0 : List Int) (x1 : List Int) : Option Int :=
  bnd (rng (ρ := Int) (fun (k13 : Nat) (a14 : Int) (s11 : Unit) => if (x1.length : Int) ≤ (k13 : Int) then (some (.ret 1)) else (bnd (x1[k13]?) fun a35 => bnd (m_cmp_Compare_int a14 a35) fun q45 => if q45 ≠ 0 then (some (.ret q45)) else (some (.next ())))) x0 0 ()) fun res9 => fin res9 fun (s58 : Unit) => if (x0.length : Int) < (x1.length : Int) then (some (-1)) else (some 0)
theorem c_slices_Compare_Lint_int {w : World} {A : Nat → Prop} (hA : ∀ k, A k → k < w.heap.size) {vx0 : Value} {x0 : List Int} (hx0 : Vb w A vx0 x0) {vx1 : Value} {x1 : List Int} (hx1 : Vb w A vx1 x1) {r : Int} (hm : m_slices_Compare_Lint_int x0 x1 = some r) :
    Fn Try.prog 57 [vx0, vx1] w fun v w' => Ext w w' ∧ Vb w' (upA A w w') v r := by
 obtain ⟨O, hB, hA0⟩ := enter hA
 replace hx0 := hx0.mono hA0
 obtain ⟨A3, c4, rfl⟩ := hx0.form
 replace hx1 := hx1.mono hA0
 obtain ⟨A5, c6, rfl⟩ := hx1.form
 refine fn_enter Try.func57 rfl Try.ntmps57 rfl ?_
 unfold m_slices_Compare_Lint_int at hm
 refine ewp_seq (ewp_region (o_as rfl rfl (o_z ?_)))
 refine ewp_seq (ewp_seq (ewp_region (o_mv rfl rfl (o_ln rfl rfl ?_))))
 have l8 : x0.length ≤ 9223372036854775807 := Nat.le_trans hx0.len.2.1 hx0.len.2.2
 have r7 : inI64 (x0.length : Int) := rngNat l8
 refine o_mv rfl rfl (o_z ?_)
 obtain ⟨res9, hL10, hm⟩ := bs hm
 refine ewp_join (aft res9 (fun (s11 : Unit) (x12 : Unit) => [(0, (.slice A3 x0.length c4)), (1, (.slice A5 x1.length c6))]) (fun s11 x12 w' => ∃ O' : Lab, Bs w A w' O' ∧ Vb w' (Fr 0 w' O') (.slice A3 x0.length c4) x0 ∧ Vb w' (Fr 0 w' O') (.slice A5 x1.length c6) x1)) ?_ ?_
 ·
  refine ewp_block (ewp_rng (σ := Unit) (X := Unit) (x0.length) hL10 rfl l8 (fun (s11 : Unit) (x12 : Unit) => [(0, (.slice A3 x0.length c4)), (1, (.slice A5 x1.length c6)), (9, (.slice A3 x0.length c4))]) _ (fun s11 x12 w' => ∃ O' : Lab, Bs w A w' O' ∧ Vb w' (Fr 0 w' O') (.slice A3 x0.length c4) x0 ∧ Vb w' (Fr 0 w' O') (.slice A5 x1.length c6) x1) _ () ⟨O, hB, hx0, hx1⟩ ⟨rfl, rfl, rfl, rfl, rfl, trivial⟩ (fun _ _ => ⟨rfl, rfl⟩) (fun _ _ => ⟨rfl, rfl, trivial⟩) (fun _ _ _ ⟨O', hB, hx0, hx1⟩ => ⟨O', hB, hx0, hx1⟩) ⟨rfl, rfl, rfl⟩ ⟨rfl, rfl⟩ ?_)
  rintro k13 a14 s11 x12 w15 cc17 hx18 ⟨O16, hB, hx0, hx1⟩ hf19 hret20 hbrk21
  have rk13 : inI64 (k13 : Int) := rngK hx18 l8
  refine ewp_seq (ewp_region (o_mv rfl rfl ?_))
  obtain ⟨b24, o25, ce26, hA27, hl28, hd29, rfl, r31⟩ := hx0.elem' hx18
  refine o_iaE (hA := hA27) (hj := rfl) (hlt := hl28) rfl rfl rfl ?_
  refine o_ld (hc := cat0 hd29) rfl rfl ?_
  refine o_as rfl rfl (o_as rfl rfl (o_z ?_))
  refine ewp_seq (ewp_seq (ewp_region (o_mv rfl rfl (o_mv rfl rfl (o_ln rfl rfl ?_)))))
  have l33 : x1.length ≤ 9223372036854775807 := Nat.le_trans hx1.len.2.1 hx1.len.2.2
  have r32 : inI64 (x1.length : Int) := rngNat l33
  refine o_geS rfl rfl rfl (fun c34 => ?_) fun c34 => ?_
  ·
   replace hf19 := ip hf19 c34
   refine o_z ?_
   refine ewp_true rfl (ewp_seq (ewp_region (o_as rfl rfl (o_z ?_))))
   refine ewp_ret ?_
   obtain rfl := sm hf19
   obtain rfl := hret20 _ rfl
   obtain rfl := sm (fin_ret hm)
   exact ret1v rfl (res_tmp rfl) ⟨hB.ext, (vInt (show inI64 (1) from by decide))⟩
  ·
   replace hf19 := im hf19 c34
   refine o_z ?_
   refine ewp_false rfl (ewp_skip (ewp_seq (ewp_region (o_mv rfl rfl (o_mv rfl rfl ?_)))))
   obtain ⟨a35, e36, hf19⟩ := bs hf19
   obtain ⟨b37, o38, ce39, hA40, hl41, hd42, rfl, r44⟩ := hx1.elem' e36
   refine o_iaE (hA := hA40) (hj := rfl) (hlt := hl41) rfl rfl rfl ?_
   refine o_ld (hc := cat0 hd42) rfl rfl ?_
   refine o_as rfl rfl (o_z ?_)
   refine ewp_seq (ewp_region (o_mv rfl rfl (o_mv rfl rfl ?_)))
   obtain ⟨q45, e46, hf19⟩ := bs hf19
   refine l_callA (O := O16) (A := All w15) (R := fun w' F v => Vb w' F v q45) (c_cmp_Compare_int (fun _ h => h) r31 r44 e46) rfl rfl fun v51 w47 O48 S49 h50 => ?_
   obtain ⟨rfl, r52⟩ := h50.int
   refine o_as rfl rfl (o_z ?_)
   refine ewp_seq (ewp_region (o_mv rfl rfl (o_neS rfl rfl rfl (fun c53 => ?_) fun c53 => ?_)))
   ·
    replace hf19 := ip hf19 c53
    refine o_z ?_
    refine ewp_true rfl (ewp_seq (ewp_region (o_mv rfl rfl (o_as rfl rfl (o_z ?_)))))
    refine ewp_ret ?_
    obtain rfl := sm hf19
    obtain rfl := hret20 _ rfl
    obtain rfl := sm (fin_ret hm)
    replace hB := hB.st S49
    exact ret1v rfl (res_tmp rfl) ⟨hB.ext, (vInt r52)⟩
   ·
    replace hf19 := im hf19 c53
    refine o_z ?_
    refine ewp_false rfl (ewp_skip ?_)
    obtain rfl := sm hf19
    refine (?_ : Exists _)
    replace hB := hB.st S49
    replace hx0 := hx0.st S49
    replace hx1 := hx1.st S49
    exact ⟨_, (), rfl, ⟨rfl, rfl, rfl, rfl, rfl, trivial⟩, _, hB, hx0, hx1⟩
 rintro l54 w55 ⟨s58, x59, rfl, hs57, O56, hB, hx0, hx1⟩
 replace hm := fin_done hm
 refine ewp_sub _ hs57 ?_
 refine ewp_seq (ewp_seq (ewp_region (o_mv rfl rfl (o_ln rfl rfl ?_))))
 have l61 : x0.length ≤ 9223372036854775807 := Nat.le_trans hx0.len.2.1 hx0.len.2.2
 have r60 : inI64 (x0.length : Int) := rngNat l61
 refine o_mv rfl rfl (o_ln rfl rfl ?_)
 have l63 : x1.length ≤ 9223372036854775807 := Nat.le_trans hx1.len.2.1 hx1.len.2.2
 have r62 : inI64 (x1.length : Int) := rngNat l63
 refine o_ltS rfl rfl rfl (fun c64 => ?_) fun c64 => ?_
 ·
  replace hm := ip hm c64
  refine o_z ?_
  refine ewp_true rfl (ewp_seq (ewp_region (o_as rfl rfl (o_z ?_))))
  refine ewp_ret ?_
  obtain rfl := sm hm
  exact ret1v rfl (res_tmp rfl) ⟨hB.ext, (vInt (show inI64 (-1) from by decide))⟩
 ·
  replace hm := im hm c64
  refine o_z ?_
  refine ewp_false rfl (ewp_skip (ewp_seq (ewp_region (o_as rfl rfl (o_z ?_)))))
  refine ewp_ret ?_
  obtain rfl := sm hm
  exact ret1v rfl (res_tmp rfl) ⟨hB.ext, (vInt (show inI64 (0) from by decide))⟩
noncomputable def m_symmetry_text (x0 : List Int) : Option ByteArray :=
  bnd (mkI 1 ((bw 0) : Byt) (x0.length : Int)) fun u6 => bnd (rng (ρ := ByteArray) (fun (k25 : Nat) (a26 : Int) (s23 : (List Byt)) => bnd (s23[k25]?) fun a48 => some (.next (s23.set k25 (bw a26)))) x0 0 u6) fun res21 => fin res21 fun (s64 : (List Byt)) => bnd (strI s64) fun n66 => some n66
theorem c_symmetry_text {w : World} {A : Nat → Prop} (hA : ∀ k, A k → k < w.heap.size) {vx0 : Value} {x0 : List Int} (hx0 : Vb w A vx0 x0) {r : ByteArray} (hm : m_symmetry_text x0 = some r) :
    Fn Try.prog 58 [vx0] w fun v w' => Ext w w' ∧ Vb w' (upA A w w') v r := by
 obtain ⟨O, hB, hA0⟩ := enter hA
 replace hx0 := hx0.mono hA0
 obtain ⟨A2, c3, rfl⟩ := hx0.form
 refine fn_enter Try.func58 rfl Try.ntmps58 rfl ?_
 unfold m_symmetry_text at hm
 refine ewp_seq (ewp_region (o_as rfl rfl (o_z ?_)))
 refine ewp_seq (ewp_region (o_mv rfl rfl (o_ln rfl rfl ?_)))
 have l5 : x0.length ≤ 9223372036854775807 := Nat.le_trans hx0.len.2.1 hx0.len.2.2
 have r4 : inI64 (x0.length : Int) := rngNat l5
 obtain ⟨u6, e7, hm⟩ := bs hm
 obtain ⟨m8, e9, e10, e11, e12⟩ := mkI_some e7
 refine l_make 2 (by decide) O (z0 := ((bw 0) : Byt)) rfl rfl rfl rfl rfl e9 (vByte (x := (bw 0))) e10 e11 rfl fun g13 w14 O15 S16 h17 => ?_
 rw [← e12] at h17 ⊢
 refine o_as rfl rfl (o_z ?_)
 refine ewp_seq (ewp_seq (ewp_region (o_mv rfl rfl (o_ln rfl rfl ?_))))
 replace hx0 := hx0.st S16
 have l20 : x0.length ≤ 9223372036854775807 := Nat.le_trans hx0.len.2.1 hx0.len.2.2
 have r19 : inI64 (x0.length : Int) := rngNat l20
 refine o_mv rfl rfl (o_z ?_)
 obtain ⟨res21, hL22, hm⟩ := bs hm
 refine ewp_join (aft res21 (fun (s23 : (List Byt)) (x24 : Unit) => [(3, (.slice (some ⟨g13, 0, none⟩) u6.length m8))]) (fun s23 x24 w' => ∃ O' : Lab, Bs w A w' O' ∧ Rw 2 w' O' 5 (.slice (some ⟨g13, 0, none⟩) u6.length m8) s23)) ?_ ?_
 ·
  refine ewp_block ?_
  replace hB := hB.st S16
  refine ewp_rng (σ := (List Byt)) (X := Unit) (x0.length) hL22 rfl l20 (fun (s23 : (List Byt)) (x24 : Unit) => [(3, (.slice (some ⟨g13, 0, none⟩) u6.length m8)), (9, (.slice A2 x0.length c3))]) _ (fun s23 x24 w' => ∃ O' : Lab, Bs w A w' O' ∧ Rw 2 w' O' 5 (.slice (some ⟨g13, 0, none⟩) u6.length m8) s23 ∧ Vb w' (Fr 0 w' O') (.slice A2 x0.length c3) x0) _ () ⟨O15, hB, h17, hx0⟩ ⟨rfl, rfl, rfl, rfl, trivial⟩ (fun _ _ => ⟨rfl, rfl⟩) (fun _ _ => ⟨rfl, trivial⟩) (fun _ _ _ ⟨O', hB, h38, hx0⟩ => ⟨O', hB, h38⟩) ⟨rfl, rfl, rfl⟩ ⟨rfl, rfl⟩ ?_
  rintro k25 a26 s23 x24 w27 cc29 hx30 ⟨O28, hB, h38, hx0⟩ hf31 hret32 hbrk33
  have rk25 : inI64 (k25 : Int) := rngK hx30 l20
  refine ewp_seq (ewp_region (o_mv rfl rfl ?_))
  obtain ⟨b40, o41, ce42, hA43, hl44, hd45, rfl, r47⟩ := hx0.elem' hx30
  refine o_iaE (hA := hA43) (hj := rfl) (hlt := hl44) rfl rfl rfl ?_
  refine o_ld (hc := cat0 hd45) rfl rfl ?_
  refine o_as rfl rfl (o_as rfl rfl (o_z ?_))
  refine ewp_region (o_mv rfl rfl (o_mv rfl rfl (o_mv rfl rfl (o_c8 rfl rfl ?_))))
  obtain ⟨a48, e49, hf31⟩ := bs hf31
  obtain ⟨b50, o51, ce52, hA53, hl54, hd55, rfl⟩ := h38.elem e49
  refine o_iaE (hA := hA53) (hj := rfl) (hlt := hl54) rfl rfl rfl ?_
  refine l_setE rfl h38 (a := (bw a26)) (vByte (x := (bw a26))) hA53 rfl rfl (lt_of_get e49) fun w58 S59 h38 => ?_
  refine o_z ?_
  obtain rfl := sm hf31
  refine (?_ : Exists _)
  replace hB := hB.st S59
  replace hx0 := hx0.st S59
  exact ⟨_, (), rfl, ⟨rfl, rfl, rfl, rfl, trivial⟩, _, hB, h38, hx0⟩
 replace hB := hB.st S16
 rintro l60 w61 ⟨s64, x65, rfl, hs63, O62, hB, h38⟩
 replace hm := fin_done hm
 refine ewp_sub _ hs63 ?_
 refine ewp_seq (ewp_region (o_mv rfl rfl ?_))
 obtain ⟨n66, e67, hm⟩ := bs hm
 refine o_bs (hv := (h38).all) (he := e67) rfl rfl ?_
 refine o_as rfl rfl (o_z ?_)
 refine ewp_ret ?_
 obtain rfl := sm hm
 exact ret1v rfl (res_tmp rfl) ⟨hB.ext, (vStr (strI_sz e67))⟩
noncomputable def m_symmetry_Canonical (x0 : Tsk) (x1 : List Swp) (x2 : List Int) : Option ((List Int) × (List Int) × Err) :=
  bnd (m_symmetry_demand x0 x1) fun q30 => if q30.n ≠ 0 then (some (([] : List Int), ([] : List Int), (⟨q30.n⟩ : Err))) else (bnd (m_task_Proper x0.vars x2) fun q39 => if q39 = true then bnd (m_slices_Clone_Lint_int x2) fun q46 => bnd (lop (ρ := (List Int) × (List Int) × Err) (fun (s58 : (List Int) × (List Int) × Int) => if s58.2.2 < (x1.length : Int) then (bnd (atI x1 s58.2.2) fun a84 => bnd (m_symmetry_moved a84 s58.1) fun q107 => bnd (m_slices_Compare_Lint_int q107 s58.1) fun q116 => if 0 ≤ q116 then (bnd (chkI (s58.2.2 + 1)) fun n125 => some (.next (s58.1, s58.2.1, n125))) else (bnd (appI 8 s58.2.1 [s58.2.2]) fun u128 => some (.next (q107, u128, 0)))) else (some (.brk (s58.1, s58.2.1, s58.2.2)))) (q46, ([] : List Int), 0)) fun res56 => fin res56 fun (s144 : (List Int) × (List Int) × Int) => some (s144.1, s144.2.1, (⟨0⟩ : Err)) else some (([] : List Int), ([] : List Int), (⟨2⟩ : Err)))
theorem c_symmetry_Canonical {w : World} {A : Nat → Prop} (hA : ∀ k, A k → k < w.heap.size) {vx0 : Value} {x0 : Tsk} (hx0 : Vb w A vx0 x0) {vx1 : Value} {x1 : List Swp} (hx1 : Vb w A vx1 x1) {vx2 : Value} {x2 : List Int} (hx2 : Vb w A vx2 x2) {r : (List Int) × (List Int) × Err} (hm : m_symmetry_Canonical x0 x1 x2 = some r) :
    Fn Try.prog 28 [vx0, vx1, vx2] w fun v w' => Ext w w' ∧ T3 w' (upA A w w') v r := by
 obtain ⟨O, hB, hA0⟩ := enter hA
 replace hx0 := hx0.mono hA0
 obtain ⟨cs4, rfl, v5, v6, v7, v8, rfl, h9, h12, h15, h18⟩ := hx0
 obtain ⟨A10, c11, rfl⟩ := h9.form
 obtain ⟨A13, c14, rfl⟩ := h12.form
 obtain ⟨A16, c17, rfl⟩ := h15.form
 obtain ⟨A19, c20, rfl⟩ := h18.form
 replace hx1 := hx1.mono hA0
 obtain ⟨A21, c22, rfl⟩ := hx1.form
 replace hx2 := hx2.mono hA0
 obtain ⟨A23, c24, rfl⟩ := hx2.form
 refine fn_enter Try.func28 rfl Try.ntmps28 rfl ?_
 unfold m_symmetry_Canonical at hm
 refine ewp_seq (ewp_region (l_box 2 O rfl rfl fun g25 w26 O27 S28 h29 => ?_))
 replace h29 : Lc 2 w26 O27 g25 26 [(.slice A10 x0.vars.length c11), (.slice A13 x0.init.length c14), (.slice A16 x0.goal.length c17), (.slice A19 x0.ops.length c20)] := h29
 refine o_as rfl rfl (o_as rfl rfl (o_as rfl rfl (o_z ?_)))
 refine ewp_seq (ewp_seq (ewp_region (o_la (hl := rfl) (hc := (h29.1).cellsAt) rfl rfl ?_)))
 refine o_mv rfl rfl ?_
 obtain ⟨q30, e31, hm⟩ := bs hm
 replace hx1 := hx1.st S28
 replace h9 := h9.st S28
 replace h12 := h12.st S28
 replace h15 := h15.st S28
 replace h18 := h18.st S28
 refine l_callA (O := O27) (A := All w26) (R := fun w' F v => Vb w' F v q30) (c_symmetry_demand (fun _ h => h) (Vb.mono (F := Fr 0 w26 O27) (Vb.ofAgg (cs := [(.slice A10 x0.vars.length c11), (.slice A13 x0.init.length c14), (.slice A16 x0.goal.length c17), (.slice A19 x0.ops.length c20)]) (x := x0) rfl ⟨_, _, _, _, rfl, h9, h12, h15, h18⟩) Fr.lt) (Vb.mono (F := Fr 0 w26 O27) hx1 Fr.lt) e31) rfl rfl fun v36 w32 O33 S34 h35 => ?_
 obtain ⟨rfl, r37⟩ := h35.err
 refine o_as rfl rfl (o_z ?_)
 refine ewp_seq (ewp_region (o_mv rfl rfl (o_rnS rfl rfl (fun c38 => ?_) fun c38 => ?_)))
 ·
  replace hm := ip hm c38
  refine o_z ?_
  refine ewp_true rfl (ewp_seq (ewp_region (o_mv rfl rfl (o_as rfl rfl (o_as rfl rfl (o_as rfl rfl (o_z ?_)))))))
  refine ewp_ret ?_
  obtain rfl := sm hm
  replace hB := (hB.st S28).st S34
  exact ret3 rfl (res_tmp rfl) (res_tmp rfl) (res_tmp rfl) ⟨hB.ext, _, _, _, rfl, (Vb.mono (F := Fr 0 w32 O33) (Vb.nil _ _) hB.out), (Vb.mono (F := Fr 0 w32 O33) (Vb.nil _ _) hB.out), (vErr r37)⟩
 ·
  replace hm := im hm c38
  refine o_z ?_
  refine ewp_false rfl (ewp_skip (ewp_seq (ewp_seq (ewp_region (o_fa rfl rfl ?_)))))
  replace h29 := h29.st S34
  refine o_ld (hc := Blk.cell (i := 0) (h29.1) rfl) rfl rfl ?_
  refine o_mv rfl rfl ?_
  obtain ⟨q39, e40, hm⟩ := bs hm
  replace hx2 := (hx2.st S28).st S34
  replace h9 := h9.st S34
  refine l_callA (O := O33) (A := All w32) (R := fun w' F v => Vb w' F v q39) (c_task_Proper (fun _ h => h) (Vb.mono (F := Fr 0 w32 O33) h9 Fr.lt) (Vb.mono (F := Fr 0 w32 O33) hx2 Fr.lt) e40) rfl rfl fun v45 w41 O42 S43 h44 => ?_
  obtain rfl := h44.bool
  cases q39
  case false =>
   replace hm := iF hm
   refine o_nf rfl rfl (o_z ?_)
   refine ewp_true rfl (ewp_seq (ewp_region (o_miE rfl rfl ?_)))
   refine o_as rfl rfl (o_as rfl rfl (o_as rfl rfl (o_z ?_)))
   refine ewp_ret ?_
   obtain rfl := sm hm
   replace hB := ((hB.st S28).st S34).st S43
   exact ret3 rfl (res_tmp rfl) (res_tmp rfl) (res_tmp rfl) ⟨hB.ext, _, _, _, rfl, (Vb.mono (F := Fr 0 w41 O42) (Vb.nil _ _) hB.out), (Vb.mono (F := Fr 0 w41 O42) (Vb.nil _ _) hB.out), (vErr (by decide))⟩
  replace hm := iT hm
  refine o_nt rfl rfl (o_z ?_)
  refine ewp_false rfl (ewp_skip (ewp_seq (ewp_region (o_mv rfl rfl ?_))))
  obtain ⟨q46, e47, hm⟩ := bs hm
  replace hx2 := hx2.st S43
  refine l_callRow 3 (by decide) (O := O42) (c_slices_Clone_Lint_int Fr.lt hx2 e47) rfl rfl fun A53 c54 w48 O49 S50 h51 => ?_
  refine o_as rfl rfl (o_z ?_)
  refine ewp_seq (ewp_region (o_as rfl rfl (o_z ?_)))
  refine ewp_seq (ewp_seq (ewp_region (o_as rfl rfl (o_z ?_))))
  obtain ⟨res56, hL57, hm⟩ := bs hm
  refine ewp_join (aft res56 (fun (s58 : (List Int) × (List Int) × Int) (x59 : (Option Addr × Nat) × (Option Addr × Nat)) => [(10, (.slice x59.1.1 s58.1.length x59.1.2)), (11, (.slice x59.2.1 s58.2.1.length x59.2.2))]) (fun s58 x59 w' => ∃ O' : Lab, Bs w A w' O' ∧ Vb w' (Fr 0 w' O') (.slice x59.1.1 s58.1.length x59.1.2) s58.1 ∧ Rw 4 w' O' 3 (.slice x59.2.1 s58.2.1.length x59.2.2) s58.2.1 ∧ inI64 s58.2.2)) ?_ ?_
  ·
   refine ewp_block ?_
   obtain ⟨O79, S80, h51⟩ := h51.freeze
   replace hB := ((((hB.st S28).st S34).st S43).st S50).st S80
   replace hx1 := (((hx1.st S34).st S43).st S50).st S80
   refine ewp_lop (σ := (List Int) × (List Int) × Int) (X := (Option Addr × Nat) × (Option Addr × Nat)) hL57 (fun (s58 : (List Int) × (List Int) × Int) (x59 : (Option Addr × Nat) × (Option Addr × Nat)) => [(1, (.slice A21 x1.length c22)), (10, (.slice x59.1.1 s58.1.length x59.1.2)), (11, (.slice x59.2.1 s58.2.1.length x59.2.2)), (12, (.int .i64 s58.2.2))]) _ (fun s58 x59 w' => ∃ O' : Lab, Bs w A w' O' ∧ Vb w' (Fr 0 w' O') (.slice A21 x1.length c22) x1 ∧ Vb w' (Fr 0 w' O') (.slice x59.1.1 s58.1.length x59.1.2) s58.1 ∧ Rw 4 w' O' 3 (.slice x59.2.1 s58.2.1.length x59.2.2) s58.2.1 ∧ inI64 s58.2.2) _ ((A53, c54), (none, 0)) ⟨O79, hB, hx1, h51, (Rw.nil 4 (by decide)), (show inI64 (0) from by decide)⟩ ⟨rfl, rfl, rfl, rfl, trivial⟩ ?_
   rintro s58 x59 w62 cc64 ⟨O63, hB, hx1, h75, h76, r78⟩ hf66 hret67 hbrk68
   refine ewp_seq (ewp_seq (ewp_region (o_mv rfl rfl (o_mv rfl rfl (o_ln rfl rfl ?_)))))
   have l82 : x1.length ≤ 9223372036854775807 := Nat.le_trans hx1.len.2.1 hx1.len.2.2
   have r81 : inI64 (x1.length : Int) := rngNat l82
   refine o_ltS rfl rfl rfl (fun c83 => ?_) fun c83 => ?_
   ·
    replace hf66 := ip hf66 c83
    refine o_z ?_
    refine ewp_true rfl (ewp_skip (ewp_block (ewp_seq (ewp_region (o_mv rfl rfl (o_mv rfl rfl ?_))))))
    obtain ⟨a84, e85, hf66⟩ := bs hf66
    obtain ⟨p87, x86⟩ := atI_some' e85
    obtain ⟨b88, o89, ce90, hA91, hl92, hd93, v95, v96, v97, rfl, h98, h101, h104⟩ := hx1.elem' x86
    obtain ⟨A99, c100, rfl⟩ := h98.form
    obtain ⟨A102, c103, rfl⟩ := h101.form
    obtain ⟨A105, c106, rfl⟩ := h104.form
    refine o_iaE (hA := hA91) (hj := (Int.toNat_of_nonneg p87).symm) (hlt := hl92) rfl rfl rfl ?_
    refine o_la (hl := rfl) (hc := hd93) rfl rfl ?_
    refine o_mv rfl rfl ?_
    obtain ⟨q107, e108, hf66⟩ := bs hf66
    refine l_call (O := O63) (R := fun w' F v => Vb w' F v q107) (c_symmetry_moved Fr.lt (Vb.ofAgg (cs := [(.slice A99 a84.vars.length c100), (.slice A102 a84.vals.length c103), (.slice A105 a84.ops.length c106)]) (x := a84) rfl ⟨_, _, _, rfl, h98, h101, h104⟩) h75 e108) rfl rfl fun v113 w109 O110 S111 h112 => ?_
    obtain ⟨A114, c115, rfl⟩ := h112.form
    refine o_as rfl rfl (o_z ?_)
    refine ewp_seq (ewp_seq (ewp_region (o_mv rfl rfl (o_mv rfl rfl ?_))))
    obtain ⟨q116, e117, hf66⟩ := bs hf66
    replace h75 := h75.st S111
    refine l_callA (O := O110) (A := All w109) (R := fun w' F v => Vb w' F v q116) (c_slices_Compare_Lint_int (fun _ h => h) (Vb.mono (F := Fr 0 w109 O110) h112 Fr.lt) (Vb.mono (F := Fr 0 w109 O110) h75 Fr.lt) e117) rfl rfl fun v122 w118 O119 S120 h121 => ?_
    obtain ⟨rfl, r123⟩ := h121.int
    refine o_geS rfl rfl rfl (fun c124 => ?_) fun c124 => ?_
    ·
     replace hf66 := ip hf66 c124
     refine o_z ?_
     refine ewp_true rfl (ewp_seq (ewp_region (o_mv rfl rfl ?_)))
     obtain ⟨n125, e126, hf66⟩ := bs hf66
     have r127 := (chkI_rng e126)
     refine o_adE (he := e126) rfl rfl rfl ?_
     refine o_as rfl rfl (o_z ?_)
     refine ewp_exit ?_
     obtain rfl := sm hf66
     refine (?_ : Exists _)
     replace hB := (hB.st S111).st S120
     replace hx1 := (hx1.st S111).st S120
     replace h75 := h75.st S120
     replace h76 := (h76.st S111).st S120
     exact ⟨_, ((x59.1.1, x59.1.2), (x59.2.1, x59.2.2)), rfl, ⟨rfl, rfl, rfl, rfl, trivial⟩, _, hB, hx1, h75, h76, r127⟩
    ·
     replace hf66 := im hf66 c124
     refine o_z ?_
     refine ewp_false rfl (ewp_skip (ewp_region (o_mv rfl rfl (o_mv rfl rfl (o_mv rfl rfl ?_)))))
     obtain ⟨u128, e129, hf66⟩ := bs hf66
     obtain ⟨e129, e130, e131⟩ := appI_some e129
     replace h76 := (h76.st S111).st S120
     refine l_append1 rfl (a := s58.2.2) h76 (vInt r78) (fun _ => rfl) rfl (by decide) (by decide) e130 e131 ⟨rfl, rfl⟩ fun g132 A133 c134 w135 O136 S137 h138 => ?_
     rw [← e129] at h138 ⊢
     refine o_as rfl rfl (o_as rfl rfl (o_as rfl rfl (o_z ?_)))
     obtain rfl := sm hf66
     refine (?_ : Exists _)
     replace hB := ((hB.st S111).st S120).st S137
     replace hx1 := ((hx1.st S111).st S120).st S137
     replace h112 := (h112.st S120).st S137
     exact ⟨_, ((A114, c115), (A133, c134)), rfl, ⟨rfl, rfl, rfl, rfl, trivial⟩, _, hB, hx1, h112, h138, (show inI64 (0) from by decide)⟩
   ·
    replace hf66 := im hf66 c83
    refine o_z ?_
    refine ewp_false rfl (ewp_exit ?_)
    obtain rfl := sm hf66
    refine (?_ : Exists _)
    exact ⟨_, ((x59.1.1, x59.1.2), (x59.2.1, x59.2.2)), hbrk68 _ rfl, ⟨rfl, rfl, trivial⟩, _, hB, h75, h76, r78⟩
  replace hB := (((hB.st S28).st S34).st S43).st S50
  rintro l140 w141 ⟨s144, x145, rfl, hs143, O142, hB, h75, h76, r78⟩
  replace hm := fin_done hm
  refine ewp_sub _ hs143 ?_
  refine ewp_seq (ewp_region (o_mv rfl rfl (o_mv rfl rfl (o_as rfl rfl (o_as rfl rfl (o_as rfl rfl (o_z ?_)))))))
  refine ewp_ret ?_
  obtain ⟨O146, S147, h76⟩ := h76.freeze
  obtain rfl := sm hm
  replace hB := hB.st S147
  replace h75 := h75.st S147
  exact ret3 rfl (res_tmp rfl) (res_tmp rfl) (res_tmp rfl) ⟨hB.ext, _, _, _, rfl, (Vb.mono (F := Fr 0 w141 O146) h75 hB.out), (Vb.mono (F := Fr 0 w141 O146) h76 hB.out), (vErr (show inI64 0 from by decide))⟩
noncomputable def m_symmetry_Orbit (x0 : Tsk) (x1 : List Swp) (x2 : List Int) (x3 : Int) : Option ((List (List Int)) × Err) :=
  bnd (m_symmetry_demand x0 x1) fun q31 => if q31.n ≠ 0 then (some (([] : List (List Int)), (⟨q31.n⟩ : Err))) else (bnd (m_task_Proper x0.vars x2) fun q40 => if q40 = true then bnd (m_slices_Clone_Lint_int x2) fun q47 => bnd (m_symmetry_text x2) fun q70 => bnd (lop (ρ := (List (List Int)) × Err) (fun (s84 : (List (List Int)) × Int × (MapP ByteArray Bool)) => bnd (if s84.2.1 < (s84.1.length : Int) then (if (s84.1.length : Int) ≤ (max 0 (min x3 65536)) then (some true) else (some false)) else (some false) : Option Bool) fun y105 => if y105 = true then (bnd (rng (ρ := Ctl ((List (List Int)) × Int × (MapP ByteArray Bool)) ((List (List Int)) × Err)) (fun (k126 : Nat) (a127 : Swp) (s124 : (List (List Int)) × (MapP ByteArray Bool)) => bnd (atI s124.1 s84.2.1) fun a169 => bnd (m_symmetry_moved a127 a169) fun q184 => bnd (m_symmetry_text q184) fun q193 => if (!(mget false s124.2.l q193)) = true then (bnd (m_symmetry_text q184) fun q205 => bnd (appI 24 s124.1 [q184]) fun u217 => some (.next (u217, (⟨mput s124.2.l q205 true⟩ : MapP ByteArray Bool)))) else (some (.next (s124.1, s124.2)))) x1 0 (s84.1, s84.2.2)) fun res122 => fin res122 fun (s233 : (List (List Int)) × (MapP ByteArray Bool)) => bnd (chkI (s84.2.1 + 1)) fun n235 => some (.next (s233.1, n235, s233.2))) else (some (.brk (s84.1, s84.2.1, s84.2.2)))) ([q47], 0, (⟨mput (⟨[]⟩ : MapP ByteArray Bool).l q70 true⟩ : MapP ByteArray Bool))) fun res82 => fin res82 fun (s242 : (List (List Int)) × Int × (MapP ByteArray Bool)) => if (max 0 (min x3 65536)) < (s242.1.length : Int) then (some (([] : List (List Int)), (⟨10⟩ : Err))) else (bnd (if s242.1.length < 4611686018427387904 then some (srt_slices_Compare_Lint_int s242.1) else none) fun u252 => some (u252, (⟨0⟩ : Err))) else some (([] : List (List Int)), (⟨2⟩ : Err)))
theorem c_symmetry_Orbit {w : World} {A : Nat → Prop} (hA : ∀ k, A k → k < w.heap.size) {vx0 : Value} {x0 : Tsk} (hx0 : Vb w A vx0 x0) {vx1 : Value} {x1 : List Swp} (hx1 : Vb w A vx1 x1) {vx2 : Value} {x2 : List Int} (hx2 : Vb w A vx2 x2) {x3 : Int} (rx3 : inI64 x3) {r : (List (List Int)) × Err} (hm : m_symmetry_Orbit x0 x1 x2 x3 = some r) :
    Fn Try.prog 29 [vx0, vx1, vx2, (.int .i64 x3)] w fun v w' => Ext w w' ∧ T2 w' (upA A w w') v r := by
 obtain ⟨O, hB, hA0⟩ := enter hA
 replace hx0 := hx0.mono hA0
 obtain ⟨cs5, rfl, v6, v7, v8, v9, rfl, h10, h13, h16, h19⟩ := hx0
 obtain ⟨A11, c12, rfl⟩ := h10.form
 obtain ⟨A14, c15, rfl⟩ := h13.form
 obtain ⟨A17, c18, rfl⟩ := h16.form
 obtain ⟨A20, c21, rfl⟩ := h19.form
 replace hx1 := hx1.mono hA0
 obtain ⟨A22, c23, rfl⟩ := hx1.form
 replace hx2 := hx2.mono hA0
 obtain ⟨A24, c25, rfl⟩ := hx2.form
 refine fn_enter Try.func29 rfl Try.ntmps29 rfl ?_
 unfold m_symmetry_Orbit at hm
 refine ewp_seq (ewp_region (l_box 2 O rfl rfl fun g26 w27 O28 S29 h30 => ?_))
 replace h30 : Lc 2 w27 O28 g26 26 [(.slice A11 x0.vars.length c12), (.slice A14 x0.init.length c15), (.slice A17 x0.goal.length c18), (.slice A20 x0.ops.length c21)] := h30
 refine o_as rfl rfl (o_as rfl rfl (o_z ?_))
 refine ewp_seq (ewp_seq (ewp_region (o_la (hl := rfl) (hc := (h30.1).cellsAt) rfl rfl ?_)))
 refine o_mv rfl rfl ?_
 obtain ⟨q31, e32, hm⟩ := bs hm
 replace hx1 := hx1.st S29
 replace h10 := h10.st S29
 replace h13 := h13.st S29
 replace h16 := h16.st S29
 replace h19 := h19.st S29
 refine l_callA (O := O28) (A := All w27) (R := fun w' F v => Vb w' F v q31) (c_symmetry_demand (fun _ h => h) (Vb.mono (F := Fr 0 w27 O28) (Vb.ofAgg (cs := [(.slice A11 x0.vars.length c12), (.slice A14 x0.init.length c15), (.slice A17 x0.goal.length c18), (.slice A20 x0.ops.length c21)]) (x := x0) rfl ⟨_, _, _, _, rfl, h10, h13, h16, h19⟩) Fr.lt) (Vb.mono (F := Fr 0 w27 O28) hx1 Fr.lt) e32) rfl rfl fun v37 w33 O34 S35 h36 => ?_
 obtain ⟨rfl, r38⟩ := h36.err
 refine o_as rfl rfl (o_z ?_)
 refine ewp_seq (ewp_region (o_mv rfl rfl (o_rnS rfl rfl (fun c39 => ?_) fun c39 => ?_)))
 ·
  replace hm := ip hm c39
  refine o_z ?_
  refine ewp_true rfl (ewp_seq (ewp_region (o_mv rfl rfl (o_as rfl rfl (o_as rfl rfl (o_z ?_))))))
  refine ewp_ret ?_
  obtain rfl := sm hm
  replace hB := (hB.st S29).st S35
  exact ret2 rfl (res_tmp rfl) (res_tmp rfl) ⟨hB.ext, _, _, rfl, (Vb.mono (F := Fr 0 w33 O34) (Vb.nil _ _) hB.out), (vErr r38)⟩
 ·
  replace hm := im hm c39
  refine o_z ?_
  refine ewp_false rfl (ewp_skip (ewp_seq (ewp_seq (ewp_region (o_fa rfl rfl ?_)))))
  replace h30 := h30.st S35
  refine o_ld (hc := Blk.cell (i := 0) (h30.1) rfl) rfl rfl ?_
  refine o_mv rfl rfl ?_
  obtain ⟨q40, e41, hm⟩ := bs hm
  replace hx2 := (hx2.st S29).st S35
  replace h10 := h10.st S35
  refine l_callA (O := O34) (A := All w33) (R := fun w' F v => Vb w' F v q40) (c_task_Proper (fun _ h => h) (Vb.mono (F := Fr 0 w33 O34) h10 Fr.lt) (Vb.mono (F := Fr 0 w33 O34) hx2 Fr.lt) e41) rfl rfl fun v46 w42 O43 S44 h45 => ?_
  obtain rfl := h45.bool
  cases q40
  case false =>
   replace hm := iF hm
   refine o_nf rfl rfl (o_z ?_)
   refine ewp_true rfl (ewp_seq (ewp_region (o_miE rfl rfl ?_)))
   refine o_as rfl rfl (o_as rfl rfl (o_z ?_))
   refine ewp_ret ?_
   obtain rfl := sm hm
   replace hB := ((hB.st S29).st S35).st S44
   exact ret2 rfl (res_tmp rfl) (res_tmp rfl) ⟨hB.ext, _, _, rfl, (Vb.mono (F := Fr 0 w42 O43) (Vb.nil _ _) hB.out), (vErr (by decide))⟩
  replace hm := iT hm
  refine o_nt rfl rfl (o_z ?_)
  refine ewp_false rfl (ewp_skip (ewp_seq (ewp_region (o_mv rfl rfl (o_min rfl rfl rfl ?_)))))
  refine o_max rfl rfl rfl ?_
  refine o_as rfl rfl (o_z ?_)
  refine ewp_seq (ewp_region (o_mv rfl rfl ?_))
  obtain ⟨q47, e48, hm⟩ := bs hm
  replace hx2 := hx2.st S44
  refine l_callRow 3 (by decide) (O := O43) (c_slices_Clone_Lint_int Fr.lt hx2 e48) rfl rfl fun A54 c55 w49 O50 S51 h52 => ?_
  obtain ⟨O57, S58, h52⟩ := h52.freeze
  refine l_bslice 4 (by decide) O57 (xs := ([q47] : List (List Int))) rfl rfl rfl rfl ⟨h52, trivial⟩ (by decide) (by decide) rfl fun g59 w60 O61 S62 h63 => ?_
  refine o_as rfl rfl (o_z ?_)
  refine ewp_seq (ewp_region (l_mkmap (K := ByteArray) (V := Bool) 5 (by decide) O61 rfl fun p65 w66 O67 S68 h69 => ?_))
  refine o_mv rfl rfl ?_
  obtain ⟨q70, e71, hm⟩ := bs hm
  replace hx2 := (((hx2.st S51).st S58).st S62).st S68
  refine l_callA (O := O67) (A := All w66) (R := fun w' F v => Vb w' F v q70) (c_symmetry_text (fun _ h => h) (Vb.mono (F := Fr 0 w66 O67) hx2 Fr.lt) e71) rfl rfl fun v76 w72 O73 S74 h75 => ?_
  obtain ⟨rfl, z77⟩ := h75.str
  refine l_ins ?_
  replace h69 := h69.st S74
  refine l_mput (a := q70) (b := true) h69 vBool rfl rfl rfl fun w78 S80 h81 => ?_
  refine o_mv rfl rfl (o_as rfl rfl (o_z ?_))
  refine ewp_seq (ewp_seq (ewp_region (o_as rfl rfl (o_z ?_))))
  obtain ⟨res82, hL83, hm⟩ := bs hm
  refine ewp_join (aft res82 (fun (s84 : (List (List Int)) × Int × (MapP ByteArray Bool)) (x85 : (Option Addr × Nat)) => [(3, (.int .i64 (max 0 (min x3 65536)))), (11, (.slice x85.1 s84.1.length x85.2))]) (fun s84 x85 w' => ∃ O' : Lab, Bs w A w' O' ∧ Rw 4 w' O' 22 (.slice x85.1 s84.1.length x85.2) s84.1 ∧ inI64 s84.2.1)) ?_ ?_
  ·
   refine ewp_block ?_
   replace hB := ((((((((hB.st S29).st S35).st S44).st S51).st S58).st S62).st S68).st S74).st S80
   replace hx1 := (((((((hx1.st S35).st S44).st S51).st S58).st S62).st S68).st S74).st S80
   replace h63 := ((h63.st S68).st S74).st S80
   refine ewp_lop (σ := (List (List Int)) × Int × (MapP ByteArray Bool)) (X := (Option Addr × Nat)) hL83 (fun (s84 : (List (List Int)) × Int × (MapP ByteArray Bool)) (x85 : (Option Addr × Nat)) => [(1, (.slice A22 x1.length c23)), (3, (.int .i64 (max 0 (min x3 65536)))), (11, (.slice x85.1 s84.1.length x85.2)), (12, (.map (some p65))), (13, (.int .i64 s84.2.1))]) _ (fun s84 x85 w' => ∃ O' : Lab, Bs w A w' O' ∧ Vb w' (Fr 0 w' O') (.slice A22 x1.length c23) x1 ∧ Rw 4 w' O' 22 (.slice x85.1 s84.1.length x85.2) s84.1 ∧ Ob 5 w' O' (.map (some p65)) s84.2.2 ∧ inI64 s84.2.1) _ ((some ⟨g59, 0, none⟩), 1) ⟨O73, hB, hx1, h63, h81, (show inI64 (0) from by decide)⟩ ⟨rfl, rfl, rfl, rfl, rfl, trivial⟩ ?_
   rintro s84 x85 w88 cc90 ⟨O89, hB, hx1, h101, h104, r103⟩ hf92 hret93 hbrk94
   refine ewp_seq (ewp_seq ?_)
   obtain ⟨y105, hy106, hf92⟩ := bs hf92
   refine ewp_join (fun l' w' => ∃ (x108 : Unit) (O' : Lab), subs l' [(1, (.slice A22 x1.length c23)), (3, (.int .i64 (max 0 (min x3 65536)))), (11, (.slice x85.1 s84.1.length x85.2)), (12, (.map (some p65))), (13, (.int .i64 s84.2.1)), (48, (.bool y105))] ∧ Bs w A w' O' ∧ Vb w' (Fr 0 w' O') (.slice A22 x1.length c23) x1 ∧ Rw 4 w' O' 22 (.slice x85.1 s84.1.length x85.2) s84.1 ∧ Ob 5 w' O' (.map (some p65)) s84.2.2) ?_ ?_
   ·
    refine ewp_region (o_mv rfl rfl (o_mv rfl rfl (o_ln rfl rfl ?_)))
    have l110 : s84.1.length ≤ 9223372036854775807 := Nat.le_trans h101.len.2.1 h101.len.2.2
    have r109 : inI64 (s84.1.length : Int) := rngNat l110
    refine o_ltS rfl rfl rfl (fun c111 => ?_) fun c111 => ?_
    ·
     replace hy106 := ip hy106 c111
     refine o_mv rfl rfl (owp_yes rfl rfl (o_mv rfl rfl (owp_yes rfl rfl (o_ln rfl rfl ?_))))
     have l113 : s84.1.length ≤ 9223372036854775807 := Nat.le_trans h101.len.2.1 h101.len.2.2
     have r112 : inI64 (s84.1.length : Int) := rngNat l113
     refine owp_yes rfl rfl (o_mv rfl rfl (owp_yes rfl rfl (o_leS rfl rfl rfl (fun c114 => ?_) fun c114 => ?_)))
     ·
      replace hy106 := ip hy106 c114
      refine o_pt rfl rfl rfl (o_z ?_)
      obtain rfl := sm hy106
      exact ⟨(), _, ⟨rfl, rfl, rfl, rfl, rfl, rfl, trivial⟩, hB, hx1, h101, h104⟩
     ·
      replace hy106 := im hy106 c114
      refine o_pt rfl rfl rfl (o_z ?_)
      obtain rfl := sm hy106
      exact ⟨(), _, ⟨rfl, rfl, rfl, rfl, rfl, rfl, trivial⟩, hB, hx1, h101, h104⟩
    ·
     replace hy106 := im hy106 c111
     refine o_mv rfl rfl (owp_no rfl rfl rfl rfl (owp_no rfl rfl rfl rfl (owp_no rfl rfl rfl rfl (owp_no rfl rfl rfl rfl (o_pf rfl rfl rfl (o_z ?_))))))
     obtain rfl := sm hy106
     exact ⟨(), _, ⟨rfl, rfl, rfl, rfl, rfl, rfl, trivial⟩, hB, hx1, h101, h104⟩
   rintro l115 w116 ⟨x108, O117, hs118, hB, hx1, h101, h104⟩
   refine ewp_sub _ hs118 ?_
   refine ewp_cond rfl (fun c119 => ?_) (fun c119 => ?_)
   ·
    replace hf92 := ip hf92 c119
    refine ewp_skip (ewp_seq (ewp_block (ewp_seq (ewp_region (o_mv rfl rfl (o_ln rfl rfl ?_))))))
    have l121 : x1.length ≤ 9223372036854775807 := Nat.le_trans hx1.len.2.1 hx1.len.2.2
    have r120 : inI64 (x1.length : Int) := rngNat l121
    refine o_mv rfl rfl (o_z ?_)
    obtain ⟨res122, hL123, hf92⟩ := bs hf92
    refine ewp_join (aft res122 (fun (s124 : (List (List Int)) × (MapP ByteArray Bool)) (x125 : (Option Addr × Nat)) => [(1, (.slice A22 x1.length c23)), (3, (.int .i64 (max 0 (min x3 65536)))), (11, (.slice x125.1 s124.1.length x125.2)), (12, (.map (some p65))), (13, (.int .i64 s84.2.1))]) (fun s124 x125 w' => ∃ O' : Lab, Bs w A w' O' ∧ Vb w' (Fr 0 w' O') (.slice A22 x1.length c23) x1 ∧ Rw 4 w' O' 22 (.slice x125.1 s124.1.length x125.2) s124.1 ∧ Ob 5 w' O' (.map (some p65)) s124.2)) ?_ ?_
    ·
     refine ewp_block (ewp_rng (σ := (List (List Int)) × (MapP ByteArray Bool)) (X := (Option Addr × Nat)) (x1.length) hL123 rfl l121 (fun (s124 : (List (List Int)) × (MapP ByteArray Bool)) (x125 : (Option Addr × Nat)) => [(1, (.slice A22 x1.length c23)), (3, (.int .i64 (max 0 (min x3 65536)))), (11, (.slice x125.1 s124.1.length x125.2)), (12, (.map (some p65))), (13, (.int .i64 s84.2.1)), (51, (.slice A22 x1.length c23))]) _ (fun s124 x125 w' => ∃ O' : Lab, Bs w A w' O' ∧ Vb w' (Fr 0 w' O') (.slice A22 x1.length c23) x1 ∧ Rw 4 w' O' 22 (.slice x125.1 s124.1.length x125.2) s124.1 ∧ Ob 5 w' O' (.map (some p65)) s124.2) _ (x85.1, x85.2) ⟨O117, hB, hx1, h101, h104⟩ ⟨rfl, rfl, rfl, rfl, rfl, rfl, rfl, rfl, trivial⟩ (fun _ _ => ⟨rfl, rfl⟩) (fun _ _ => ⟨rfl, rfl, rfl, rfl, rfl, trivial⟩) (fun _ _ _ ⟨O', hB, hx1, h140, h142⟩ => ⟨O', hB, hx1, h140, h142⟩) ⟨rfl, rfl, rfl⟩ ⟨rfl, rfl⟩ ?_)
     rintro k126 a127 s124 x125 w128 cc130 hx131 ⟨O129, hB, hx1, h140, h142⟩ hf132 hret133 hbrk134
     have rk126 : inI64 (k126 : Int) := rngK hx131 l121
     refine ewp_seq (ewp_region ?_)
     obtain ⟨b143, o144, ce145, hA146, hl147, hd148, v150, v151, v152, rfl, h153, h156, h159⟩ := hx1.elem' hx131
     obtain ⟨A154, c155, rfl⟩ := h153.form
     obtain ⟨A157, c158, rfl⟩ := h156.form
     obtain ⟨A160, c161, rfl⟩ := h159.form
     refine o_iaE (hA := hA146) (hj := rfl) (hlt := hl147) rfl rfl rfl ?_
     refine o_la (hl := rfl) (hc := hd148) rfl rfl ?_
     refine l_alloc 6 O129 rfl fun g162 w163 O164 S165 h166 => ?_
     refine l_store h166 rfl rfl rfl (Nat.le_of_ble_eq_true rfl) (by first | exact allOne rfl | simp [Value.cells, Value.oneCell', errV_one]) fun w167 S168 h166 => ?_
     replace h166 : Lc 6 w167 O164 g162 29 [(.slice A154 a127.vars.length c155), (.slice A157 a127.vals.length c158), (.slice A160 a127.ops.length c161)] := h166
     refine o_z ?_
     refine ewp_seq (ewp_drawX [(5, [])] O164 ?_)
     refine x_pre (fuel := 2) [] [(0, true), (1, true), (2, true), (3, true), (4, true)] (by kernel_rfl) rfl ?_
     refine h_laB (hl := rfl) (hb := fun w' ⟨O', hq⟩ => ((h166.st hq (by decide)).1).cellsAt) rfl rfl rfl ?_
     refine h_mv rfl rfl rfl (h_mv rfl rfl rfl ?_)
     obtain ⟨a169, e170, hf132⟩ := bs hf132
     obtain ⟨p172, x171⟩ := atI_some' e170
     replace h140 := (h140.st S165).st S168
     obtain ⟨b173, o174, ce175, hA176, hF179, hl177, hd178, v180, rfl, h181⟩ := h140.elemF x171
     replace h181 := Vb.of_slice h181
     obtain ⟨A182, c183, rfl⟩ := h181.form
     refine h_iaE (hA := hA176) (hj := (Int.toNat_of_nonneg p172).symm) (hlt := hl177) rfl rfl rfl rfl ?_
     refine h_ldC (hc := fun w' ⟨O', hq⟩ => cat0 (cellsAt_agree (hq.agree (i := 4) (by decide)) hF179 hd178)) rfl rfl rfl ?_
     refine hwp_nilT ?_
     refine x_one (i := 5) (by kernel_rfl) rfl ?_
     obtain ⟨q184, e185, hf132⟩ := bs hf132
     replace h153 := (h153.st S165).st S168
     replace h156 := (h156.st S165).st S168
     replace h159 := (h159.st S165).st S168
     refine l_call (O := O164) (R := fun w' F v => Vb w' F v q184) (c_symmetry_moved Fr.lt (Vb.ofAgg (cs := [(.slice A154 a127.vars.length c155), (.slice A157 a127.vals.length c158), (.slice A160 a127.ops.length c161)]) (x := a127) rfl ⟨_, _, _, rfl, h153, h156, h159⟩) h181 e185) rfl rfl fun v190 w186 O187 S188 h189 => ?_
     obtain ⟨A191, c192, rfl⟩ := h189.form
     have hZ := S188.lst [] (fun _ h => h.elim)
     refine x_go [] hZ (by kernel_rfl) ?_
     refine x_pre (fuel := 0) [] [(6, true)] (by kernel_rfl) rfl ?_
     refine h_as rfl rfl rfl (hwp_nilT ?_)
     refine x_nil (by kernel_rfl) ?_
     refine ewp_seq (ewp_region (o_mv rfl rfl (o_mv rfl rfl ?_)))
     obtain ⟨q193, e194, hf132⟩ := bs hf132
     refine l_callA (O := O187) (A := All w186) (R := fun w' F v => Vb w' F v q193) (c_symmetry_text (fun _ h => h) (Vb.mono (F := Fr 0 w186 O187) h189 Fr.lt) e194) rfl rfl fun v199 w195 O196 S197 h198 => ?_
     obtain ⟨rfl, z200⟩ := h198.str
     replace h142 := (((h142.st S165).st S168).st S188).st S197
     obtain ⟨v203, hl201, h202⟩ := MapP.get h142 q193 vBool
     obtain rfl := h202.bool
     refine o_lk q193 hl201 rfl rfl rfl ?_
     refine o_nn rfl rfl (o_z ?_)
     refine ewp_cond rfl (fun c204 => ?_) (fun c204 => ?_)
     ·
      replace hf132 := ip hf132 c204
      refine ewp_seq (ewp_region (o_mv rfl rfl (o_mv rfl rfl ?_)))
      obtain ⟨q205, e206, hf132⟩ := bs hf132
      replace h189 := h189.st S197
      refine l_callA (O := O196) (A := All w195) (R := fun w' F v => Vb w' F v q205) (c_symmetry_text (fun _ h => h) (Vb.mono (F := Fr 0 w195 O196) h189 Fr.lt) e206) rfl rfl fun v211 w207 O208 S209 h210 => ?_
      obtain ⟨rfl, z212⟩ := h210.str
      replace h142 := h142.st S209
      refine l_mput (a := q205) (b := true) h142 vBool rfl rfl rfl fun w213 S215 h216 => ?_
      refine o_z ?_
      refine ewp_region (o_mv rfl rfl (o_mv rfl rfl ?_))
      obtain ⟨u217, e218, hf132⟩ := bs hf132
      obtain ⟨e218, e219, e220⟩ := appI_some e218
      replace h140 := (((h140.st S188).st S197).st S209).st S215
      replace h189 := (h189.st S209).st S215
      refine l_append1 rfl (a := q184) h140 h189 (fun _ => rfl) rfl (by decide) (by decide) e219 e220 ⟨rfl, rfl⟩ fun g221 A222 c223 w224 O225 S226 h227 => ?_
      rw [← e218] at h227 ⊢
      refine o_as rfl rfl (o_z ?_)
      obtain rfl := sm hf132
      refine (?_ : Exists _)
      replace hB := ((((((hB.st S165).st S168).st S188).st S197).st S209).st S215).st S226
      replace hx1 := ((((((hx1.st S165).st S168).st S188).st S197).st S209).st S215).st S226
      replace h216 := h216.st S226
      exact ⟨_, (A222, c223), rfl, ⟨rfl, rfl, rfl, rfl, rfl, rfl, rfl, rfl, trivial⟩, _, hB, hx1, h227, h216⟩
     ·
      replace hf132 := im' hf132 c204
      refine ewp_skip ?_
      obtain rfl := sm hf132
      refine (?_ : Exists _)
      replace hB := (((hB.st S165).st S168).st S188).st S197
      replace hx1 := (((hx1.st S165).st S168).st S188).st S197
      replace h140 := (h140.st S188).st S197
      exact ⟨_, (x125.1, x125.2), rfl, ⟨rfl, rfl, rfl, rfl, rfl, rfl, rfl, rfl, trivial⟩, _, hB, hx1, h140, h142⟩
    rintro l229 w230 ⟨s233, x234, rfl, hs232, O231, hB, hx1, h140, h142⟩
    replace hf92 := fin_done hf92
    refine ewp_sub _ hs232 ?_
    refine ewp_region (o_mv rfl rfl ?_)
    obtain ⟨n235, e236, hf92⟩ := bs hf92
    have r237 := (chkI_rng e236)
    refine o_adE (he := e236) rfl rfl rfl ?_
    refine o_as rfl rfl (o_z ?_)
    obtain rfl := sm hf92
    refine (?_ : Exists _)
    exact ⟨_, (x234.1, x234.2), rfl, ⟨rfl, rfl, rfl, rfl, rfl, trivial⟩, _, hB, hx1, h140, h142, r237⟩
   ·
    replace hf92 := im' hf92 c119
    refine ewp_exit ?_
    obtain rfl := sm hf92
    refine (?_ : Exists _)
    exact ⟨_, (x85.1, x85.2), hbrk94 _ rfl, ⟨rfl, rfl, trivial⟩, _, hB, h101, r103⟩
  replace hB := ((((((((hB.st S29).st S35).st S44).st S51).st S58).st S62).st S68).st S74).st S80
  rintro l238 w239 ⟨s242, x243, rfl, hs241, O240, hB, h101, r103⟩
  replace hm := fin_done hm
  refine ewp_sub _ hs241 ?_
  refine ewp_seq (ewp_seq (ewp_region (o_mv rfl rfl (o_ln rfl rfl ?_))))
  have l245 : s242.1.length ≤ 9223372036854775807 := Nat.le_trans h101.len.2.1 h101.len.2.2
  have r244 : inI64 (s242.1.length : Int) := rngNat l245
  refine o_mv rfl rfl (o_gtS rfl rfl rfl (fun c246 => ?_) fun c246 => ?_)
  ·
   replace hm := ip hm c246
   refine o_z ?_
   refine ewp_true rfl (ewp_seq (ewp_region (o_miE rfl rfl ?_)))
   refine o_as rfl rfl (o_as rfl rfl (o_z ?_))
   refine ewp_ret ?_
   obtain rfl := sm hm
   exact ret2 rfl (res_tmp rfl) (res_tmp rfl) ⟨hB.ext, _, _, rfl, (Vb.mono (F := Fr 0 w239 O240) (Vb.nil _ _) hB.out), (vErr (by decide))⟩
  ·
   replace hm := im hm c246
   refine o_z ?_
   refine ewp_false rfl (ewp_skip (ewp_seq (ewp_region (o_mv rfl rfl ?_))))
   obtain ⟨u252, e251, hm⟩ := bs hm
   obtain ⟨e253, e251⟩ := ite_some e251
   refine l_callMut (s_slices_Compare_Lint_int h101 e253) rfl rfl fun v250 w247 O248 S249 h101 => ?_
   rw [e251] at h101
   refine o_z ?_
   refine ewp_seq (ewp_region (o_mv rfl rfl (o_as rfl rfl (o_as rfl rfl (o_z ?_)))))
   refine ewp_ret ?_
   obtain ⟨O254, S255, h101⟩ := h101.freeze
   obtain rfl := sm hm
   replace hB := (hB.st S249).st S255
   exact ret2 rfl (res_tmp rfl) (res_tmp rfl) ⟨hB.ext, _, _, rfl, (Vb.mono (F := Fr 0 w247 O254) h101 hB.out), (vErr (show inI64 0 from by decide))⟩
end
section
open Go Go.RowKit
attribute [local irreducible] ewp owp hwp hwq Ev Evg Fn retPost Res1
attribute [local irreducible] hwx loudX
noncomputable def m_ref51_less (x0 : List Int) (x1 : List Int) : Option Bool :=
  bnd (rng (ρ := Bool) (fun (k13 : Nat) (a14 : Int) (s11 : Unit) => bnd (x1[k13]?) fun a32 => if a14 ≠ a32 then (bnd (bnd (x1[k13]?) fun a55 => if a14 < a55 then (some true) else (some false) : Option Bool) fun y43 => some (.ret y43)) else (some (.next ()))) x0 0 ()) fun res9 => fin res9 fun (s74 : Unit) => some false
noncomputable def m_ref51_Canonical (x0 : List Swp) (x1 : List Int) : Option ((List Int) × (List Int)) :=
  bnd (lop (ρ := (List Int) × (List Int)) (fun (s9 : (List Int) × (List Int)) => bnd (rng (ρ := Ctl ((List Int) × (List Int)) ((List Int) × (List Int))) (fun (k34 : Nat) (a35 : Swp) (s32 : Int) => bnd (if s32 < 0 then (bnd (m_ref51_State a35 s9.1) fun q71 => bnd (m_ref51_less q71 s9.1) fun q80 => if q80 = true then some true else some false) else (some false) : Option Bool) fun y47 => if y47 = true then (some (.next (k34 : Int))) else (some (.next s32))) x0 0 (-1)) fun res30 => fin res30 fun (s96 : Int) => if s96 < 0 then (some (.ret (s9.1, s9.2))) else (bnd (atI x0 s96) fun a101 => bnd (m_ref51_State a101 s9.1) fun q124 => bnd (appI 8 s9.2 [s96]) fun u133 => some (.next (q124, u133)))) (x1, ([] : List Int))) fun res7 => fin res7 fun (_ : (List Int) × (List Int)) => none
structure Qst where
  task : Tsk
  gens : List Swp
  state : List Int
instance : Rp Qst where
  isAgg := true
  size := 6
  R w F cs x := ∃ v0 v1 v2 v3 v4 v5, cs = [v0, v1, v2, v3, v4, v5] ∧ Vb w F v0 x.task.vars ∧ Vb w F v1 x.task.init ∧ Vb w F v2 x.task.goal ∧ Vb w F v3 x.task.ops ∧ Vb w F v4 x.gens ∧ Vb w F v5 x.state
  len := by rintro w F cs x ⟨v0, v1, v2, v3, v4, v5, rfl, h0, h1, h2, h3, h4, h5⟩; rfl
  one := by rintro w F cs x ⟨v0, v1, v2, v3, v4, v5, rfl, h0, h1, h2, h3, h4, h5⟩ u hu; simp at hu; rcases hu with rfl | rfl | rfl | rfl | rfl | rfl <;> first | rfl | exact Vb.one rfl (by assumption)
  agree := by rintro w w' F cs x ⟨v0, v1, v2, v3, v4, v5, rfl, h0, h1, h2, h3, h4, h5⟩ ha; exact ⟨v0, v1, v2, v3, v4, v5, rfl, h0.agree ha, h1.agree ha, h2.agree ha, h3.agree ha, h4.agree ha, h5.agree ha⟩
  mono := by rintro w F G cs x ⟨v0, v1, v2, v3, v4, v5, rfl, h0, h1, h2, h3, h4, h5⟩ ha; exact ⟨v0, v1, v2, v3, v4, v5, rfl, h0.mono ha, h1.mono ha, h2.mono ha, h3.mono ha, h4.mono ha, h5.mono ha⟩
noncomputable def m_law51_large (x0 : Qst) : Option Bool :=
  bnd (if 70 < (x0.task.vars.length : Int) then (some true) else (if 20 < (x0.task.ops.length : Int) then (some true) else (if 12 < (x0.gens.length : Int) then (some true) else (if 100 < (x0.state.length : Int) then (some true) else (some false)))) : Option Bool) fun y32 => if y32 = true then (some true) else (bnd (rng (ρ := Bool) (fun (k59 : Nat) (a60 : Swp) (s57 : Unit) => bnd (m_law51_long a60) fun q96 => if q96 = true then some (.ret true) else some (.next ())) x0.gens 0 ()) fun res55 => fin res55 fun (s107 : Unit) => some false)
theorem c_law51_large {w : World} {A : Nat → Prop} (hA : ∀ k, A k → k < w.heap.size) {vx0 : Value} {x0 : Qst} (hx0 : Vb w A vx0 x0) {r : Bool} (hm : m_law51_large x0 = some r) :
    Fn Try.prog 27 [vx0] w fun v w' => Ext w w' ∧ Vb w' (upA A w w') v r := by
 obtain ⟨O, hB, hA0⟩ := enter hA
 replace hx0 := hx0.mono hA0
 obtain ⟨cs2, rfl, v3, v4, v5, v6, v7, v8, rfl, h9, h12, h15, h18, h21, h24⟩ := hx0
 obtain ⟨A10, c11, rfl⟩ := h9.form
 obtain ⟨A13, c14, rfl⟩ := h12.form
 obtain ⟨A16, c17, rfl⟩ := h15.form
 obtain ⟨A19, c20, rfl⟩ := h18.form
 obtain ⟨A22, c23, rfl⟩ := h21.form
 obtain ⟨A25, c26, rfl⟩ := h24.form
 refine fn_enter Try.func27 rfl Try.ntmps27 rfl ?_
 unfold m_law51_large at hm
 refine ewp_seq (ewp_region (l_box 2 O rfl rfl fun g27 w28 O29 S30 h31 => ?_))
 replace h31 : Lc 2 w28 O29 g27 54 [(.slice A10 x0.task.vars.length c11), (.slice A13 x0.task.init.length c14), (.slice A16 x0.task.goal.length c17), (.slice A19 x0.task.ops.length c20), (.slice A22 x0.gens.length c23), (.slice A25 x0.state.length c26)] := h31
 refine o_as rfl rfl (o_z ?_)
 refine ewp_seq (ewp_seq ?_)
 obtain ⟨y32, hy33, hm⟩ := bs hm
 refine ewp_join (fun l' w' => ∃ (x35 : Unit) (O' : Lab), subs l' [(1, (.pointer (some ⟨g27, 0, none⟩))), (28, (.bool y32))] ∧ Bs w A w' O' ∧ Lc 2 w' O' g27 54 [(.slice A10 x0.task.vars.length c11), (.slice A13 x0.task.init.length c14), (.slice A16 x0.task.goal.length c17), (.slice A19 x0.task.ops.length c20), (.slice A22 x0.gens.length c23), (.slice A25 x0.state.length c26)] ∧ Vb w' (Fr 0 w' O') (.slice A10 x0.task.vars.length c11) x0.task.vars ∧ Vb w' (Fr 0 w' O') (.slice A13 x0.task.init.length c14) x0.task.init ∧ Vb w' (Fr 0 w' O') (.slice A16 x0.task.goal.length c17) x0.task.goal ∧ Vb w' (Fr 0 w' O') (.slice A19 x0.task.ops.length c20) x0.task.ops ∧ Vb w' (Fr 0 w' O') (.slice A22 x0.gens.length c23) x0.gens ∧ Vb w' (Fr 0 w' O') (.slice A25 x0.state.length c26) x0.state) ?_ ?_
 ·
  refine ewp_region (o_fa rfl rfl (o_fa rfl rfl (o_ld (hc := Blk.cell (i := 0) (h31.1) rfl) rfl rfl ?_)))
  refine o_ln rfl rfl ?_
  replace h9 := h9.st S30
  have l37 : x0.task.vars.length ≤ 9223372036854775807 := Nat.le_trans h9.len.2.1 h9.len.2.2
  have r36 : inI64 (x0.task.vars.length : Int) := rngNat l37
  refine o_gtS rfl rfl rfl (fun c38 => ?_) fun c38 => ?_
  ·
   replace hy33 := ip hy33 c38
   refine o_mv rfl rfl (owp_no rfl rfl rfl rfl (owp_no rfl rfl rfl rfl (owp_no rfl rfl rfl rfl (owp_no rfl rfl rfl rfl (owp_no rfl rfl rfl rfl (o_pt rfl rfl rfl (o_mv rfl rfl (owp_no rfl rfl rfl rfl (owp_no rfl rfl rfl rfl (owp_no rfl rfl rfl rfl (owp_no rfl rfl rfl rfl (o_pt rfl rfl rfl (o_mv rfl rfl (owp_no rfl rfl rfl rfl ?_))))))))))))))
   refine owp_no rfl rfl rfl rfl (owp_no rfl rfl rfl rfl (owp_no rfl rfl rfl rfl (o_pt rfl rfl rfl (o_z ?_))))
   obtain rfl := sm hy33
   replace hB := hB.st S30
   replace h12 := h12.st S30
   replace h15 := h15.st S30
   replace h18 := h18.st S30
   replace h21 := h21.st S30
   replace h24 := h24.st S30
   exact ⟨(), _, ⟨rfl, rfl, trivial⟩, hB, h31, h9, h12, h15, h18, h21, h24⟩
  ·
   replace hy33 := im hy33 c38
   refine o_mv rfl rfl (owp_yes rfl rfl (o_fa rfl rfl (owp_yes rfl rfl (o_fa rfl rfl (owp_yes rfl rfl (o_ld (hc := Blk.cell (i := 3) (h31.1) rfl) rfl rfl ?_))))))
   refine owp_yes rfl rfl (o_ln rfl rfl ?_)
   replace h18 := h18.st S30
   have l40 : x0.task.ops.length ≤ 9223372036854775807 := Nat.le_trans h18.len.2.1 h18.len.2.2
   have r39 : inI64 (x0.task.ops.length : Int) := rngNat l40
   refine owp_yes rfl rfl (o_gtS rfl rfl rfl (fun c41 => ?_) fun c41 => ?_)
   ·
    replace hy33 := ip hy33 c41
    refine o_pf rfl rfl rfl (o_mv rfl rfl (owp_no rfl rfl rfl rfl (owp_no rfl rfl rfl rfl (owp_no rfl rfl rfl rfl (owp_no rfl rfl rfl rfl (o_pt rfl rfl rfl (o_mv rfl rfl (owp_no rfl rfl rfl rfl (owp_no rfl rfl rfl rfl (owp_no rfl rfl rfl rfl (owp_no rfl rfl rfl rfl (o_pt rfl rfl rfl (o_z ?_)))))))))))))
    obtain rfl := sm hy33
    replace hB := hB.st S30
    replace h12 := h12.st S30
    replace h15 := h15.st S30
    replace h21 := h21.st S30
    replace h24 := h24.st S30
    exact ⟨(), _, ⟨rfl, rfl, trivial⟩, hB, h31, h9, h12, h15, h18, h21, h24⟩
   ·
    replace hy33 := im hy33 c41
    refine o_pf rfl rfl rfl (o_mv rfl rfl (owp_yes rfl rfl (o_fa rfl rfl (owp_yes rfl rfl (o_ld (hc := Blk.cell (i := 4) (h31.1) rfl) rfl rfl ?_)))))
    refine owp_yes rfl rfl (o_ln rfl rfl ?_)
    replace h21 := h21.st S30
    have l43 : x0.gens.length ≤ 9223372036854775807 := Nat.le_trans h21.len.2.1 h21.len.2.2
    have r42 : inI64 (x0.gens.length : Int) := rngNat l43
    refine owp_yes rfl rfl (o_gtS rfl rfl rfl (fun c44 => ?_) fun c44 => ?_)
    ·
     replace hy33 := ip hy33 c44
     refine o_pf rfl rfl rfl (o_mv rfl rfl (owp_no rfl rfl rfl rfl (owp_no rfl rfl rfl rfl (owp_no rfl rfl rfl rfl (owp_no rfl rfl rfl rfl (o_pt rfl rfl rfl (o_z ?_)))))))
     obtain rfl := sm hy33
     replace hB := hB.st S30
     replace h12 := h12.st S30
     replace h15 := h15.st S30
     replace h24 := h24.st S30
     exact ⟨(), _, ⟨rfl, rfl, trivial⟩, hB, h31, h9, h12, h15, h18, h21, h24⟩
    ·
     replace hy33 := im hy33 c44
     refine o_pf rfl rfl rfl (o_mv rfl rfl (owp_yes rfl rfl (o_fa rfl rfl (owp_yes rfl rfl (o_ld (hc := Blk.cell (i := 5) (h31.1) rfl) rfl rfl ?_)))))
     refine owp_yes rfl rfl (o_ln rfl rfl ?_)
     replace h24 := h24.st S30
     have l46 : x0.state.length ≤ 9223372036854775807 := Nat.le_trans h24.len.2.1 h24.len.2.2
     have r45 : inI64 (x0.state.length : Int) := rngNat l46
     refine owp_yes rfl rfl (o_gtS rfl rfl rfl (fun c47 => ?_) fun c47 => ?_)
     ·
      replace hy33 := ip hy33 c47
      refine o_pf rfl rfl rfl (o_z ?_)
      obtain rfl := sm hy33
      replace hB := hB.st S30
      replace h12 := h12.st S30
      replace h15 := h15.st S30
      exact ⟨(), _, ⟨rfl, rfl, trivial⟩, hB, h31, h9, h12, h15, h18, h21, h24⟩
     ·
      replace hy33 := im hy33 c47
      refine o_pf rfl rfl rfl (o_z ?_)
      obtain rfl := sm hy33
      replace hB := hB.st S30
      replace h12 := h12.st S30
      replace h15 := h15.st S30
      exact ⟨(), _, ⟨rfl, rfl, trivial⟩, hB, h31, h9, h12, h15, h18, h21, h24⟩
 replace hB := hB.st S30
 replace h9 := h9.st S30
 replace h12 := h12.st S30
 replace h15 := h15.st S30
 replace h18 := h18.st S30
 replace h21 := h21.st S30
 replace h24 := h24.st S30
 rintro l48 w49 ⟨x35, O50, hs51, hB, h31, h9, h12, h15, h18, h21, h24⟩
 refine ewp_sub _ hs51 ?_
 refine ewp_cond rfl (fun c52 => ?_) (fun c52 => ?_)
 ·
  replace hm := ip hm c52
  refine ewp_seq (ewp_region (o_as rfl rfl (o_z ?_)))
  refine ewp_ret ?_
  obtain rfl := sm hm
  exact ret1v rfl (res_tmp rfl) ⟨hB.ext, vBool⟩
 ·
  replace hm := im' hm c52
  refine ewp_skip (ewp_seq (ewp_seq (ewp_region (o_fa rfl rfl (o_ld (hc := Blk.cell (i := 4) (h31.1) rfl) rfl rfl ?_)))))
  refine o_ln rfl rfl ?_
  have l54 : x0.gens.length ≤ 9223372036854775807 := Nat.le_trans h21.len.2.1 h21.len.2.2
  have r53 : inI64 (x0.gens.length : Int) := rngNat l54
  refine o_mv rfl rfl (o_z ?_)
  obtain ⟨res55, hL56, hm⟩ := bs hm
  refine ewp_join (aft res55 (fun (s57 : Unit) (x58 : Unit) => []) (fun s57 x58 w' => ∃ O' : Lab, Bs w A w' O')) ?_ ?_
  ·
   refine ewp_block (ewp_rng (σ := Unit) (X := Unit) (x0.gens.length) hL56 rfl l54 (fun (s57 : Unit) (x58 : Unit) => [(30, (.slice A22 x0.gens.length c23))]) _ (fun s57 x58 w' => ∃ O' : Lab, Bs w A w' O' ∧ Vb w' (Fr 0 w' O') (.slice A22 x0.gens.length c23) x0.gens) _ () ⟨O50, hB, h21⟩ ⟨rfl, rfl, rfl, trivial⟩ (fun _ _ => ⟨rfl, rfl⟩) (fun _ _ => trivial) (fun _ _ _ ⟨O', hB, h21⟩ => ⟨O', hB⟩) ⟨rfl, rfl, rfl⟩ ⟨rfl, rfl⟩ ?_)
   rintro k59 a60 s57 x58 w61 cc63 hx64 ⟨O62, hB, h21⟩ hf65 hret66 hbrk67
   have rk59 : inI64 (k59 : Int) := rngK hx64 l54
   refine ewp_seq (ewp_region ?_)
   obtain ⟨b70, o71, ce72, hA73, hl74, hd75, v77, v78, v79, rfl, h80, h83, h86⟩ := h21.elem' hx64
   obtain ⟨A81, c82, rfl⟩ := h80.form
   obtain ⟨A84, c85, rfl⟩ := h83.form
   obtain ⟨A87, c88, rfl⟩ := h86.form
   refine o_iaE (hA := hA73) (hj := rfl) (hlt := hl74) rfl rfl rfl ?_
   refine o_la (hl := rfl) (hc := hd75) rfl rfl ?_
   refine l_alloc 3 O62 rfl fun g89 w90 O91 S92 h93 => ?_
   refine l_store h93 rfl rfl rfl (Nat.le_of_ble_eq_true rfl) (by first | exact allOne rfl | simp [Value.cells, Value.oneCell', errV_one]) fun w94 S95 h93 => ?_
   replace h93 : Lc 3 w94 O91 g89 29 [(.slice A81 a60.vars.length c82), (.slice A84 a60.vals.length c85), (.slice A87 a60.ops.length c88)] := h93
   refine o_z ?_
   refine ewp_seq (ewp_region (o_la (hl := rfl) (hc := (h93.1).cellsAt) rfl rfl ?_))
   obtain ⟨q96, e97, hf65⟩ := bs hf65
   replace h80 := (h80.st S92).st S95
   replace h83 := (h83.st S92).st S95
   replace h86 := (h86.st S92).st S95
   refine l_callA (O := O91) (A := All w94) (R := fun w' F v => Vb w' F v q96) (c_law51_long (fun _ h => h) (Vb.mono (F := Fr 0 w94 O91) (Vb.ofAgg (cs := [(.slice A81 a60.vars.length c82), (.slice A84 a60.vals.length c85), (.slice A87 a60.ops.length c88)]) (x := a60) rfl ⟨_, _, _, rfl, h80, h83, h86⟩) Fr.lt) e97) rfl rfl fun v102 w98 O99 S100 h101 => ?_
   obtain rfl := h101.bool
   cases q96
   case false =>
    replace hf65 := iF hf65
    refine o_z ?_
    refine ewp_false rfl (ewp_skip ?_)
    obtain rfl := sm hf65
    refine (?_ : Exists _)
    replace hB := ((hB.st S92).st S95).st S100
    replace h21 := ((h21.st S92).st S95).st S100
    exact ⟨_, (), rfl, ⟨rfl, rfl, rfl, trivial⟩, _, hB, h21⟩
   replace hf65 := iT hf65
   refine o_z ?_
   refine ewp_true rfl (ewp_seq (ewp_region (o_as rfl rfl (o_z ?_))))
   refine ewp_ret ?_
   obtain rfl := sm hf65
   obtain rfl := hret66 _ rfl
   obtain rfl := sm (fin_ret hm)
   replace hB := ((hB.st S92).st S95).st S100
   exact ret1v rfl (res_tmp rfl) ⟨hB.ext, vBool⟩
  rintro l103 w104 ⟨s107, x108, rfl, hs106, O105, hB⟩
  replace hm := fin_done hm
  refine ewp_sub _ hs106 ?_
  refine ewp_seq (ewp_region (o_as rfl rfl (o_z ?_)))
  refine ewp_ret ?_
  obtain rfl := sm hm
  exact ret1v rfl (res_tmp rfl) ⟨hB.ext, vBool⟩
end
section
open Go Go.RowKit Go.ChangeShapes Go.WideShapes Go.Deep
theorem c_swap : Try.prog.cellsOf 29 = 3 := by kernel_rfl
instance : Reads Try.prog 52 (List Swp) := readsSlice Try.underlying52 c_swap (by decide)
theorem len6 {cs : List Value} (h : cs.length = 6) : ∃ a b c d e f, cs = [a, b, c, d, e, f] := by
  match cs, h with
  | [a, b, c, d, e, f], _ => exact ⟨a, b, c, d, e, f, rfl⟩
instance : Reads Try.prog 54 Qst := ⟨fun {H enc w n cs x} h => by
  obtain ⟨hl, m, hf⟩ := readsField Try.underlying54 h
  obtain ⟨v0, v1, v2, v3, v4, v5, rfl⟩ := len6 (hl.trans (by kernel_rfl : Try.prog.cellsOf 54 = 6))
  obtain ⟨x0, g0⟩ := hf 0 26 0 4 rfl (by kernel_rfl)
  replace g0 : DataW.trod enc Try.prog w 0 (fun _ => true) true m 26 [v0, v1, v2, v3] = some x0 := g0
  obtain ⟨x1, g1⟩ := hf 1 52 4 1 rfl (by kernel_rfl)
  replace g1 : DataW.trod enc Try.prog w 0 (fun _ => true) true m 52 [v4] = some x1 := g1
  obtain ⟨x2, g2⟩ := hf 2 22 5 1 rfl (by kernel_rfl)
  replace g2 : DataW.trod enc Try.prog w 0 (fun _ => true) true m 22 [v5] = some x2 := g2
  obtain ⟨z0, a, b, c, d, e0, q1, q2, q3, q4⟩ := (inferInstance : Reads Try.prog 26 Tsk).of g0
  obtain ⟨rfl, rfl, rfl, rfl⟩ : v0 = a ∧ v1 = b ∧ v2 = c ∧ v3 = d := by simpa using e0
  obtain ⟨z1, r1⟩ := (inferInstance : Reads Try.prog 52 (List Swp)).of g1
  obtain ⟨z2, r2⟩ := (inferInstance : Reads Try.prog 22 (List Int)).of g2
  exact ⟨⟨z0, z1, z2⟩, v0, v1, v2, v3, v4, v5, rfl, q1, q2, q3, q4, r1, r2⟩⟩
end
section
section
variable {α σ ρ : Type}
theorem fin_d {s : σ} {f : σ → Option ρ} : fin (.done s) f = f s := rfl
theorem fin_r {c : ρ} {f : σ → Option ρ} : fin (.ret c) f = some c := rfl
theorem if_t {x y : α} : (if true = true then x else y) = x := rfl
theorem if_f {x y : α} : (if false = true then x else y) = y := rfl
theorem rng_inv_from {f : Nat → α → σ → Option (Ctl σ ρ)} {I : Nat → σ → Prop} {R : ρ → Prop} : ∀ (ys : List α) (j : Nat) (s : σ), I j s →
    (∀ k x s, ys[k]? = some x → I (j + k) s → (∃ s', f (j + k) x s = some (.next s') ∧ I (j + k + 1) s') ∨ (∃ r, f (j + k) x s = some (.ret r) ∧ R r)) →
    (∃ s', rng f ys j s = some (.done s') ∧ I (j + ys.length) s') ∨ ∃ r, rng f ys j s = some (.ret r) ∧ R r
  | [], j, s, h0, _ => .inl ⟨s, rfl, h0⟩
  | y :: ys, j, s, h0, h => by
    rcases h 0 y s rfl h0 with ⟨s', h1, h2⟩ | ⟨r, h1, h2⟩
    · have h1' : f j y s = some (.next s') := h1
      simp only [rng, h1']
      rcases rng_inv_from (I := I) (R := R) ys (j + 1) s' h2 (fun k x s hk hI => by
        have := h (k + 1) x s (by simpa using hk) (by rwa [show j + (k + 1) = j + 1 + k from by omega])
        rwa [show j + (k + 1) = j + 1 + k from by omega] at this) with ⟨s2, h3, h4⟩ | h3
      · exact .inl ⟨s2, h3, by rw [List.length_cons, show j + (ys.length + 1) = j + 1 + ys.length from by omega]; exact h4⟩
      · exact .inr h3
    · have h1' : f j y s = some (.ret r) := h1
      simp only [rng, h1']
      exact .inr ⟨r, rfl, h2⟩
theorem rng_inv {f : Nat → α → σ → Option (Ctl σ ρ)} {xs : List α} {s₀ : σ} (I : Nat → σ → Prop) (R : ρ → Prop) (h0 : I 0 s₀)
    (h : ∀ k x s, xs[k]? = some x → I k s → (∃ s', f k x s = some (.next s') ∧ I (k + 1) s') ∨ (∃ r, f k x s = some (.ret r) ∧ R r)) :
    (∃ s', rng f xs 0 s₀ = some (.done s') ∧ I xs.length s') ∨ ∃ r, rng f xs 0 s₀ = some (.ret r) ∧ R r := by
  have := rng_inv_from (f := f) (I := I) (R := R) xs 0 s₀ h0 (fun k x s hk hI => by rw [Nat.zero_add] at hI ⊢; exact h k x s hk hI)
  rwa [Nat.zero_add] at this
/-- A loop that runs to its end. -/
theorem rng_all {f : Nat → α → σ → Option (Ctl σ ρ)} {xs : List α} {s₀ : σ} (I : Nat → σ → Prop) (h0 : I 0 s₀) (h : ∀ k x s, xs[k]? = some x → I k s → ∃ s', f k x s = some (.next s') ∧ I (k + 1) s') :
    ∃ s', rng f xs 0 s₀ = some (.done s') ∧ I xs.length s' := by
  rcases rng_inv I (fun _ => False) h0 (fun k x s hk hI => .inl (h k x s hk hI)) with h | ⟨_, _, h⟩
  · exact h
  · exact h.elim
/-- A loop whose state is known in each round. -/
theorem rng_fun {f : Nat → α → σ → Option (Ctl σ ρ)} {xs : List α} (g : Nat → σ) (h : ∀ k x, xs[k]? = some x → f k x (g k) = some (.next (g (k + 1)))) : rng f xs 0 (g 0) = some (.done (g xs.length)) := by
  obtain ⟨s', h1, h2⟩ := rng_all (f := f) (xs := xs) (s₀ := g 0) (fun k s => s = g k) rfl (fun k x s hk hI => ⟨_, by rw [hI]; exact h k x hk, rfl⟩)
  rw [h1, h2]
theorem rng_from {f : Nat → α → σ → Option (Ctl σ ρ)} {xs : List α} {s₀ : σ} (g : Nat → σ) (h0 : s₀ = g 0) (h : ∀ k x, xs[k]? = some x → f k x (g k) = some (.next (g (k + 1)))) : rng f xs 0 s₀ = some (.done (g xs.length)) := by
  rw [h0]; exact rng_fun g h
theorem rng_unit {f : Nat → α → Unit → Option (Ctl Unit ρ)} {xs : List α} (h : ∀ k x, xs[k]? = some x → f k x () = some (.next ())) : rng f xs 0 () = some (.done ()) := rng_fun (fun _ => ()) h
theorem rngN_fun {f : Nat → σ → Option (Ctl σ ρ)} {N : Nat} (g : Nat → σ) (h : ∀ k, k < N → f k (g k) = some (.next (g (k + 1)))) : rngN f N (g 0) = some (.done (g N)) := by
  have := rng_fun (f := fun _ k s => f k s) (xs := List.range N) g (fun k x hk => by
    obtain ⟨hlt, rfl⟩ := List.getElem?_eq_some_iff.1 hk
    simpa using h k (by simpa using hlt))
  rwa [List.length_range] at this
theorem rngN_from {f : Nat → σ → Option (Ctl σ ρ)} {N : Nat} {s₀ : σ} (g : Nat → σ) (h0 : s₀ = g 0) (h : ∀ k, k < N → f k (g k) = some (.next (g (k + 1)))) : rngN f N s₀ = some (.done (g N)) := by
  rw [h0]; exact rngN_fun g h
end
end
end Go.Proofs.Ytdhaelekmjgbmaa

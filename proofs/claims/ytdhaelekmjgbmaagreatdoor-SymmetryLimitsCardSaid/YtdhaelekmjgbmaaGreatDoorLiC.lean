/- Own text: what the proof of symmetryLimits_holds uses, part 3: rules, models and their proofs, plain laws. -/
import Derived.Test.YtdhaelekmjgbmaaGreatDoorLiB
set_option linter.unusedVariables false
set_option linter.unusedSimpArgs false
namespace Go.Proofs.YtdhaelekmjgbmaaGreatDoor
open Go Go.RowKit
section
open Go Go.RowKit
attribute [local irreducible] ewp owp hwp hwq Ev Evg Fn retPost Res1
noncomputable def m_symmetry_mapped (x0 : Swp) (x1 : List Fct) : Option (List Fct) :=
  bnd (rng (ρ := (List Fct)) (fun (k29 : Nat) (a30 : Fct) (s27 : (List Fct)) => bnd (atI x0.vars a30.var) fun a60 => bnd (atI x0.vals a30.var) fun a72 => bnd (atI a72 a30.val) fun a87 => bnd (appI 16 s27 [(⟨a60, a87⟩ : Fct)]) fun u105 => some (.next u105)) x1 0 ([] : List Fct)) fun res25 => fin res25 fun (s120 : (List Fct)) => bnd (if s120.length < 4611686018427387904 then some (srt_symmetry_mapped_l1 s120) else none) fun u127 => some u127
theorem c_symmetry_mapped {w : World} {A : Nat → Prop} (hA : ∀ k, A k → k < w.heap.size) {vx0 : Value} {x0 : Swp} (hx0 : Vb w A vx0 x0) {vx1 : Value} {x1 : List Fct} (hx1 : Vb w A vx1 x1) {r : (List Fct)} (hm : m_symmetry_mapped x0 x1 = some r) :
    Fn Tryz.prog 54 [vx0, vx1] w fun v w' => Ext w w' ∧ Vb w' (upA A w w') v r := by
 obtain ⟨O, hB, hA0⟩ := enter hA
 replace hx0 := hx0.mono hA0
 obtain ⟨cs3, rfl, v4, v5, v6, rfl, h7, h10, h13⟩ := hx0
 obtain ⟨A8, c9, rfl⟩ := h7.form
 obtain ⟨A11, c12, rfl⟩ := h10.form
 obtain ⟨A14, c15, rfl⟩ := h13.form
 replace hx1 := hx1.mono hA0
 obtain ⟨A16, c17, rfl⟩ := hx1.form
 refine fn_enter Tryz.func54 rfl Tryz.ntmps54 rfl ?_
 unfold m_symmetry_mapped at hm
 refine ewp_seq (ewp_region (l_box 2 O rfl rfl fun g18 w19 O20 S21 h22 => ?_))
 replace h22 : Lc 2 w19 O20 g18 43 [(.slice A8 x0.vars.length c9), (.slice A11 x0.vals.length c12), (.slice A14 x0.ops.length c15)] := h22
 refine o_as rfl rfl (o_z ?_)
 refine ewp_seq (ewp_region (o_as rfl rfl (o_z ?_)))
 refine ewp_seq (ewp_seq (ewp_region (o_mv rfl rfl (o_ln rfl rfl ?_))))
 replace hx1 := hx1.st S21
 have l24 : x1.length ≤ 9223372036854775807 := Nat.le_trans hx1.len.2.1 hx1.len.2.2
 have r23 : inI64 (x1.length : Int) := rngNat l24
 refine o_mv rfl rfl (o_z ?_)
 obtain ⟨res25, hL26, hm⟩ := bs hm
 refine ewp_join (aft res25 (fun (s27 : (List Fct)) (x28 : (Option Addr × Nat)) => [(5, (.slice x28.1 s27.length x28.2))]) (fun s27 x28 w' => ∃ O' : Lab, Bs w A w' O' ∧ Rw 5 w' O' 26 (.slice x28.1 s27.length x28.2) s27)) ?_ ?_
 ·
  refine ewp_block ?_
  replace hB := hB.st S21
  replace h7 := h7.st S21
  replace h10 := h10.st S21
  replace h13 := h13.st S21
  refine ewp_rng (σ := (List Fct)) (X := (Option Addr × Nat)) (x1.length) hL26 rfl l24 (fun (s27 : (List Fct)) (x28 : (Option Addr × Nat)) => [(2, (.pointer (some ⟨g18, 0, none⟩))), (5, (.slice x28.1 s27.length x28.2)), (8, (.slice A16 x1.length c17))]) _ (fun s27 x28 w' => ∃ O' : Lab, Bs w A w' O' ∧ Lc 2 w' O' g18 43 [(.slice A8 x0.vars.length c9), (.slice A11 x0.vals.length c12), (.slice A14 x0.ops.length c15)] ∧ Vb w' (Fr 0 w' O') (.slice A8 x0.vars.length c9) x0.vars ∧ Vb w' (Fr 0 w' O') (.slice A11 x0.vals.length c12) x0.vals ∧ Vb w' (Fr 0 w' O') (.slice A14 x0.ops.length c15) x0.ops ∧ Rw 5 w' O' 26 (.slice x28.1 s27.length x28.2) s27 ∧ Vb w' (Fr 0 w' O') (.slice A16 x1.length c17) x1) _ (none, 0) ⟨O20, hB, h22, h7, h10, h13, (Rw.nil 5 (by decide)), hx1⟩ ⟨rfl, rfl, rfl, rfl, rfl, trivial⟩ (fun _ _ => ⟨rfl, rfl⟩) (fun _ _ => ⟨rfl, trivial⟩) (fun _ _ _ ⟨O', hB, h22, h7, h10, h13, h42, hx1⟩ => ⟨O', hB, h42⟩) ⟨rfl, rfl, rfl⟩ ⟨rfl, rfl⟩ ?_
  rintro k29 a30 s27 x28 w31 cc33 hx34 ⟨O32, hB, h22, h7, h10, h13, h42, hx1⟩ hf35 hret36 hbrk37
  have rk29 : inI64 (k29 : Int) := rngK hx34 l24
  refine ewp_seq (ewp_region ?_)
  obtain ⟨b44, o45, ce46, hA47, hl48, hd49, rfl, r51, r52⟩ := hx1.elem' hx34
  refine o_iaE (hA := hA47) (hj := rfl) (hlt := hl48) rfl rfl rfl ?_
  refine o_la (hl := rfl) (hc := hd49) rfl rfl ?_
  refine l_alloc 3 O32 rfl fun g53 w54 O55 S56 h57 => ?_
  refine l_store h57 rfl rfl rfl (nle_b rfl) (allOne rfl) fun w58 S59 h57 => ?_
  replace h57 : Lc 3 w58 O55 g53 26 [(.int .i64 a30.var), (.int .i64 a30.val)] := h57
  refine o_z ?_
  refine ewp_drawX [(19, [5])] O55 ?_
  refine x_pre (fuel := 3) [] [(0, true), (1, true), (2, true), (3, true), (4, true), (5, true), (6, true), (7, true), (8, true), (9, true), (10, true), (11, true), (12, true), (13, true), (14, true), (15, true), (16, true), (17, true)] (by kernel_rfl) rfl ?_
  refine h_mv rfl rfl rfl (h_fa rfl rfl rfl ?_)
  replace h22 := (h22.st S56).st S59
  refine h_ldC (hc := fun w' ⟨O', hq⟩ => Blk.cell (i := 0) ((h22.st hq (by decide)).1) rfl) rfl rfl rfl ?_
  refine h_fa rfl rfl rfl (h_ldC (hc := fun w' ⟨O', hq⟩ => Blk.cell (i := 0) ((h57.st hq (by decide)).1) rfl) rfl rfl rfl ?_)
  obtain ⟨a60, e61, hf35⟩ := bs hf35
  obtain ⟨p63, x62⟩ := atI_some' e61
  replace h7 := (h7.st S56).st S59
  obtain ⟨b64, o65, ce66, hA67, hF70, hl68, hd69, rfl, r71⟩ := h7.elem x62
  refine h_iaE (hA := hA67) (hj := (Int.toNat_of_nonneg p63).symm) (hlt := hl68) rfl rfl rfl rfl ?_
  refine h_ldC (hc := fun w' ⟨O', hq⟩ => cat0 (cellsAt_agree (hq.agree (i := 0) (by decide)) hF70 hd69)) rfl rfl rfl ?_
  refine h_fa rfl rfl rfl (h_ldC (hc := fun w' ⟨O', hq⟩ => Blk.cell (i := 1) ((h22.st hq (by decide)).1) rfl) rfl rfl rfl ?_)
  refine h_fa rfl rfl rfl (h_ldC (hc := fun w' ⟨O', hq⟩ => Blk.cell (i := 0) ((h57.st hq (by decide)).1) rfl) rfl rfl rfl ?_)
  obtain ⟨a72, e73, hf35⟩ := bs hf35
  obtain ⟨p75, x74⟩ := atI_some' e73
  replace h10 := (h10.st S56).st S59
  obtain ⟨b76, o77, ce78, hA79, hF82, hl80, hd81, v83, rfl, h84⟩ := h10.elem x74
  replace h84 := Vb.of_slice h84
  obtain ⟨A85, c86, rfl⟩ := h84.form
  refine h_iaE (hA := hA79) (hj := (Int.toNat_of_nonneg p75).symm) (hlt := hl80) rfl rfl rfl rfl ?_
  refine h_ldC (hc := fun w' ⟨O', hq⟩ => cat0 (cellsAt_agree (hq.agree (i := 0) (by decide)) hF82 hd81)) rfl rfl rfl ?_
  refine h_fa rfl rfl rfl (h_ldC (hc := fun w' ⟨O', hq⟩ => Blk.cell (i := 1) ((h57.st hq (by decide)).1) rfl) rfl rfl rfl ?_)
  obtain ⟨a87, e88, hf35⟩ := bs hf35
  obtain ⟨p90, x89⟩ := atI_some' e88
  obtain ⟨b91, o92, ce93, hA94, hF97, hl95, hd96, rfl, r98⟩ := h84.elem x89
  refine h_iaE (hA := hA94) (hj := (Int.toNat_of_nonneg p90).symm) (hlt := hl95) rfl rfl rfl rfl ?_
  refine h_ldC (hc := fun w' ⟨O', hq⟩ => cat0 (cellsAt_agree (hq.agree (i := 0) (by decide)) hF97 hd96)) rfl rfl rfl ?_
  refine h_bd rfl rfl rfl rfl ?_
  refine hwp_nilT ?_
  refine x_one (i := 18) (by kernel_rfl) rfl ?_
  refine l_bslice 4 (by decide) O55 (xs := ([(⟨a60, a87⟩ : Fct)] : List Fct)) rfl rfl rfl rfl ⟨(Vb.ofAgg (cs := [(.int .i64 a60), (.int .i64 a87)]) (x := (⟨a60, a87⟩ : Fct)) rfl ⟨rfl, r71, r98⟩), trivial⟩ (by decide) (by decide) rfl fun g99 w100 O101 S102 h103 => ?_
  have hZ := S102.lst [] (fun _ h => h.elim)
  refine x_go [(19, [5])] hZ (by kernel_rfl) ?_
  refine x_one (i := 19) (by kernel_rfl) rfl ?_
  obtain ⟨u105, e106, hf35⟩ := bs hf35
  obtain ⟨e106, e107, e108⟩ := appI_some e106
  replace h42 := ((h42.st S56).st S59).st S102
  refine l_append rfl h42 (h103.rd) rfl rfl (by decide) e107 e108 rfl fun A109 c110 w111 O112 S113 h114 => ?_
  rw [← e106] at h114 ⊢
  have hZ := S113.lst [5] (fun _ h => by cases h; decide)
  refine x_go [] hZ (by kernel_rfl) ?_
  refine x_pre (fuel := 0) [] [(20, true)] (by kernel_rfl) rfl ?_
  refine h_as rfl rfl rfl (hwp_nilT ?_)
  refine x_nil (by kernel_rfl) ?_
  obtain rfl := sm hf35
  replace hB := (((hB.st S56).st S59).st S102).st S113
  replace hx1 := (((hx1.st S56).st S59).st S102).st S113
  replace h7 := (h7.st S102).st S113
  replace h10 := (h10.st S102).st S113
  replace h13 := (((h13.st S56).st S59).st S102).st S113
  replace h22 := (h22.st S102).st S113
  exact show Exists _ from ⟨_, (A109, c110), rfl, ⟨rfl, rfl, rfl, rfl, rfl, trivial⟩, _, hB, h22, h7, h10, h13, h114, hx1⟩
 replace hB := hB.st S21
 rintro l116 w117 ⟨s120, x121, rfl, hs119, O118, hB, h42⟩
 replace hm := fin_done hm
 refine ewp_sub _ hs119 ?_
 refine ewp_seq (ewp_region (o_mv rfl rfl ?_))
 obtain ⟨u127, e126, hm⟩ := bs hm
 obtain ⟨e128, e126⟩ := ite_some e126
 refine l_callMut (s_symmetry_mapped_l1 h42 e128) rfl rfl fun v125 w122 O123 S124 h42 => ?_
 rw [e126] at h42
 refine o_z ?_
 refine ewp_seq (ewp_region (o_mv rfl rfl (o_as rfl rfl (o_z ?_))))
 refine ewp_ret ?_
 obtain ⟨O129, S130, h42⟩ := h42.freeze
 obtain rfl := sm hm
 replace hB := (hB.st S124).st S130
 exact ret1v rfl (res_tmp rfl) ⟨hB.ext, (Vb.mono (F := Fr 0 w122 O129) h42 hB.out)⟩
noncomputable def m_symmetry_image (x0 : Swp) (x1 : Opr) : Option Opr :=
  bnd (m_symmetry_mapped x0 x1.pre) fun q42 => bnd (some q42 : Option (List Fct)) fun y44 => bnd (rng (ρ := Opr) (fun (k88 : Nat) (a89 : Eff) (s86 : (List Eff)) => bnd (atI x0.vars a89.var) fun a123 => bnd (atI x0.vals a89.var) fun a135 => bnd (atI a135 a89.val) fun a150 => bnd (m_symmetry_mapped x0 a89.cond) fun q162 => bnd (appI 40 s86 [(⟨q162, a123, a150⟩ : Eff)]) fun u177 => some (.next u177)) x1.effs 0 ([] : List Eff)) fun res84 => fin res84 fun (s194 : (List Eff)) => some (⟨(⟨#[]⟩ : ByteArray), x1.cost, y44, s194⟩ : Opr)
theorem c_symmetry_image {w : World} {A : Nat → Prop} (hA : ∀ k, A k → k < w.heap.size) {vx0 : Value} {x0 : Swp} (hx0 : Vb w A vx0 x0) {vx1 : Value} {x1 : Opr} (hx1 : Vb w A vx1 x1) {r : Opr} (hm : m_symmetry_image x0 x1 = some r) :
    Fn Tryz.prog 56 [vx0, vx1] w fun v w' => Ext w w' ∧ Vb w' (upA A w w') v r := by
 obtain ⟨O, hB, hA0⟩ := enter hA
 replace hx0 := hx0.mono hA0
 obtain ⟨cs3, rfl, v4, v5, v6, rfl, h7, h10, h13⟩ := hx0
 obtain ⟨A8, c9, rfl⟩ := h7.form
 obtain ⟨A11, c12, rfl⟩ := h10.form
 obtain ⟨A14, c15, rfl⟩ := h13.form
 replace hx1 := hx1.mono hA0
 obtain ⟨cs16, rfl, v17, v18, rfl, h19, h22, r25, z26⟩ := hx1
 obtain ⟨A20, c21, rfl⟩ := h19.form
 obtain ⟨A23, c24, rfl⟩ := h22.form
 refine fn_enter Tryz.func56 rfl Tryz.ntmps56 rfl ?_
 unfold m_symmetry_image at hm
 refine ewp_seq (ewp_region (l_box 2 O rfl rfl fun g27 w28 O29 S30 h31 => ?_))
 replace h31 : Lc 2 w28 O29 g27 43 [(.slice A8 x0.vars.length c9), (.slice A11 x0.vals.length c12), (.slice A14 x0.ops.length c15)] := h31
 refine l_box 3 O29 rfl rfl fun g32 w33 O34 S35 h36 => ?_
 replace h36 : Lc 3 w33 O34 g32 35 [(.string x1.name), (.int .i64 x1.cost), (.slice A20 x1.pre.length c21), (.slice A23 x1.effs.length c24)] := h36
 refine l_alloc 4 O34 rfl fun g37 w38 O39 S40 h41 => ?_
 refine o_z ?_
 refine ewp_seq ?_
 obtain ⟨q42, e43, hm⟩ := bs hm
 obtain ⟨y44, hy45, hm⟩ := bs hm
 refine ewp_join (fun l' w' => ∃ (x47 : Nat × (Option Addr × Nat)) (O' : Lab), subs l' [(2, (.pointer (some ⟨g27, 0, none⟩))), (3, (.pointer (some ⟨g32, 0, none⟩))), (4, (.pointer (some ⟨g37, 0, none⟩))), (5, (.pointer (some ⟨x47.1, 0, none⟩)))] ∧ Bs w A w' O' ∧ Lc 2 w' O' g27 43 [(.slice A8 x0.vars.length c9), (.slice A11 x0.vals.length c12), (.slice A14 x0.ops.length c15)] ∧ Vb w' (Fr 0 w' O') (.slice A8 x0.vars.length c9) x0.vars ∧ Vb w' (Fr 0 w' O') (.slice A11 x0.vals.length c12) x0.vals ∧ Vb w' (Fr 0 w' O') (.slice A14 x0.ops.length c15) x0.ops ∧ Lc 3 w' O' g32 35 [(.string x1.name), (.int .i64 x1.cost), (.slice A20 x1.pre.length c21), (.slice A23 x1.effs.length c24)] ∧ Vb w' (Fr 0 w' O') (.slice A20 x1.pre.length c21) x1.pre ∧ Vb w' (Fr 0 w' O') (.slice A23 x1.effs.length c24) x1.effs ∧ Lc 4 w' O' g37 35 [(.string (⟨#[]⟩ : ByteArray)), (.int .i64 0), (.slice none 0 0), (.slice none 0 0)] ∧ Lc 5 w' O' x47.1 35 [(.string (⟨#[]⟩ : ByteArray)), (.int .i64 x1.cost), (.slice x47.2.1 y44.length x47.2.2), (.slice none 0 0)] ∧ Vb w' (Fr 0 w' O') (.slice x47.2.1 y44.length x47.2.2) y44) ?_ ?_
 ·
  refine ewp_drawX [] O39 ?_
  refine x_pre (fuel := 4) [] [(0, true), (1, true), (2, true), (3, true), (4, true)] (by kernel_rfl) rfl ?_
  refine h_fa rfl rfl rfl ?_
  replace h36 := h36.st S40
  refine h_ldC (hc := fun w' ⟨O', hq⟩ => Blk.cell (i := 1) ((h36.st hq (by decide)).1) rfl) rfl rfl rfl ?_
  replace h31 := (h31.st S35).st S40
  refine h_laB (hl := rfl) (hb := fun w' ⟨O', hq⟩ => ((h31.st hq (by decide)).1).cellsAt) rfl rfl rfl ?_
  refine h_fa rfl rfl rfl (h_ldC (hc := fun w' ⟨O', hq⟩ => Blk.cell (i := 2) ((h36.st hq (by decide)).1) rfl) rfl rfl rfl ?_)
  refine hwp_nilT ?_
  refine x_two (i := 5) (j := 7) (by kernel_rfl) rfl rfl ?_ ?_
  ·
   replace h7 := ((h7.st S30).st S35).st S40
   replace h10 := ((h10.st S30).st S35).st S40
   replace h13 := ((h13.st S30).st S35).st S40
   replace h19 := ((h19.st S30).st S35).st S40
   refine l_call (O := O39) (R := fun w' F v => Vb w' F v q42) (c_symmetry_mapped Fr.lt (Vb.ofAgg (cs := [(.slice A8 x0.vars.length c9), (.slice A11 x0.vals.length c12), (.slice A14 x0.ops.length c15)]) (x := x0) rfl ⟨_, _, _, rfl, h7, h10, h13⟩) h19 e43) rfl rfl fun v54 w50 O51 S52 h53 => ?_
   obtain ⟨A55, c56, rfl⟩ := h53.form
   have hZ := S52.lst [] (fun _ h => h.elim)
   refine x_go [] hZ (by kernel_rfl) ?_
   refine x_pre (fuel := 2) [] [(6, true)] (by kernel_rfl) rfl ?_
   refine h_bd rfl rfl rfl rfl ?_
   refine hwp_nilT ?_
   refine x_one (i := 7) (by kernel_rfl) rfl ?_
   refine l_alloc 5 O51 rfl fun g57 w58 O59 S60 h61 => ?_
   have hZ := S60.lst [] (fun _ h => h.elim)
   refine x_go [] hZ (by kernel_rfl) ?_
   refine x_one (i := 8) (by kernel_rfl) rfl ?_
   refine l_store h61 rfl rfl rfl (nle_b rfl) (allOne rfl) fun w62 S63 h61 => ?_
   replace h61 : Lc 5 w62 O59 g57 35 [(.string (⟨#[]⟩ : ByteArray)), (.int .i64 x1.cost), (.slice A55 q42.length c56), (.slice none 0 0)] := h61
   refine x_end (by kernel_rfl) ?_
   refine x_nil (by kernel_rfl) ?_
   obtain rfl := sm hy45
   replace hB := (((((hB.st S30).st S35).st S40).st S52).st S60).st S63
   replace h7 := ((h7.st S52).st S60).st S63
   replace h10 := ((h10.st S52).st S60).st S63
   replace h13 := ((h13.st S52).st S60).st S63
   replace h19 := ((h19.st S52).st S60).st S63
   replace h22 := (((((h22.st S30).st S35).st S40).st S52).st S60).st S63
   replace h31 := ((h31.st S52).st S60).st S63
   replace h36 := ((h36.st S52).st S60).st S63
   replace h41 := ((h41.st S52).st S60).st S63
   replace h53 := (h53.st S60).st S63
   exact ⟨(g57, (A55, c56)), _, ⟨rfl, rfl, rfl, rfl, trivial⟩, hB, h31, h7, h10, h13, h36, h19, h22, h41, h61, h53⟩
  refine l_alloc 5 O39 rfl fun g64 w65 O66 S67 h68 => ?_
  have hZ := S67.lst [] (fun _ h => h.elim)
  refine x_go [] hZ (by kernel_rfl) ?_
  refine x_one (i := 5) (by kernel_rfl) rfl ?_
  replace h7 := (((h7.st S30).st S35).st S40).st S67
  replace h10 := (((h10.st S30).st S35).st S40).st S67
  replace h13 := (((h13.st S30).st S35).st S40).st S67
  replace h19 := (((h19.st S30).st S35).st S40).st S67
  refine l_call (O := O66) (R := fun w' F v => Vb w' F v q42) (c_symmetry_mapped Fr.lt (Vb.ofAgg (cs := [(.slice A8 x0.vars.length c9), (.slice A11 x0.vals.length c12), (.slice A14 x0.ops.length c15)]) (x := x0) rfl ⟨_, _, _, rfl, h7, h10, h13⟩) h19 e43) rfl rfl fun v73 w69 O70 S71 h72 => ?_
  obtain ⟨A74, c75, rfl⟩ := h72.form
  have hZ := S71.lst [] (fun _ h => h.elim)
  refine x_go [] hZ (by kernel_rfl) ?_
  refine x_pre (fuel := 1) [] [(6, true)] (by kernel_rfl) rfl ?_
  refine h_bd rfl rfl rfl rfl ?_
  refine hwp_nilT ?_
  refine x_one (i := 8) (by kernel_rfl) rfl ?_
  replace h68 := h68.st S71
  refine l_store h68 rfl rfl rfl (nle_b rfl) (allOne rfl) fun w76 S77 h68 => ?_
  replace h68 : Lc 5 w76 O70 g64 35 [(.string (⟨#[]⟩ : ByteArray)), (.int .i64 x1.cost), (.slice A74 q42.length c75), (.slice none 0 0)] := h68
  refine x_end (by kernel_rfl) ?_
  refine x_nil (by kernel_rfl) ?_
  obtain rfl := sm hy45
  replace hB := (((((hB.st S30).st S35).st S40).st S67).st S71).st S77
  replace h7 := (h7.st S71).st S77
  replace h10 := (h10.st S71).st S77
  replace h13 := (h13.st S71).st S77
  replace h19 := (h19.st S71).st S77
  replace h22 := (((((h22.st S30).st S35).st S40).st S67).st S71).st S77
  replace h31 := ((h31.st S67).st S71).st S77
  replace h36 := ((h36.st S67).st S71).st S77
  replace h41 := ((h41.st S67).st S71).st S77
  replace h72 := h72.st S77
  exact ⟨(g64, (A74, c75)), _, ⟨rfl, rfl, rfl, rfl, trivial⟩, hB, h31, h7, h10, h13, h36, h19, h22, h41, h68, h72⟩
 replace hB := ((hB.st S30).st S35).st S40
 replace h7 := ((h7.st S30).st S35).st S40
 replace h10 := ((h10.st S30).st S35).st S40
 replace h13 := ((h13.st S30).st S35).st S40
 replace h19 := ((h19.st S30).st S35).st S40
 replace h22 := ((h22.st S30).st S35).st S40
 replace h31 := (h31.st S35).st S40
 replace h36 := h36.st S40
 rintro l78 w79 ⟨x47, O80, hs81, hB, h31, h7, h10, h13, h36, h19, h22, h41, h48, h49⟩
 refine ewp_sub _ hs81 ?_
 refine ewp_seq (ewp_seq (ewp_region (o_fa rfl rfl (o_ld (hc := Blk.cell (i := 3) (h36.1) rfl) rfl rfl ?_))))
 refine o_ln rfl rfl ?_
 have l83 : x1.effs.length ≤ 9223372036854775807 := Nat.le_trans h22.len.2.1 h22.len.2.2
 have r82 : inI64 (x1.effs.length : Int) := rngNat l83
 refine o_mv rfl rfl (o_z ?_)
 obtain ⟨res84, hL85, hm⟩ := bs hm
 refine ewp_join (aft res84 (fun (s86 : (List Eff)) (x87 : (Option Addr × Nat)) => [(4, (.pointer (some ⟨g37, 0, none⟩))), (5, (.pointer (some ⟨x47.1, 0, none⟩)))]) (fun s86 x87 w' => ∃ O' : Lab, Bs w A w' O' ∧ Lc 4 w' O' g37 35 [(.string (⟨#[]⟩ : ByteArray)), (.int .i64 0), (.slice none 0 0), (.slice none 0 0)] ∧ Lc 5 w' O' x47.1 35 [(.string (⟨#[]⟩ : ByteArray)), (.int .i64 x1.cost), (.slice x47.2.1 y44.length x47.2.2), (.slice x87.1 s86.length x87.2)] ∧ Vb w' (Fr 0 w' O') (.slice x47.2.1 y44.length x47.2.2) y44 ∧ Rw 8 w' O' 32 (.slice x87.1 s86.length x87.2) s86)) ?_ ?_
 ·
  refine ewp_block (ewp_rng (σ := (List Eff)) (X := (Option Addr × Nat)) (x1.effs.length) hL85 rfl l83 (fun (s86 : (List Eff)) (x87 : (Option Addr × Nat)) => [(2, (.pointer (some ⟨g27, 0, none⟩))), (4, (.pointer (some ⟨g37, 0, none⟩))), (5, (.pointer (some ⟨x47.1, 0, none⟩))), (16, (.slice A23 x1.effs.length c24))]) _ (fun s86 x87 w' => ∃ O' : Lab, Bs w A w' O' ∧ Lc 2 w' O' g27 43 [(.slice A8 x0.vars.length c9), (.slice A11 x0.vals.length c12), (.slice A14 x0.ops.length c15)] ∧ Vb w' (Fr 0 w' O') (.slice A8 x0.vars.length c9) x0.vars ∧ Vb w' (Fr 0 w' O') (.slice A11 x0.vals.length c12) x0.vals ∧ Vb w' (Fr 0 w' O') (.slice A14 x0.ops.length c15) x0.ops ∧ Lc 4 w' O' g37 35 [(.string (⟨#[]⟩ : ByteArray)), (.int .i64 0), (.slice none 0 0), (.slice none 0 0)] ∧ Lc 5 w' O' x47.1 35 [(.string (⟨#[]⟩ : ByteArray)), (.int .i64 x1.cost), (.slice x47.2.1 y44.length x47.2.2), (.slice x87.1 s86.length x87.2)] ∧ Vb w' (Fr 0 w' O') (.slice x47.2.1 y44.length x47.2.2) y44 ∧ Rw 8 w' O' 32 (.slice x87.1 s86.length x87.2) s86 ∧ Vb w' (Fr 0 w' O') (.slice A23 x1.effs.length c24) x1.effs) _ (none, 0) ⟨O80, hB, h31, h7, h10, h13, h41, h48, h49, (Rw.nil 8 (by decide)), h22⟩ ⟨rfl, rfl, rfl, rfl, rfl, rfl, trivial⟩ (fun _ _ => ⟨rfl, rfl⟩) (fun _ _ => ⟨rfl, rfl, trivial⟩) (fun _ _ _ ⟨O', hB, h31, h7, h10, h13, h41, h48, h49, h101, h22⟩ => ⟨O', hB, h41, h48, h49, h101⟩) ⟨rfl, rfl, rfl⟩ ⟨rfl, rfl⟩ ?_)
  rintro k88 a89 s86 x87 w90 cc92 hx93 ⟨O91, hB, h31, h7, h10, h13, h41, h48, h49, h101, h22⟩ hf94 hret95 hbrk96
  have rk88 : inI64 (k88 : Int) := rngK hx93 l83
  refine ewp_seq (ewp_region ?_)
  obtain ⟨b103, o104, ce105, hA106, hl107, hd108, v110, rfl, h111, r114, r115⟩ := h22.elem' hx93
  obtain ⟨A112, c113, rfl⟩ := h111.form
  refine o_iaE (hA := hA106) (hj := rfl) (hlt := hl107) rfl rfl rfl ?_
  refine o_la (hl := rfl) (hc := hd108) rfl rfl ?_
  refine l_alloc 6 O91 rfl fun g116 w117 O118 S119 h120 => ?_
  refine l_store h120 rfl rfl rfl (nle_b rfl) (allOne rfl) fun w121 S122 h120 => ?_
  replace h120 : Lc 6 w121 O118 g116 32 [(.slice A112 a89.cond.length c113), (.int .i64 a89.var), (.int .i64 a89.val)] := h120
  refine o_z ?_
  refine ewp_drawX [(24, [8])] O118 ?_
  refine x_pre (fuel := 6) [] [(0, true), (1, true), (2, true), (3, true), (4, true), (6, true), (7, true), (8, true), (9, true), (10, true), (11, true), (12, true), (13, true), (14, true), (15, true), (16, true), (17, true), (18, true), (19, true), (20, true), (21, true)] (by kernel_rfl) rfl ?_
  refine h_fa rfl rfl rfl ?_
  replace h48 := (h48.st S119).st S122
  refine h_ldC (hc := fun w' ⟨O', hq⟩ => Blk.cell (i := 3) ((h48.st hq (by decide)).1) rfl) rfl rfl rfl ?_
  replace h31 := (h31.st S119).st S122
  refine h_laB (hl := rfl) (hb := fun w' ⟨O', hq⟩ => ((h31.st hq (by decide)).1).cellsAt) rfl rfl rfl ?_
  refine h_fa rfl rfl rfl (h_ldC (hc := fun w' ⟨O', hq⟩ => Blk.cell (i := 0) ((h120.st hq (by decide)).1) rfl) rfl rfl rfl ?_)
  refine h_fa rfl rfl rfl (h_ldC (hc := fun w' ⟨O', hq⟩ => Blk.cell (i := 0) ((h31.st hq (by decide)).1) rfl) rfl rfl rfl ?_)
  refine h_fa rfl rfl rfl (h_ldC (hc := fun w' ⟨O', hq⟩ => Blk.cell (i := 1) ((h120.st hq (by decide)).1) rfl) rfl rfl rfl ?_)
  obtain ⟨a123, e124, hf94⟩ := bs hf94
  obtain ⟨p126, x125⟩ := atI_some' e124
  replace h7 := (h7.st S119).st S122
  obtain ⟨b127, o128, ce129, hA130, hF133, hl131, hd132, rfl, r134⟩ := h7.elem x125
  refine h_iaE (hA := hA130) (hj := (Int.toNat_of_nonneg p126).symm) (hlt := hl131) rfl rfl rfl rfl ?_
  refine h_ldC (hc := fun w' ⟨O', hq⟩ => cat0 (cellsAt_agree (hq.agree (i := 0) (by decide)) hF133 hd132)) rfl rfl rfl ?_
  refine h_fa rfl rfl rfl (h_ldC (hc := fun w' ⟨O', hq⟩ => Blk.cell (i := 1) ((h31.st hq (by decide)).1) rfl) rfl rfl rfl ?_)
  refine h_fa rfl rfl rfl (h_ldC (hc := fun w' ⟨O', hq⟩ => Blk.cell (i := 1) ((h120.st hq (by decide)).1) rfl) rfl rfl rfl ?_)
  obtain ⟨a135, e136, hf94⟩ := bs hf94
  obtain ⟨p138, x137⟩ := atI_some' e136
  replace h10 := (h10.st S119).st S122
  obtain ⟨b139, o140, ce141, hA142, hF145, hl143, hd144, v146, rfl, h147⟩ := h10.elem x137
  replace h147 := Vb.of_slice h147
  obtain ⟨A148, c149, rfl⟩ := h147.form
  refine h_iaE (hA := hA142) (hj := (Int.toNat_of_nonneg p138).symm) (hlt := hl143) rfl rfl rfl rfl ?_
  refine h_ldC (hc := fun w' ⟨O', hq⟩ => cat0 (cellsAt_agree (hq.agree (i := 0) (by decide)) hF145 hd144)) rfl rfl rfl ?_
  refine h_fa rfl rfl rfl (h_ldC (hc := fun w' ⟨O', hq⟩ => Blk.cell (i := 2) ((h120.st hq (by decide)).1) rfl) rfl rfl rfl ?_)
  obtain ⟨a150, e151, hf94⟩ := bs hf94
  obtain ⟨p153, x152⟩ := atI_some' e151
  obtain ⟨b154, o155, ce156, hA157, hF160, hl158, hd159, rfl, r161⟩ := h147.elem x152
  refine h_iaE (hA := hA157) (hj := (Int.toNat_of_nonneg p153).symm) (hlt := hl158) rfl rfl rfl rfl ?_
  refine h_ldC (hc := fun w' ⟨O', hq⟩ => cat0 (cellsAt_agree (hq.agree (i := 0) (by decide)) hF160 hd159)) rfl rfl rfl ?_
  refine hwp_nilT ?_
  refine x_one (i := 5) (by kernel_rfl) rfl ?_
  obtain ⟨q162, e163, hf94⟩ := bs hf94
  replace h13 := (h13.st S119).st S122
  replace h111 := (h111.st S119).st S122
  refine l_call (O := O118) (R := fun w' F v => Vb w' F v q162) (c_symmetry_mapped Fr.lt (Vb.ofAgg (cs := [(.slice A8 x0.vars.length c9), (.slice A11 x0.vals.length c12), (.slice A14 x0.ops.length c15)]) (x := x0) rfl ⟨_, _, _, rfl, h7, h10, h13⟩) h111 e163) rfl rfl fun v168 w164 O165 S166 h167 => ?_
  obtain ⟨A169, c170, rfl⟩ := h167.form
  have hZ := S166.lst [] (fun _ h => h.elim)
  refine x_go [(24, [8])] hZ (by kernel_rfl) ?_
  refine x_pre (fuel := 4) [] [(22, true)] (by kernel_rfl) rfl ?_
  refine h_bd rfl rfl rfl rfl ?_
  refine hwp_nilT ?_
  refine x_one (i := 23) (by kernel_rfl) rfl ?_
  refine l_bslice 7 (by decide) O165 (xs := ([(⟨q162, a123, a150⟩ : Eff)] : List Eff)) rfl rfl rfl rfl ⟨(Vb.ofAgg (cs := [(.slice A169 q162.length c170), (.int .i64 a123), (.int .i64 a150)]) (x := (⟨q162, a123, a150⟩ : Eff)) rfl ⟨_, rfl, h167, r134, r161⟩), trivial⟩ (by decide) (by decide) rfl fun g171 w172 O173 S174 h175 => ?_
  have hZ := S174.lst [] (fun _ h => h.elim)
  refine x_go [(24, [8])] hZ (by kernel_rfl) ?_
  refine x_one (i := 24) (by kernel_rfl) rfl ?_
  obtain ⟨u177, e178, hf94⟩ := bs hf94
  obtain ⟨e178, e179, e180⟩ := appI_some e178
  replace h101 := (((h101.st S119).st S122).st S166).st S174
  refine l_append rfl h101 (h175.rd) rfl rfl (by decide) e179 e180 rfl fun A181 c182 w183 O184 S185 h186 => ?_
  rw [← e178] at h186 ⊢
  have hZ := S185.lst [8] (fun _ h => by cases h; decide)
  refine x_go [] hZ (by kernel_rfl) ?_
  refine x_pre (fuel := 1) [] [(25, true)] (by kernel_rfl) rfl ?_
  refine h_fa rfl rfl rfl (hwp_nilT ?_)
  refine x_one (i := 26) (by kernel_rfl) rfl ?_
  replace h48 := ((h48.st S166).st S174).st S185
  refine l_store h48 rfl rfl rfl (nle_b rfl) (allOne rfl) fun w188 S189 h48 => ?_
  replace h48 : Lc 5 w188 O184 x47.1 35 [(.string (⟨#[]⟩ : ByteArray)), (.int .i64 x1.cost), (.slice x47.2.1 y44.length x47.2.2), (.slice A181 u177.length c182)] := h48
  refine x_end (by kernel_rfl) ?_
  refine x_nil (by kernel_rfl) ?_
  obtain rfl := sm hf94
  replace hB := (((((hB.st S119).st S122).st S166).st S174).st S185).st S189
  replace h7 := (((h7.st S166).st S174).st S185).st S189
  replace h10 := (((h10.st S166).st S174).st S185).st S189
  replace h13 := (((h13.st S166).st S174).st S185).st S189
  replace h22 := (((((h22.st S119).st S122).st S166).st S174).st S185).st S189
  replace h31 := (((h31.st S166).st S174).st S185).st S189
  replace h41 := (((((h41.st S119).st S122).st S166).st S174).st S185).st S189
  replace h49 := (((((h49.st S119).st S122).st S166).st S174).st S185).st S189
  replace h186 := h186.st S189
  exact show Exists _ from ⟨_, (A181, c182), rfl, ⟨rfl, rfl, rfl, rfl, rfl, rfl, trivial⟩, _, hB, h31, h7, h10, h13, h41, h48, h49, h186, h22⟩
 rintro l190 w191 ⟨s194, x195, rfl, hs193, O192, hB, h41, h48, h49, h101⟩
 replace hm := fin_done hm
 refine ewp_sub _ hs193 ?_
 refine ewp_seq (ewp_region (o_la (hl := rfl) (hc := (h48.1).cellsAt) rfl rfl ?_))
 refine l_store h41 rfl rfl rfl (nle_b rfl) (allOne rfl) fun w196 S197 h41 => ?_
 replace h41 : Lc 4 w196 O192 g37 35 [(.string (⟨#[]⟩ : ByteArray)), (.int .i64 x1.cost), (.slice x47.2.1 y44.length x47.2.2), (.slice x195.1 s194.length x195.2)] := h41
 refine o_z ?_
 refine ewp_ret ?_
 replace h101 := h101.st S197
 obtain ⟨O198, S199, h101⟩ := h101.freeze
 obtain rfl := sm hm
 replace hB := (hB.st S197).st S199
 replace h41 := h41.st S199
 replace h49 := (h49.st S197).st S199
 exact ret1v rfl (res_cell (cs := [(.string (⟨#[]⟩ : ByteArray)), (.int .i64 x1.cost), (.slice x47.2.1 y44.length x47.2.2), (.slice x195.1 s194.length x195.2)]) rfl rfl h41.1.cellsAt) ⟨hB.ext, (Vb.mono (F := Fr 0 w196 O198) (Vb.ofAgg (cs := [(.string (⟨#[]⟩ : ByteArray)), (.int .i64 x1.cost), (.slice x47.2.1 y44.length x47.2.2), (.slice x195.1 s194.length x195.2)]) (x := (⟨(⟨#[]⟩ : ByteArray), x1.cost, y44, s194⟩ : Opr)) rfl ⟨_, _, rfl, h49, h101, r25, (show (⟨#[]⟩ : ByteArray).size ≤ 9223372036854775807 from by decide)⟩) hB.out)⟩
noncomputable def m_symmetry_is (x0 : Tsk) (x1 : Swp) : Option Bool :=
  bnd (bnd (m_symmetry_facts x0 x1) fun q47 => if q47 = true then bnd (m_symmetry_permutation x1.ops (x0.ops.length : Int)) fun q56 => if q56 = true then bnd (m_symmetry_mapped x1 x0.goal) fun q63 => bnd (m_slices_Equal_Lapi_Fact_api_Fact q63 x0.goal) fun q72 => if q72 = true then some false else some true else some true else some true : Option Bool) fun y43 => if y43 = true then (some false) else (bnd (rng (ρ := Bool) (fun (k90 : Nat) (a91 : Opr) (s88 : Unit) => bnd (x1.ops[k90]?) fun a125 => bnd (atI x0.ops a125) fun a135 => bnd (m_symmetry_image x1 a91) fun q156 => bnd (m_symmetry_alike q156 a135) fun q174 => if q174 = true then some (.next ()) else some (.ret false)) x0.ops 0 ()) fun res86 => fin res86 fun (s185 : Unit) => some true)
theorem c_symmetry_is {w : World} {A : Nat → Prop} (hA : ∀ k, A k → k < w.heap.size) {vx0 : Value} {x0 : Tsk} (hx0 : Vb w A vx0 x0) {vx1 : Value} {x1 : Swp} (hx1 : Vb w A vx1 x1) {r : Bool} (hm : m_symmetry_is x0 x1 = some r) :
    Fn Tryz.prog 27 [vx0, vx1] w fun v w' => Ext w w' ∧ Vb w' (upA A w w') v r := by
 obtain ⟨O, hB, hA0⟩ := enter hA
 replace hx0 := hx0.mono hA0
 obtain ⟨cs3, rfl, v4, v5, v6, v7, rfl, h8, h11, h14, h17⟩ := hx0
 obtain ⟨A9, c10, rfl⟩ := h8.form
 obtain ⟨A12, c13, rfl⟩ := h11.form
 obtain ⟨A15, c16, rfl⟩ := h14.form
 obtain ⟨A18, c19, rfl⟩ := h17.form
 replace hx1 := hx1.mono hA0
 obtain ⟨cs20, rfl, v21, v22, v23, rfl, h24, h27, h30⟩ := hx1
 obtain ⟨A25, c26, rfl⟩ := h24.form
 obtain ⟨A28, c29, rfl⟩ := h27.form
 obtain ⟨A31, c32, rfl⟩ := h30.form
 refine fn_enter Tryz.func27 rfl Tryz.ntmps27 rfl ?_
 unfold m_symmetry_is at hm
 refine ewp_seq (ewp_region (l_box 2 O rfl rfl fun g33 w34 O35 S36 h37 => ?_))
 replace h37 : Lc 2 w34 O35 g33 30 [(.slice A9 x0.vars.length c10), (.slice A12 x0.init.length c13), (.slice A15 x0.goal.length c16), (.slice A18 x0.ops.length c19)] := h37
 refine l_box 3 O35 rfl rfl fun g38 w39 O40 S41 h42 => ?_
 replace h42 : Lc 3 w39 O40 g38 43 [(.slice A25 x1.vars.length c26), (.slice A28 x1.vals.length c29), (.slice A31 x1.ops.length c32)] := h42
 refine o_as rfl rfl (o_z ?_)
 refine ewp_seq (ewp_seq ?_)
 obtain ⟨y43, hy44, hm⟩ := bs hm
 refine ewp_join (fun l' w' => ∃ (x46 : Unit) (O' : Lab), subs l' [(2, (.pointer (some ⟨g33, 0, none⟩))), (3, (.pointer (some ⟨g38, 0, none⟩))), (29, (.bool y43))] ∧ Bs w A w' O' ∧ Lc 2 w' O' g33 30 [(.slice A9 x0.vars.length c10), (.slice A12 x0.init.length c13), (.slice A15 x0.goal.length c16), (.slice A18 x0.ops.length c19)] ∧ Vb w' (Fr 0 w' O') (.slice A9 x0.vars.length c10) x0.vars ∧ Vb w' (Fr 0 w' O') (.slice A12 x0.init.length c13) x0.init ∧ Vb w' (Fr 0 w' O') (.slice A15 x0.goal.length c16) x0.goal ∧ Vb w' (Fr 0 w' O') (.slice A18 x0.ops.length c19) x0.ops ∧ Lc 3 w' O' g38 43 [(.slice A25 x1.vars.length c26), (.slice A28 x1.vals.length c29), (.slice A31 x1.ops.length c32)] ∧ Vb w' (Fr 0 w' O') (.slice A25 x1.vars.length c26) x1.vars ∧ Vb w' (Fr 0 w' O') (.slice A28 x1.vals.length c29) x1.vals ∧ Vb w' (Fr 0 w' O') (.slice A31 x1.ops.length c32) x1.ops) ?_ ?_
 ·
  refine ewp_drawX [] O40 ?_
  refine x_pre (fuel := 21) [] [(0, true), (1, true)] (by kernel_rfl) rfl ?_
  replace h37 := h37.st S41
  refine h_laB (hl := rfl) (hb := fun w' ⟨O', hq⟩ => ((h37.st hq (by decide)).1).cellsAt) rfl rfl rfl ?_
  refine h_laB (hl := rfl) (hb := fun w' ⟨O', hq⟩ => ((h42.st hq (by decide)).1).cellsAt) rfl rfl rfl ?_
  refine hwp_nilT ?_
  refine x_one (i := 2) (by kernel_rfl) rfl ?_
  obtain ⟨q47, e48, hy44⟩ := bs hy44
  replace h8 := (h8.st S36).st S41
  replace h11 := (h11.st S36).st S41
  replace h14 := (h14.st S36).st S41
  replace h17 := (h17.st S36).st S41
  replace h24 := (h24.st S36).st S41
  replace h27 := (h27.st S36).st S41
  replace h30 := (h30.st S36).st S41
  refine l_callA (O := O40) (A := All w39) (R := fun w' F v => Vb w' F v q47) (c_symmetry_facts (fun _ h => h) (Vb.mono (F := Fr 0 w39 O40) (Vb.ofAgg (cs := [(.slice A9 x0.vars.length c10), (.slice A12 x0.init.length c13), (.slice A15 x0.goal.length c16), (.slice A18 x0.ops.length c19)]) (x := x0) rfl ⟨_, _, _, _, rfl, h8, h11, h14, h17⟩) Fr.lt) (Vb.mono (F := Fr 0 w39 O40) (Vb.ofAgg (cs := [(.slice A25 x1.vars.length c26), (.slice A28 x1.vals.length c29), (.slice A31 x1.ops.length c32)]) (x := x1) rfl ⟨_, _, _, rfl, h24, h27, h30⟩) Fr.lt) e48) rfl rfl fun v53 w49 O50 S51 h52 => ?_
  obtain rfl := h52.bool
  have hZ := S51.lst [] (fun _ h => h.elim)
  cases q47
  case false =>
   replace hy44 := iF hy44
   refine x_go [] hZ (by kernel_rfl) ?_
   refine x_pre (fuel := 13) [] [(3, true), (4, true), (5, true), (6, true), (7, true), (8, true), (9, true)] (by kernel_rfl) rfl ?_
   refine h_nf rfl rfl rfl (h_mv rfl rfl rfl (h_no rfl rfl rfl rfl rfl (h_no rfl rfl rfl rfl rfl (h_no rfl rfl rfl rfl rfl (h_no rfl rfl rfl rfl rfl (h_no rfl rfl rfl rfl rfl (hwp_nilT ?_)))))))
   refine x_one (i := 10) (by kernel_rfl) rfl ?_
   refine owp_no rfl rfl rfl rfl (x_go [] ((St.refl nT _ _).lst [] (fun _ h => h.elim)) (by kernel_rfl) ?_)
   refine x_pre (fuel := 4) [] [(11, true), (12, true), (13, true), (14, true), (15, true), (16, true), (18, true), (19, true)] (by kernel_rfl) rfl ?_
   refine h_no rfl rfl rfl rfl rfl (h_pt rfl rfl rfl rfl (h_mv rfl rfl rfl (h_no rfl rfl rfl rfl rfl (h_no rfl rfl rfl rfl rfl (h_no rfl rfl rfl rfl rfl (h_no rfl rfl rfl rfl rfl (h_no rfl rfl rfl rfl rfl (hwp_nilT ?_))))))))
   refine x_one (i := 17) (by kernel_rfl) rfl ?_
   refine owp_no rfl rfl rfl rfl (x_go [] ((St.refl nT _ _).lst [] (fun _ h => h.elim)) (by kernel_rfl) ?_)
   refine x_one (i := 20) (by kernel_rfl) rfl ?_
   refine owp_no rfl rfl rfl rfl (x_go [] ((St.refl nT _ _).lst [] (fun _ h => h.elim)) (by kernel_rfl) ?_)
   refine x_pre (fuel := 0) [] [(21, true), (22, true)] (by kernel_rfl) rfl ?_
   refine h_no rfl rfl rfl rfl rfl (h_pt rfl rfl rfl rfl (hwp_nilT ?_))
   refine x_nil (by kernel_rfl) ?_
   obtain rfl := sm hy44
   replace hB := ((hB.st S36).st S41).st S51
   replace h8 := h8.st S51
   replace h11 := h11.st S51
   replace h14 := h14.st S51
   replace h17 := h17.st S51
   replace h24 := h24.st S51
   replace h27 := h27.st S51
   replace h30 := h30.st S51
   replace h37 := h37.st S51
   replace h42 := h42.st S51
   exact ⟨(), _, ⟨rfl, rfl, rfl, trivial⟩, hB, h37, h8, h11, h14, h17, h42, h24, h27, h30⟩
  replace hy44 := iT hy44
  refine x_go [] hZ (by kernel_rfl) ?_
  refine x_pre (fuel := 13) [] [(3, true), (4, true), (5, true), (6, true), (7, true), (8, true), (9, true)] (by kernel_rfl) rfl ?_
  refine h_nt rfl rfl rfl (h_mv rfl rfl rfl (hwp_o rfl (hwq_yes rfl rfl (g_fa rfl rfl (hwp_o rfl (hwq_yes rfl rfl ?_))))))
  replace h42 := h42.st S51
  refine g_ldC (hc := fun w' ⟨O', hq⟩ => Blk.cell (i := 2) ((h42.st hq (by decide)).1) rfl) rfl rfl ?_
  refine hwp_o rfl (hwq_yes rfl rfl (g_fa rfl rfl (hwp_o rfl (hwq_yes rfl rfl ?_))))
  replace h37 := h37.st S51
  refine g_ldC (hc := fun w' ⟨O', hq⟩ => Blk.cell (i := 3) ((h37.st hq (by decide)).1) rfl) rfl rfl ?_
  refine hwp_o rfl (hwq_yes rfl rfl (g_ln rfl rfl ?_))
  replace h17 := h17.st S51
  have l55 : x0.ops.length ≤ 9223372036854775807 := Nat.le_trans h17.len.2.1 h17.len.2.2
  have r54 : inI64 (x0.ops.length : Int) := rngNat l55
  refine hwp_nilT ?_
  refine x_one (i := 10) (by kernel_rfl) rfl ?_
  refine owp_yes rfl rfl ?_
  obtain ⟨q56, e57, hy44⟩ := bs hy44
  replace h30 := h30.st S51
  refine l_callA (O := O50) (A := All w49) (R := fun w' F v => Vb w' F v q56) (c_symmetry_permutation (fun _ h => h) (Vb.mono (F := Fr 0 w49 O50) h30 Fr.lt) r54 e57) rfl rfl fun v62 w58 O59 S60 h61 => ?_
  obtain rfl := h61.bool
  have hZ := S60.lst [] (fun _ h => h.elim)
  cases q56
  case false =>
   replace hy44 := iF hy44
   refine x_go [] hZ (by kernel_rfl) ?_
   refine x_pre (fuel := 4) [] [(11, true), (12, true), (13, true), (14, true), (15, true), (16, true), (18, true), (19, true)] (by kernel_rfl) rfl ?_
   refine hwp_o rfl (hwq_yes rfl rfl (g_nf rfl rfl (h_pf rfl rfl rfl rfl (h_mv rfl rfl rfl (h_no rfl rfl rfl rfl rfl (h_no rfl rfl rfl rfl rfl (h_no rfl rfl rfl rfl rfl (h_no rfl rfl rfl rfl rfl (h_no rfl rfl rfl rfl rfl (hwp_nilT ?_))))))))))
   refine x_one (i := 17) (by kernel_rfl) rfl ?_
   refine owp_no rfl rfl rfl rfl (x_go [] ((St.refl nT _ _).lst [] (fun _ h => h.elim)) (by kernel_rfl) ?_)
   refine x_one (i := 20) (by kernel_rfl) rfl ?_
   refine owp_no rfl rfl rfl rfl (x_go [] ((St.refl nT _ _).lst [] (fun _ h => h.elim)) (by kernel_rfl) ?_)
   refine x_pre (fuel := 0) [] [(21, true), (22, true)] (by kernel_rfl) rfl ?_
   refine h_no rfl rfl rfl rfl rfl (h_pt rfl rfl rfl rfl (hwp_nilT ?_))
   refine x_nil (by kernel_rfl) ?_
   obtain rfl := sm hy44
   replace hB := (((hB.st S36).st S41).st S51).st S60
   replace h8 := (h8.st S51).st S60
   replace h11 := (h11.st S51).st S60
   replace h14 := (h14.st S51).st S60
   replace h17 := h17.st S60
   replace h24 := (h24.st S51).st S60
   replace h27 := (h27.st S51).st S60
   replace h30 := h30.st S60
   replace h37 := h37.st S60
   replace h42 := h42.st S60
   exact ⟨(), _, ⟨rfl, rfl, rfl, trivial⟩, hB, h37, h8, h11, h14, h17, h42, h24, h27, h30⟩
  replace hy44 := iT hy44
  refine x_go [] hZ (by kernel_rfl) ?_
  refine x_pre (fuel := 4) [] [(11, true), (12, true), (13, true), (14, true), (15, true), (16, true), (18, true), (19, true)] (by kernel_rfl) rfl ?_
  refine hwp_o rfl (hwq_yes rfl rfl (g_nt rfl rfl (h_pf rfl rfl rfl rfl (h_mv rfl rfl rfl (hwp_o rfl (hwq_yes rfl rfl ?_))))))
  replace h42 := h42.st S60
  refine g_laB (hl := rfl) (hb := fun w' ⟨O', hq⟩ => ((h42.st hq (by decide)).1).cellsAt) rfl rfl ?_
  refine hwp_o rfl (hwq_yes rfl rfl (g_fa rfl rfl (hwp_o rfl (hwq_yes rfl rfl ?_))))
  replace h37 := h37.st S60
  refine g_ldC (hc := fun w' ⟨O', hq⟩ => Blk.cell (i := 2) ((h37.st hq (by decide)).1) rfl) rfl rfl ?_
  refine hwp_o rfl (hwq_yes rfl rfl (g_fa rfl rfl (hwp_o rfl (hwq_yes rfl rfl (g_ldC (hc := fun w' ⟨O', hq⟩ => Blk.cell (i := 2) ((h37.st hq (by decide)).1) rfl) rfl rfl ?_)))))
  refine hwp_nilT ?_
  refine x_one (i := 17) (by kernel_rfl) rfl ?_
  refine owp_yes rfl rfl ?_
  obtain ⟨q63, e64, hy44⟩ := bs hy44
  replace h14 := (h14.st S51).st S60
  replace h24 := (h24.st S51).st S60
  replace h27 := (h27.st S51).st S60
  replace h30 := h30.st S60
  refine l_call (O := O59) (R := fun w' F v => Vb w' F v q63) (c_symmetry_mapped Fr.lt (Vb.ofAgg (cs := [(.slice A25 x1.vars.length c26), (.slice A28 x1.vals.length c29), (.slice A31 x1.ops.length c32)]) (x := x1) rfl ⟨_, _, _, rfl, h24, h27, h30⟩) h14 e64) rfl rfl fun v69 w65 O66 S67 h68 => ?_
  obtain ⟨A70, c71, rfl⟩ := h68.form
  have hZ := S67.lst [] (fun _ h => h.elim)
  refine x_go [] hZ (by kernel_rfl) ?_
  refine x_one (i := 20) (by kernel_rfl) rfl ?_
  refine owp_yes rfl rfl ?_
  obtain ⟨q72, e73, hy44⟩ := bs hy44
  replace h14 := h14.st S67
  refine l_callA (O := O66) (A := All w65) (R := fun w' F v => Vb w' F v q72) (c_slices_Equal_Lapi_Fact_api_Fact (fun _ h => h) (Vb.mono (F := Fr 0 w65 O66) h68 Fr.lt) (Vb.mono (F := Fr 0 w65 O66) h14 Fr.lt) e73) rfl rfl fun v78 w74 O75 S76 h77 => ?_
  obtain rfl := h77.bool
  have hZ := S76.lst [] (fun _ h => h.elim)
  cases q72
  case false =>
   replace hy44 := iF hy44
   refine x_go [] hZ (by kernel_rfl) ?_
   refine x_pre (fuel := 0) [] [(21, true), (22, true)] (by kernel_rfl) rfl ?_
   refine hwp_o rfl (hwq_yes rfl rfl (g_nf rfl rfl (h_pf rfl rfl rfl rfl (hwp_nilT ?_))))
   refine x_nil (by kernel_rfl) ?_
   obtain rfl := sm hy44
   replace hB := (((((hB.st S36).st S41).st S51).st S60).st S67).st S76
   replace h8 := (((h8.st S51).st S60).st S67).st S76
   replace h11 := (((h11.st S51).st S60).st S67).st S76
   replace h14 := h14.st S76
   replace h17 := ((h17.st S60).st S67).st S76
   replace h24 := (h24.st S67).st S76
   replace h27 := (h27.st S67).st S76
   replace h30 := (h30.st S67).st S76
   replace h37 := (h37.st S67).st S76
   replace h42 := (h42.st S67).st S76
   exact ⟨(), _, ⟨rfl, rfl, rfl, trivial⟩, hB, h37, h8, h11, h14, h17, h42, h24, h27, h30⟩
  replace hy44 := iT hy44
  refine x_go [] hZ (by kernel_rfl) ?_
  refine x_pre (fuel := 0) [] [(21, true), (22, true)] (by kernel_rfl) rfl ?_
  refine hwp_o rfl (hwq_yes rfl rfl (g_nt rfl rfl (h_pf rfl rfl rfl rfl (hwp_nilT ?_))))
  refine x_nil (by kernel_rfl) ?_
  obtain rfl := sm hy44
  replace hB := (((((hB.st S36).st S41).st S51).st S60).st S67).st S76
  replace h8 := (((h8.st S51).st S60).st S67).st S76
  replace h11 := (((h11.st S51).st S60).st S67).st S76
  replace h14 := h14.st S76
  replace h17 := ((h17.st S60).st S67).st S76
  replace h24 := (h24.st S67).st S76
  replace h27 := (h27.st S67).st S76
  replace h30 := (h30.st S67).st S76
  replace h37 := (h37.st S67).st S76
  replace h42 := (h42.st S67).st S76
  exact ⟨(), _, ⟨rfl, rfl, rfl, trivial⟩, hB, h37, h8, h11, h14, h17, h42, h24, h27, h30⟩
 replace hB := (hB.st S36).st S41
 replace h8 := (h8.st S36).st S41
 replace h11 := (h11.st S36).st S41
 replace h14 := (h14.st S36).st S41
 replace h17 := (h17.st S36).st S41
 replace h24 := (h24.st S36).st S41
 replace h27 := (h27.st S36).st S41
 replace h30 := (h30.st S36).st S41
 replace h37 := h37.st S41
 rintro l79 w80 ⟨x46, O81, hs82, hB, h37, h8, h11, h14, h17, h42, h24, h27, h30⟩
 refine ewp_sub _ hs82 ?_
 refine ewp_cond rfl (fun c83 => ?_) (fun c83 => ?_)
 ·
  replace hm := ip hm c83
  refine ewp_seq (ewp_region (o_as rfl rfl (o_z ?_)))
  refine ewp_ret ?_
  obtain rfl := sm hm
  exact ret1v rfl (res_tmp rfl) ⟨hB.ext, vBool⟩
 replace hm := im' hm c83
 refine ewp_skip (ewp_seq (ewp_seq (ewp_region (o_fa rfl rfl (o_ld (hc := Blk.cell (i := 3) (h37.1) rfl) rfl rfl ?_)))))
 refine o_ln rfl rfl ?_
 have l85 : x0.ops.length ≤ 9223372036854775807 := Nat.le_trans h17.len.2.1 h17.len.2.2
 have r84 : inI64 (x0.ops.length : Int) := rngNat l85
 refine o_mv rfl rfl (o_z ?_)
 obtain ⟨res86, hL87, hm⟩ := bs hm
 refine ewp_join (aft res86 (fun (s88 : Unit) (x89 : Unit) => []) (fun s88 x89 w' => ∃ O' : Lab, Bs w A w' O')) ?_ ?_
 ·
  refine ewp_block (ewp_rng (σ := Unit) (X := Unit) (x0.ops.length) hL87 rfl l85 (fun (s88 : Unit) (x89 : Unit) => [(2, (.pointer (some ⟨g33, 0, none⟩))), (3, (.pointer (some ⟨g38, 0, none⟩))), (31, (.slice A18 x0.ops.length c19))]) _ (fun s88 x89 w' => ∃ O' : Lab, Bs w A w' O' ∧ Lc 2 w' O' g33 30 [(.slice A9 x0.vars.length c10), (.slice A12 x0.init.length c13), (.slice A15 x0.goal.length c16), (.slice A18 x0.ops.length c19)] ∧ Vb w' (Fr 0 w' O') (.slice A9 x0.vars.length c10) x0.vars ∧ Vb w' (Fr 0 w' O') (.slice A12 x0.init.length c13) x0.init ∧ Vb w' (Fr 0 w' O') (.slice A15 x0.goal.length c16) x0.goal ∧ Vb w' (Fr 0 w' O') (.slice A18 x0.ops.length c19) x0.ops ∧ Lc 3 w' O' g38 43 [(.slice A25 x1.vars.length c26), (.slice A28 x1.vals.length c29), (.slice A31 x1.ops.length c32)] ∧ Vb w' (Fr 0 w' O') (.slice A25 x1.vars.length c26) x1.vars ∧ Vb w' (Fr 0 w' O') (.slice A28 x1.vals.length c29) x1.vals ∧ Vb w' (Fr 0 w' O') (.slice A31 x1.ops.length c32) x1.ops) _ () ⟨O81, hB, h37, h8, h11, h14, h17, h42, h24, h27, h30⟩ ⟨rfl, rfl, rfl, rfl, rfl, trivial⟩ (fun _ _ => ⟨rfl, rfl⟩) (fun _ _ => trivial) (fun _ _ _ ⟨O', hB, h37, h8, h11, h14, h17, h42, h24, h27, h30⟩ => ⟨O', hB⟩) ⟨rfl, rfl, rfl⟩ ⟨rfl, rfl⟩ ?_)
  rintro k90 a91 s88 x89 w92 cc94 hx95 ⟨O93, hB, h37, h8, h11, h14, h17, h42, h24, h27, h30⟩ hf96 hret97 hbrk98
  have rk90 : inI64 (k90 : Int) := rngK hx95 l85
  refine ewp_seq (ewp_region (o_mv rfl rfl ?_))
  obtain ⟨b101, o102, ce103, hA104, hl105, hd106, v108, v109, rfl, h110, h113, r116, z117⟩ := h17.elem' hx95
  obtain ⟨A111, c112, rfl⟩ := h110.form
  obtain ⟨A114, c115, rfl⟩ := h113.form
  refine o_iaE (hA := hA104) (hj := rfl) (hlt := hl105) rfl rfl rfl ?_
  refine o_la (hl := rfl) (hc := hd106) rfl rfl ?_
  refine l_alloc 4 O93 rfl fun g118 w119 O120 S121 h122 => ?_
  refine o_as rfl rfl (l_store h122 rfl rfl rfl (nle_b rfl) (allOne rfl) fun w123 S124 h122 => ?_)
  replace h122 : Lc 4 w123 O120 g118 35 [(.string a91.name), (.int .i64 a91.cost), (.slice A111 a91.pre.length c112), (.slice A114 a91.effs.length c115)] := h122
  refine o_z ?_
  refine ewp_seq (ewp_drawX [] O120 ?_)
  refine x_pre (fuel := 3) [] [(0, true), (1, true), (3, true), (4, true), (5, true), (6, true), (7, true), (8, true), (9, true), (10, true), (11, true)] (by kernel_rfl) rfl ?_
  replace h42 := (h42.st S121).st S124
  refine h_laB (hl := rfl) (hb := fun w' ⟨O', hq⟩ => ((h42.st hq (by decide)).1).cellsAt) rfl rfl rfl ?_
  refine h_laB (hl := rfl) (hb := fun w' ⟨O', hq⟩ => ((h122.st hq (by decide)).1).cellsAt) rfl rfl rfl ?_
  refine h_fa rfl rfl rfl ?_
  replace h37 := (h37.st S121).st S124
  refine h_ldC (hc := fun w' ⟨O', hq⟩ => Blk.cell (i := 3) ((h37.st hq (by decide)).1) rfl) rfl rfl rfl ?_
  refine h_fa rfl rfl rfl (h_ldC (hc := fun w' ⟨O', hq⟩ => Blk.cell (i := 2) ((h42.st hq (by decide)).1) rfl) rfl rfl rfl ?_)
  refine h_mv rfl rfl rfl ?_
  obtain ⟨a125, e126, hf96⟩ := bs hf96
  replace h30 := (h30.st S121).st S124
  obtain ⟨b127, o128, ce129, hA130, hF133, hl131, hd132, rfl, r134⟩ := h30.elem e126
  refine h_iaE (hA := hA130) (hj := rfl) (hlt := hl131) rfl rfl rfl rfl ?_
  refine h_ldC (hc := fun w' ⟨O', hq⟩ => cat0 (cellsAt_agree (hq.agree (i := 0) (by decide)) hF133 hd132)) rfl rfl rfl ?_
  obtain ⟨a135, e136, hf96⟩ := bs hf96
  obtain ⟨p138, x137⟩ := atI_some' e136
  replace h17 := (h17.st S121).st S124
  obtain ⟨b139, o140, ce141, hA142, hF145, hl143, hd144, v146, v147, rfl, h148, h151, r154, z155⟩ := h17.elem x137
  obtain ⟨A149, c150, rfl⟩ := h148.form
  obtain ⟨A152, c153, rfl⟩ := h151.form
  refine h_iaE (hA := hA142) (hj := (Int.toNat_of_nonneg p138).symm) (hlt := hl143) rfl rfl rfl rfl ?_
  refine h_laB (hl := rfl) (hb := fun w' ⟨O', hq⟩ => (cellsAt_agree (hq.agree (i := 0) (by decide)) hF145 hd144)) rfl rfl rfl ?_
  refine hwp_nilT ?_
  refine x_one (i := 2) (by kernel_rfl) rfl ?_
  obtain ⟨q156, e157, hf96⟩ := bs hf96
  replace h24 := (h24.st S121).st S124
  replace h27 := (h27.st S121).st S124
  replace h110 := (h110.st S121).st S124
  replace h113 := (h113.st S121).st S124
  refine l_call (O := O120) (R := fun w' F v => Vb w' F v q156) (c_symmetry_image Fr.lt (Vb.ofAgg (cs := [(.slice A25 x1.vars.length c26), (.slice A28 x1.vals.length c29), (.slice A31 x1.ops.length c32)]) (x := x1) rfl ⟨_, _, _, rfl, h24, h27, h30⟩) (Vb.ofAgg (cs := [(.string a91.name), (.int .i64 a91.cost), (.slice A111 a91.pre.length c112), (.slice A114 a91.effs.length c115)]) (x := a91) rfl ⟨_, _, rfl, h110, h113, r116, z117⟩) e157) rfl rfl fun v162 w158 O159 S160 h161 => ?_
  obtain ⟨cs163, rfl, v164, v165, rfl, h166, h169, r172, z173⟩ := h161
  obtain ⟨A167, c168, rfl⟩ := h166.form
  obtain ⟨A170, c171, rfl⟩ := h169.form
  have hZ := S160.lst [] (fun _ h => h.elim)
  refine x_go [] hZ (by kernel_rfl) ?_
  refine x_one (i := 12) (by kernel_rfl) rfl ?_
  obtain ⟨q174, e175, hf96⟩ := bs hf96
  replace h148 := h148.st S160
  replace h151 := h151.st S160
  refine l_callA (O := O159) (A := All w158) (R := fun w' F v => Vb w' F v q174) (c_symmetry_alike (fun _ h => h) (Vb.mono (F := Fr 0 w158 O159) (Vb.ofAgg (cs := [(.string q156.name), (.int .i64 q156.cost), (.slice A167 q156.pre.length c168), (.slice A170 q156.effs.length c171)]) (x := q156) rfl ⟨_, _, rfl, h166, h169, r172, z173⟩) Fr.lt) (Vb.mono (F := Fr 0 w158 O159) (Vb.ofAgg (cs := [(.string a135.name), (.int .i64 a135.cost), (.slice A149 a135.pre.length c150), (.slice A152 a135.effs.length c153)]) (x := a135) rfl ⟨_, _, rfl, h148, h151, r154, z155⟩) Fr.lt) e175) rfl rfl fun v180 w176 O177 S178 h179 => ?_
  obtain rfl := h179.bool
  have hZ := S178.lst [] (fun _ h => h.elim)
  cases q174
  case false =>
   replace hf96 := iF hf96
   refine x_go [] hZ (by kernel_rfl) ?_
   refine x_pre (fuel := 0) [] [(13, true)] (by kernel_rfl) rfl ?_
   refine h_nf rfl rfl rfl (hwp_nilT ?_)
   refine x_nil (by kernel_rfl) ?_
   refine ewp_true rfl (ewp_seq (ewp_region (o_as rfl rfl (o_z ?_))))
   refine ewp_ret ?_
   obtain rfl := sm hf96
   obtain rfl := hret97 _ rfl
   obtain rfl := sm (fin_ret hm)
   replace hB := (((hB.st S121).st S124).st S160).st S178
   exact ret1v rfl (res_tmp rfl) ⟨hB.ext, vBool⟩
  replace hf96 := iT hf96
  refine x_go [] hZ (by kernel_rfl) ?_
  refine x_pre (fuel := 0) [] [(13, true)] (by kernel_rfl) rfl ?_
  refine h_nt rfl rfl rfl (hwp_nilT ?_)
  refine x_nil (by kernel_rfl) ?_
  refine ewp_false rfl (ewp_skip ?_)
  obtain rfl := sm hf96
  replace hB := (((hB.st S121).st S124).st S160).st S178
  replace h8 := (((h8.st S121).st S124).st S160).st S178
  replace h11 := (((h11.st S121).st S124).st S160).st S178
  replace h14 := (((h14.st S121).st S124).st S160).st S178
  replace h17 := (h17.st S160).st S178
  replace h24 := (h24.st S160).st S178
  replace h27 := (h27.st S160).st S178
  replace h30 := (h30.st S160).st S178
  replace h37 := (h37.st S160).st S178
  replace h42 := (h42.st S160).st S178
  exact show Exists _ from ⟨_, (), rfl, ⟨rfl, rfl, rfl, rfl, rfl, trivial⟩, _, hB, h37, h8, h11, h14, h17, h42, h24, h27, h30⟩
 rintro l181 w182 ⟨s185, x186, rfl, hs184, O183, hB⟩
 replace hm := fin_done hm
 refine ewp_sub _ hs184 ?_
 refine ewp_seq (ewp_region (o_as rfl rfl (o_z ?_)))
 refine ewp_ret ?_
 obtain rfl := sm hm
 exact ret1v rfl (res_tmp rfl) ⟨hB.ext, vBool⟩
noncomputable def m_symmetry_Check (x0 : Tsk) (x1 : Swp) : Option Bool :=
  bnd (bnd (m_task_Check x0) fun q47 => if q47.n = 0 then (bnd (m_symmetry_is x0 x1) fun q56 => if q56 = true then some true else some false) else (some false) : Option Bool) fun y43 => some y43
theorem c_symmetry_Check {w : World} {A : Nat → Prop} (hA : ∀ k, A k → k < w.heap.size) {vx0 : Value} {x0 : Tsk} (hx0 : Vb w A vx0 x0) {vx1 : Value} {x1 : Swp} (hx1 : Vb w A vx1 x1) {r : Bool} (hm : m_symmetry_Check x0 x1 = some r) :
    Fn Tryz.prog 12 [vx0, vx1] w fun v w' => Ext w w' ∧ Vb w' (upA A w w') v r := by
 obtain ⟨O, hB, hA0⟩ := enter hA
 replace hx0 := hx0.mono hA0
 obtain ⟨cs3, rfl, v4, v5, v6, v7, rfl, h8, h11, h14, h17⟩ := hx0
 obtain ⟨A9, c10, rfl⟩ := h8.form
 obtain ⟨A12, c13, rfl⟩ := h11.form
 obtain ⟨A15, c16, rfl⟩ := h14.form
 obtain ⟨A18, c19, rfl⟩ := h17.form
 replace hx1 := hx1.mono hA0
 obtain ⟨cs20, rfl, v21, v22, v23, rfl, h24, h27, h30⟩ := hx1
 obtain ⟨A25, c26, rfl⟩ := h24.form
 obtain ⟨A28, c29, rfl⟩ := h27.form
 obtain ⟨A31, c32, rfl⟩ := h30.form
 refine fn_enter Tryz.func12 rfl Tryz.ntmps12 rfl ?_
 unfold m_symmetry_Check at hm
 refine ewp_seq (ewp_region (l_box 2 O rfl rfl fun g33 w34 O35 S36 h37 => ?_))
 replace h37 : Lc 2 w34 O35 g33 30 [(.slice A9 x0.vars.length c10), (.slice A12 x0.init.length c13), (.slice A15 x0.goal.length c16), (.slice A18 x0.ops.length c19)] := h37
 refine l_box 3 O35 rfl rfl fun g38 w39 O40 S41 h42 => ?_
 replace h42 : Lc 3 w39 O40 g38 43 [(.slice A25 x1.vars.length c26), (.slice A28 x1.vals.length c29), (.slice A31 x1.ops.length c32)] := h42
 refine o_as rfl rfl (o_z ?_)
 refine ewp_seq ?_
 obtain ⟨y43, hy44, hm⟩ := bs hm
 refine ewp_join (fun l' w' => ∃ (x46 : Unit) (O' : Lab), subs l' [(4, (.bool y43))] ∧ Bs w A w' O') ?_ ?_
 ·
  refine ewp_region ?_
  replace h37 := h37.st S41
  refine o_la (hl := rfl) (hc := (h37.1).cellsAt) rfl rfl ?_
  obtain ⟨q47, e48, hy44⟩ := bs hy44
  replace h8 := (h8.st S36).st S41
  replace h11 := (h11.st S36).st S41
  replace h14 := (h14.st S36).st S41
  replace h17 := (h17.st S36).st S41
  refine l_callA (O := O40) (A := All w39) (R := fun w' F v => Vb w' F v q47) (c_task_Check (fun _ h => h) (Vb.mono (F := Fr 0 w39 O40) (Vb.ofAgg (cs := [(.slice A9 x0.vars.length c10), (.slice A12 x0.init.length c13), (.slice A15 x0.goal.length c16), (.slice A18 x0.ops.length c19)]) (x := x0) rfl ⟨_, _, _, _, rfl, h8, h11, h14, h17⟩) Fr.lt) e48) rfl rfl fun v53 w49 O50 S51 h52 => ?_
  obtain ⟨rfl, r54⟩ := h52.err
  refine o_erS rfl rfl (fun c55 => ?_) fun c55 => ?_
  ·
   replace hy44 := ip hy44 c55
   refine o_mv rfl rfl (owp_yes rfl rfl ?_)
   replace h37 := h37.st S51
   refine o_la (hl := rfl) (hc := (h37.1).cellsAt) rfl rfl ?_
   refine owp_yes rfl rfl ?_
   replace h42 := h42.st S51
   refine o_la (hl := rfl) (hc := (h42.1).cellsAt) rfl rfl ?_
   refine owp_yes rfl rfl ?_
   obtain ⟨q56, e57, hy44⟩ := bs hy44
   replace h8 := h8.st S51
   replace h11 := h11.st S51
   replace h14 := h14.st S51
   replace h17 := h17.st S51
   replace h24 := ((h24.st S36).st S41).st S51
   replace h27 := ((h27.st S36).st S41).st S51
   replace h30 := ((h30.st S36).st S41).st S51
   refine l_callA (O := O50) (A := All w49) (R := fun w' F v => Vb w' F v q56) (c_symmetry_is (fun _ h => h) (Vb.mono (F := Fr 0 w49 O50) (Vb.ofAgg (cs := [(.slice A9 x0.vars.length c10), (.slice A12 x0.init.length c13), (.slice A15 x0.goal.length c16), (.slice A18 x0.ops.length c19)]) (x := x0) rfl ⟨_, _, _, _, rfl, h8, h11, h14, h17⟩) Fr.lt) (Vb.mono (F := Fr 0 w49 O50) (Vb.ofAgg (cs := [(.slice A25 x1.vars.length c26), (.slice A28 x1.vals.length c29), (.slice A31 x1.ops.length c32)]) (x := x1) rfl ⟨_, _, _, rfl, h24, h27, h30⟩) Fr.lt) e57) rfl rfl fun v62 w58 O59 S60 h61 => ?_
   obtain rfl := h61.bool
   cases q56
   case false =>
    replace hy44 := iF hy44
    refine o_pt rfl rfl rfl (o_as rfl rfl (o_z ?_))
    obtain rfl := sm hy44
    replace hB := (((hB.st S36).st S41).st S51).st S60
    exact ⟨(), _, ⟨rfl, trivial⟩, hB⟩
   replace hy44 := iT hy44
   refine o_pt rfl rfl rfl (o_as rfl rfl (o_z ?_))
   obtain rfl := sm hy44
   replace hB := (((hB.st S36).st S41).st S51).st S60
   exact ⟨(), _, ⟨rfl, trivial⟩, hB⟩
  replace hy44 := im hy44 c55
  refine o_mv rfl rfl (owp_no rfl rfl rfl rfl (owp_no rfl rfl rfl rfl (owp_no rfl rfl rfl rfl (o_pf rfl rfl rfl (o_as rfl rfl (o_z ?_))))))
  obtain rfl := sm hy44
  replace hB := ((hB.st S36).st S41).st S51
  exact ⟨(), _, ⟨rfl, trivial⟩, hB⟩
 replace hB := (hB.st S36).st S41
 rintro l63 w64 ⟨x46, O65, hs66, hB⟩
 refine ewp_sub _ hs66 ?_
 refine ewp_ret ?_
 obtain rfl := sm hm
 exact ret1v rfl (res_tmp rfl) ⟨hB.ext, vBool⟩
noncomputable def m_symmetry_demand (x0 : Tsk) (x1 : List Swp) : Option Err :=
  bnd (m_task_Check x0) fun q27 => if q27.n ≠ 0 then (some (⟨q27.n⟩ : Err)) else (bnd (rng (ρ := Err) (fun (k42 : Nat) (a43 : Swp) (s40 : Unit) => bnd (m_symmetry_is x0 a43) fun q79 => if q79 = true then some (.next ()) else some (.ret (⟨2⟩ : Err))) x1 0 ()) fun res38 => fin res38 fun (s90 : Unit) => some (⟨0⟩ : Err))
theorem c_symmetry_demand {w : World} {A : Nat → Prop} (hA : ∀ k, A k → k < w.heap.size) {vx0 : Value} {x0 : Tsk} (hx0 : Vb w A vx0 x0) {vx1 : Value} {x1 : List Swp} (hx1 : Vb w A vx1 x1) {r : Err} (hm : m_symmetry_demand x0 x1 = some r) :
    Fn Tryz.prog 19 [vx0, vx1] w fun v w' => Ext w w' ∧ Vb w' (upA A w w') v r := by
 obtain ⟨O, hB, hA0⟩ := enter hA
 replace hx0 := hx0.mono hA0
 obtain ⟨cs3, rfl, v4, v5, v6, v7, rfl, h8, h11, h14, h17⟩ := hx0
 obtain ⟨A9, c10, rfl⟩ := h8.form
 obtain ⟨A12, c13, rfl⟩ := h11.form
 obtain ⟨A15, c16, rfl⟩ := h14.form
 obtain ⟨A18, c19, rfl⟩ := h17.form
 replace hx1 := hx1.mono hA0
 obtain ⟨A20, c21, rfl⟩ := hx1.form
 refine fn_enter Tryz.func19 rfl Tryz.ntmps19 rfl ?_
 unfold m_symmetry_demand at hm
 refine ewp_seq (ewp_region (l_box 2 O rfl rfl fun g22 w23 O24 S25 h26 => ?_))
 replace h26 : Lc 2 w23 O24 g22 30 [(.slice A9 x0.vars.length c10), (.slice A12 x0.init.length c13), (.slice A15 x0.goal.length c16), (.slice A18 x0.ops.length c19)] := h26
 refine o_as rfl rfl (o_z ?_)
 refine ewp_seq (ewp_seq (ewp_region (o_la (hl := rfl) (hc := (h26.1).cellsAt) rfl rfl ?_)))
 obtain ⟨q27, e28, hm⟩ := bs hm
 replace h8 := h8.st S25
 replace h11 := h11.st S25
 replace h14 := h14.st S25
 replace h17 := h17.st S25
 refine l_callA (O := O24) (A := All w23) (R := fun w' F v => Vb w' F v q27) (c_task_Check (fun _ h => h) (Vb.mono (F := Fr 0 w23 O24) (Vb.ofAgg (cs := [(.slice A9 x0.vars.length c10), (.slice A12 x0.init.length c13), (.slice A15 x0.goal.length c16), (.slice A18 x0.ops.length c19)]) (x := x0) rfl ⟨_, _, _, _, rfl, h8, h11, h14, h17⟩) Fr.lt) e28) rfl rfl fun v33 w29 O30 S31 h32 => ?_
 obtain ⟨rfl, r34⟩ := h32.err
 refine o_as rfl rfl (o_z ?_)
 refine ewp_seq (ewp_region (o_mv rfl rfl (o_rnS rfl rfl (fun c35 => ?_) fun c35 => ?_)))
 ·
  replace hm := ip hm c35
  refine o_z ?_
  refine ewp_true rfl (ewp_seq (ewp_region (o_mv rfl rfl (o_as rfl rfl (o_z ?_)))))
  refine ewp_ret ?_
  obtain rfl := sm hm
  replace hB := (hB.st S25).st S31
  exact ret1v rfl (res_tmp rfl) ⟨hB.ext, (vErr r34)⟩
 replace hm := im hm c35
 refine o_z ?_
 refine ewp_false rfl (ewp_skip (ewp_seq (ewp_seq (ewp_region (o_mv rfl rfl (o_ln rfl rfl ?_))))))
 replace hx1 := (hx1.st S25).st S31
 have l37 : x1.length ≤ 9223372036854775807 := Nat.le_trans hx1.len.2.1 hx1.len.2.2
 have r36 : inI64 (x1.length : Int) := rngNat l37
 refine o_mv rfl rfl (o_z ?_)
 obtain ⟨res38, hL39, hm⟩ := bs hm
 refine ewp_join (aft res38 (fun (s40 : Unit) (x41 : Unit) => []) (fun s40 x41 w' => ∃ O' : Lab, Bs w A w' O')) ?_ ?_
 ·
  refine ewp_block ?_
  replace hB := (hB.st S25).st S31
  replace h8 := h8.st S31
  replace h11 := h11.st S31
  replace h14 := h14.st S31
  replace h17 := h17.st S31
  replace h26 := h26.st S31
  refine ewp_rng (σ := Unit) (X := Unit) (x1.length) hL39 rfl l37 (fun (s40 : Unit) (x41 : Unit) => [(2, (.pointer (some ⟨g22, 0, none⟩))), (13, (.slice A20 x1.length c21))]) _ (fun s40 x41 w' => ∃ O' : Lab, Bs w A w' O' ∧ Lc 2 w' O' g22 30 [(.slice A9 x0.vars.length c10), (.slice A12 x0.init.length c13), (.slice A15 x0.goal.length c16), (.slice A18 x0.ops.length c19)] ∧ Vb w' (Fr 0 w' O') (.slice A9 x0.vars.length c10) x0.vars ∧ Vb w' (Fr 0 w' O') (.slice A12 x0.init.length c13) x0.init ∧ Vb w' (Fr 0 w' O') (.slice A15 x0.goal.length c16) x0.goal ∧ Vb w' (Fr 0 w' O') (.slice A18 x0.ops.length c19) x0.ops ∧ Vb w' (Fr 0 w' O') (.slice A20 x1.length c21) x1) _ () ⟨O30, hB, h26, h8, h11, h14, h17, hx1⟩ ⟨rfl, rfl, rfl, rfl, trivial⟩ (fun _ _ => ⟨rfl, rfl⟩) (fun _ _ => trivial) (fun _ _ _ ⟨O', hB, h26, h8, h11, h14, h17, hx1⟩ => ⟨O', hB⟩) ⟨rfl, rfl, rfl⟩ ⟨rfl, rfl⟩ ?_
  rintro k42 a43 s40 x41 w44 cc46 hx47 ⟨O45, hB, h26, h8, h11, h14, h17, hx1⟩ hf48 hret49 hbrk50
  have rk42 : inI64 (k42 : Int) := rngK hx47 l37
  refine ewp_seq (ewp_region ?_)
  obtain ⟨b53, o54, ce55, hA56, hl57, hd58, v60, v61, v62, rfl, h63, h66, h69⟩ := hx1.elem' hx47
  obtain ⟨A64, c65, rfl⟩ := h63.form
  obtain ⟨A67, c68, rfl⟩ := h66.form
  obtain ⟨A70, c71, rfl⟩ := h69.form
  refine o_iaE (hA := hA56) (hj := rfl) (hlt := hl57) rfl rfl rfl ?_
  refine o_la (hl := rfl) (hc := hd58) rfl rfl ?_
  refine l_alloc 3 O45 rfl fun g72 w73 O74 S75 h76 => ?_
  refine l_store h76 rfl rfl rfl (nle_b rfl) (allOne rfl) fun w77 S78 h76 => ?_
  replace h76 : Lc 3 w77 O74 g72 43 [(.slice A64 a43.vars.length c65), (.slice A67 a43.vals.length c68), (.slice A70 a43.ops.length c71)] := h76
  refine o_z ?_
  refine ewp_seq (ewp_region ?_)
  replace h26 := (h26.st S75).st S78
  refine o_la (hl := rfl) (hc := (h26.1).cellsAt) rfl rfl ?_
  refine o_la (hl := rfl) (hc := (h76.1).cellsAt) rfl rfl ?_
  obtain ⟨q79, e80, hf48⟩ := bs hf48
  replace h8 := (h8.st S75).st S78
  replace h11 := (h11.st S75).st S78
  replace h14 := (h14.st S75).st S78
  replace h17 := (h17.st S75).st S78
  replace h63 := (h63.st S75).st S78
  replace h66 := (h66.st S75).st S78
  replace h69 := (h69.st S75).st S78
  refine l_callA (O := O74) (A := All w77) (R := fun w' F v => Vb w' F v q79) (c_symmetry_is (fun _ h => h) (Vb.mono (F := Fr 0 w77 O74) (Vb.ofAgg (cs := [(.slice A9 x0.vars.length c10), (.slice A12 x0.init.length c13), (.slice A15 x0.goal.length c16), (.slice A18 x0.ops.length c19)]) (x := x0) rfl ⟨_, _, _, _, rfl, h8, h11, h14, h17⟩) Fr.lt) (Vb.mono (F := Fr 0 w77 O74) (Vb.ofAgg (cs := [(.slice A64 a43.vars.length c65), (.slice A67 a43.vals.length c68), (.slice A70 a43.ops.length c71)]) (x := a43) rfl ⟨_, _, _, rfl, h63, h66, h69⟩) Fr.lt) e80) rfl rfl fun v85 w81 O82 S83 h84 => ?_
  obtain rfl := h84.bool
  cases q79
  case false =>
   replace hf48 := iF hf48
   refine o_nf rfl rfl (o_z ?_)
   refine ewp_true rfl (ewp_seq (ewp_region (o_miE rfl rfl ?_)))
   refine o_as rfl rfl (o_z ?_)
   refine ewp_ret ?_
   obtain rfl := sm hf48
   obtain rfl := hret49 _ rfl
   obtain rfl := sm (fin_ret hm)
   replace hB := ((hB.st S75).st S78).st S83
   exact ret1v rfl (res_tmp rfl) ⟨hB.ext, (vErr (by decide))⟩
  replace hf48 := iT hf48
  refine o_nt rfl rfl (o_z ?_)
  refine ewp_false rfl (ewp_skip ?_)
  obtain rfl := sm hf48
  replace hB := ((hB.st S75).st S78).st S83
  replace hx1 := ((hx1.st S75).st S78).st S83
  replace h8 := h8.st S83
  replace h11 := h11.st S83
  replace h14 := h14.st S83
  replace h17 := h17.st S83
  replace h26 := h26.st S83
  exact show Exists _ from ⟨_, (), rfl, ⟨rfl, rfl, rfl, rfl, trivial⟩, _, hB, h26, h8, h11, h14, h17, hx1⟩
 replace hB := (hB.st S25).st S31
 rintro l86 w87 ⟨s90, x91, rfl, hs89, O88, hB⟩
 replace hm := fin_done hm
 refine ewp_sub _ hs89 ?_
 refine ewp_seq (ewp_region (o_as rfl rfl (o_z ?_)))
 refine ewp_ret ?_
 obtain rfl := sm hm
 exact ret1v rfl (res_tmp rfl) ⟨hB.ext, (vErr (show inI64 0 from by decide))⟩
noncomputable def m_symmetry_State (x0 : Tsk) (x1 : Swp) (x2 : List Int) : Option ((List Int) × Err) :=
  bnd (m_symmetry_demand x0 [x1]) fun q52 => if q52.n ≠ 0 then (some (([] : List Int), (⟨q52.n⟩ : Err))) else (bnd (m_task_Proper x0.vars x2) fun q61 => if q61 = true then bnd (m_symmetry_moved x1 x2) fun q68 => some (q68, (⟨0⟩ : Err)) else some (([] : List Int), (⟨2⟩ : Err)))
theorem c_symmetry_State {w : World} {A : Nat → Prop} (hA : ∀ k, A k → k < w.heap.size) {vx0 : Value} {x0 : Tsk} (hx0 : Vb w A vx0 x0) {vx1 : Value} {x1 : Swp} (hx1 : Vb w A vx1 x1) {vx2 : Value} {x2 : List Int} (hx2 : Vb w A vx2 x2) {r : (List Int) × Err} (hm : m_symmetry_State x0 x1 x2 = some r) :
    Fn Tryz.prog 17 [vx0, vx1, vx2] w fun v w' => Ext w w' ∧ T2 w' (upA A w w') v r := by
 obtain ⟨O, hB, hA0⟩ := enter hA
 replace hx0 := hx0.mono hA0
 obtain ⟨cs4, rfl, v5, v6, v7, v8, rfl, h9, h12, h15, h18⟩ := hx0
 obtain ⟨A10, c11, rfl⟩ := h9.form
 obtain ⟨A13, c14, rfl⟩ := h12.form
 obtain ⟨A16, c17, rfl⟩ := h15.form
 obtain ⟨A19, c20, rfl⟩ := h18.form
 replace hx1 := hx1.mono hA0
 obtain ⟨cs21, rfl, v22, v23, v24, rfl, h25, h28, h31⟩ := hx1
 obtain ⟨A26, c27, rfl⟩ := h25.form
 obtain ⟨A29, c30, rfl⟩ := h28.form
 obtain ⟨A32, c33, rfl⟩ := h31.form
 replace hx2 := hx2.mono hA0
 obtain ⟨A34, c35, rfl⟩ := hx2.form
 refine fn_enter Tryz.func17 rfl Tryz.ntmps17 rfl ?_
 unfold m_symmetry_State at hm
 refine ewp_seq (ewp_region (l_box 2 O rfl rfl fun g36 w37 O38 S39 h40 => ?_))
 replace h40 : Lc 2 w37 O38 g36 30 [(.slice A10 x0.vars.length c11), (.slice A13 x0.init.length c14), (.slice A16 x0.goal.length c17), (.slice A19 x0.ops.length c20)] := h40
 refine l_box 3 O38 rfl rfl fun g41 w42 O43 S44 h45 => ?_
 replace h45 : Lc 3 w42 O43 g41 43 [(.slice A26 x1.vars.length c27), (.slice A29 x1.vals.length c30), (.slice A32 x1.ops.length c33)] := h45
 refine o_as rfl rfl (o_as rfl rfl (o_z ?_))
 refine ewp_seq (ewp_seq (ewp_region ?_))
 replace h40 := h40.st S44
 refine o_la (hl := rfl) (hc := (h40.1).cellsAt) rfl rfl ?_
 refine o_la (hl := rfl) (hc := (h45.1).cellsAt) rfl rfl ?_
 replace h25 := (h25.st S39).st S44
 replace h28 := (h28.st S39).st S44
 replace h31 := (h31.st S39).st S44
 refine l_bslice 4 (by decide) O43 (xs := ([x1] : List Swp)) rfl rfl rfl rfl ⟨(Vb.ofAgg (cs := [(.slice A26 x1.vars.length c27), (.slice A29 x1.vals.length c30), (.slice A32 x1.ops.length c33)]) (x := x1) rfl ⟨_, _, _, rfl, h25, h28, h31⟩), trivial⟩ (by decide) (by decide) rfl fun g46 w47 O48 S49 h50 => ?_
 obtain ⟨q52, e53, hm⟩ := bs hm
 replace h9 := ((h9.st S39).st S44).st S49
 replace h12 := ((h12.st S39).st S44).st S49
 replace h15 := ((h15.st S39).st S44).st S49
 replace h18 := ((h18.st S39).st S44).st S49
 refine l_callA (O := O48) (A := All w47) (R := fun w' F v => Vb w' F v q52) (c_symmetry_demand (fun _ h => h) (Vb.mono (F := Fr 0 w47 O48) (Vb.ofAgg (cs := [(.slice A10 x0.vars.length c11), (.slice A13 x0.init.length c14), (.slice A16 x0.goal.length c17), (.slice A19 x0.ops.length c20)]) (x := x0) rfl ⟨_, _, _, _, rfl, h9, h12, h15, h18⟩) Fr.lt) (h50).all e53) rfl rfl fun v58 w54 O55 S56 h57 => ?_
 obtain ⟨rfl, r59⟩ := h57.err
 refine o_as rfl rfl (o_z ?_)
 refine ewp_seq (ewp_region (o_mv rfl rfl (o_rnS rfl rfl (fun c60 => ?_) fun c60 => ?_)))
 ·
  replace hm := ip hm c60
  refine o_z ?_
  refine ewp_true rfl (ewp_seq (ewp_region (o_mv rfl rfl (o_as rfl rfl (o_as rfl rfl (o_z ?_))))))
  refine ewp_ret ?_
  obtain rfl := sm hm
  replace hB := (((hB.st S39).st S44).st S49).st S56
  exact ret2 rfl (res_tmp rfl) (res_tmp rfl) ⟨hB.ext, _, _, rfl, (Vb.mono (F := Fr 0 w54 O55) (Vb.nil _ _) hB.out), (vErr r59)⟩
 replace hm := im hm c60
 refine o_z ?_
 refine ewp_false rfl (ewp_skip (ewp_seq (ewp_seq (ewp_region (o_fa rfl rfl ?_)))))
 replace h40 := (h40.st S49).st S56
 refine o_ld (hc := Blk.cell (i := 0) (h40.1) rfl) rfl rfl ?_
 refine o_mv rfl rfl ?_
 obtain ⟨q61, e62, hm⟩ := bs hm
 replace hx2 := (((hx2.st S39).st S44).st S49).st S56
 replace h9 := h9.st S56
 refine l_callA (O := O55) (A := All w54) (R := fun w' F v => Vb w' F v q61) (c_task_Proper (fun _ h => h) (Vb.mono (F := Fr 0 w54 O55) h9 Fr.lt) (Vb.mono (F := Fr 0 w54 O55) hx2 Fr.lt) e62) rfl rfl fun v67 w63 O64 S65 h66 => ?_
 obtain rfl := h66.bool
 cases q61
 case false =>
  replace hm := iF hm
  refine o_nf rfl rfl (o_z ?_)
  refine ewp_true rfl (ewp_seq (ewp_region (o_miE rfl rfl ?_)))
  refine o_as rfl rfl (o_as rfl rfl (o_z ?_))
  refine ewp_ret ?_
  obtain rfl := sm hm
  replace hB := ((((hB.st S39).st S44).st S49).st S56).st S65
  exact ret2 rfl (res_tmp rfl) (res_tmp rfl) ⟨hB.ext, _, _, rfl, (Vb.mono (F := Fr 0 w63 O64) (Vb.nil _ _) hB.out), (vErr (by decide))⟩
 replace hm := iT hm
 refine o_nt rfl rfl (o_z ?_)
 refine ewp_false rfl (ewp_skip (ewp_seq (ewp_region ?_)))
 replace h45 := ((h45.st S49).st S56).st S65
 refine o_la (hl := rfl) (hc := (h45.1).cellsAt) rfl rfl ?_
 refine o_mv rfl rfl ?_
 obtain ⟨q68, e69, hm⟩ := bs hm
 replace hx2 := hx2.st S65
 replace h25 := ((h25.st S49).st S56).st S65
 replace h28 := ((h28.st S49).st S56).st S65
 replace h31 := ((h31.st S49).st S56).st S65
 refine l_call (O := O64) (R := fun w' F v => Vb w' F v q68) (c_symmetry_moved Fr.lt (Vb.ofAgg (cs := [(.slice A26 x1.vars.length c27), (.slice A29 x1.vals.length c30), (.slice A32 x1.ops.length c33)]) (x := x1) rfl ⟨_, _, _, rfl, h25, h28, h31⟩) hx2 e69) rfl rfl fun v74 w70 O71 S72 h73 => ?_
 obtain ⟨A75, c76, rfl⟩ := h73.form
 refine o_as rfl rfl (o_as rfl rfl (o_z ?_))
 refine ewp_ret ?_
 obtain rfl := sm hm
 replace hB := (((((hB.st S39).st S44).st S49).st S56).st S65).st S72
 exact ret2 rfl (res_tmp rfl) (res_tmp rfl) ⟨hB.ext, _, _, rfl, (Vb.mono (F := Fr 0 w70 O71) h73 hB.out), (vErr (show inI64 0 from by decide))⟩
noncomputable def m_law51_awake  : Option Bool :=
  bnd (m_symmetry_State (⟨([2, 2] : List Int), ([0, 0] : List Int), ([] : List Fct), [(⟨(⟨#[]⟩ : ByteArray), 0, ([] : List Fct), [(⟨([] : List Fct), 0, 1⟩ : Eff)]⟩ : Opr), (⟨(⟨#[]⟩ : ByteArray), 0, ([] : List Fct), [(⟨([] : List Fct), 1, 1⟩ : Eff)]⟩ : Opr)]⟩ : Tsk) (⟨([1, 0] : List Int), [([0, 1] : List Int), ([0, 1] : List Int)], ([1, 0] : List Int)⟩ : Swp) ([1, 0] : List Int)) fun q103 => bnd (bnd (m_symmetry_Check (⟨([2, 2] : List Int), ([0, 0] : List Int), ([] : List Fct), [(⟨(⟨#[]⟩ : ByteArray), 0, ([] : List Fct), [(⟨([] : List Fct), 0, 1⟩ : Eff)]⟩ : Opr), (⟨(⟨#[]⟩ : ByteArray), 0, ([] : List Fct), [(⟨([] : List Fct), 1, 1⟩ : Eff)]⟩ : Opr)]⟩ : Tsk) (⟨([1, 0] : List Int), [([0, 1] : List Int), ([0, 1] : List Int)], ([1, 0] : List Int)⟩ : Swp)) fun q121 => if q121 = true then if q103.2.n = 0 then (bnd (m_base_Ints q103.1 ([0, 1] : List Int)) fun q135 => if q135 = true then some true else some false) else (some false) else some false : Option Bool) fun y117 => some y117
theorem c_law51_awake {w : World} {A : Nat → Prop} (hA : ∀ k, A k → k < w.heap.size)  {r : Bool} (hm : m_law51_awake  = some r) :
    Fn Tryz.prog 5 [] w fun v w' => Ext w w' ∧ Vb w' (upA A w w') v r := by
 obtain ⟨O, hB, hA0⟩ := enter hA
 refine fn_enter Tryz.func5 rfl Tryz.ntmps5 rfl ?_
 unfold m_law51_awake at hm
 refine ewp_seq (ewp_region (o_as rfl rfl (o_z ?_)))
 refine ewp_seq (ewp_region (l_bslice 2 (by decide) O (xs := (([2, 2] : List Int) : List Int)) rfl rfl rfl rfl ⟨(vInt (show inI64 (2) from by decide)), (vInt (show inI64 (2) from by decide)), trivial⟩ (by decide) (by decide) rfl fun g1 w2 O3 S4 h5 => ?_))
 refine l_bslice 3 (by decide) O3 (xs := (([0, 0] : List Int) : List Int)) rfl rfl rfl rfl ⟨(vInt (show inI64 (0) from by decide)), (vInt (show inI64 (0) from by decide)), trivial⟩ (by decide) (by decide) rfl fun g7 w8 O9 S10 h11 => ?_
 refine o_bd rfl rfl rfl ?_
 refine l_bslice 4 (by decide) O9 (xs := ([(⟨([] : List Fct), 0, 1⟩ : Eff)] : List Eff)) rfl rfl rfl rfl ⟨(Vb.ofAgg (cs := [(.slice none 0 0), (.int .i64 0), (.int .i64 1)]) (x := (⟨([] : List Fct), 0, 1⟩ : Eff)) rfl ⟨_, rfl, (Vb.nil _ _), (show inI64 (0) from by decide), (show inI64 (1) from by decide)⟩), trivial⟩ (by decide) (by decide) rfl fun g13 w14 O15 S16 h17 => ?_
 refine o_bd rfl rfl rfl ?_
 refine o_bd rfl rfl rfl ?_
 refine l_bslice 5 (by decide) O15 (xs := ([(⟨([] : List Fct), 1, 1⟩ : Eff)] : List Eff)) rfl rfl rfl rfl ⟨(Vb.ofAgg (cs := [(.slice none 0 0), (.int .i64 1), (.int .i64 1)]) (x := (⟨([] : List Fct), 1, 1⟩ : Eff)) rfl ⟨_, rfl, (Vb.nil _ _), (show inI64 (1) from by decide), (show inI64 (1) from by decide)⟩), trivial⟩ (by decide) (by decide) rfl fun g19 w20 O21 S22 h23 => ?_
 refine o_bd rfl rfl rfl ?_
 replace h17 := h17.st S22
 obtain ⟨O25, S26, h17⟩ := h17.freeze
 replace h23 := h23.st S26
 obtain ⟨O27, S28, h23⟩ := h23.freeze
 replace h17 := h17.st S28
 refine l_bslice 6 (by decide) O27 (xs := ([(⟨(⟨#[]⟩ : ByteArray), 0, ([] : List Fct), [(⟨([] : List Fct), 0, 1⟩ : Eff)]⟩ : Opr), (⟨(⟨#[]⟩ : ByteArray), 0, ([] : List Fct), [(⟨([] : List Fct), 1, 1⟩ : Eff)]⟩ : Opr)] : List Opr)) rfl rfl rfl rfl ⟨(Vb.ofAgg (cs := [(.string (⟨#[]⟩ : ByteArray)), (.int .i64 0), (.slice none 0 0), (.slice (some ⟨g13, 0, none⟩) [(⟨([] : List Fct), 0, 1⟩ : Eff)].length 1)]) (x := (⟨(⟨#[]⟩ : ByteArray), 0, ([] : List Fct), [(⟨([] : List Fct), 0, 1⟩ : Eff)]⟩ : Opr)) rfl ⟨_, _, rfl, (Vb.nil _ _), h17, (show inI64 0 from by decide), (show (⟨#[]⟩ : ByteArray).size ≤ 9223372036854775807 from by decide)⟩), (Vb.ofAgg (cs := [(.string (⟨#[]⟩ : ByteArray)), (.int .i64 0), (.slice none 0 0), (.slice (some ⟨g19, 0, none⟩) [(⟨([] : List Fct), 1, 1⟩ : Eff)].length 1)]) (x := (⟨(⟨#[]⟩ : ByteArray), 0, ([] : List Fct), [(⟨([] : List Fct), 1, 1⟩ : Eff)]⟩ : Opr)) rfl ⟨_, _, rfl, (Vb.nil _ _), h23, (show inI64 0 from by decide), (show (⟨#[]⟩ : ByteArray).size ≤ 9223372036854775807 from by decide)⟩), trivial⟩ (by decide) (by decide) rfl fun g29 w30 O31 S32 h33 => ?_
 refine o_bd rfl rfl rfl ?_
 refine l_alloc 7 O31 rfl fun g35 w36 O37 S38 h39 => ?_
 refine l_store h39 rfl rfl rfl (nle_b rfl) (allOne rfl) fun w40 S41 h39 => ?_
 replace h39 : Lc 7 w40 O37 g35 30 [(.slice (some ⟨g1, 0, none⟩) ([2, 2] : List Int).length 2), (.slice (some ⟨g7, 0, none⟩) ([0, 0] : List Int).length 2), (.slice none 0 0), (.slice (some ⟨g29, 0, none⟩) [(⟨(⟨#[]⟩ : ByteArray), 0, ([] : List Fct), [(⟨([] : List Fct), 0, 1⟩ : Eff)]⟩ : Opr), (⟨(⟨#[]⟩ : ByteArray), 0, ([] : List Fct), [(⟨([] : List Fct), 1, 1⟩ : Eff)]⟩ : Opr)].length 2)] := h39
 refine o_z ?_
 refine ewp_seq (ewp_region (l_bslice 8 (by decide) O37 (xs := (([1, 0] : List Int) : List Int)) rfl rfl rfl rfl ⟨(vInt (show inI64 (1) from by decide)), (vInt (show inI64 (0) from by decide)), trivial⟩ (by decide) (by decide) rfl fun g42 w43 O44 S45 h46 => ?_))
 refine l_bslice 9 (by decide) O44 (xs := (([0, 1] : List Int) : List Int)) rfl rfl rfl rfl ⟨(vInt (show inI64 (0) from by decide)), (vInt (show inI64 (1) from by decide)), trivial⟩ (by decide) (by decide) rfl fun g48 w49 O50 S51 h52 => ?_
 refine l_bslice 10 (by decide) O50 (xs := (([0, 1] : List Int) : List Int)) rfl rfl rfl rfl ⟨(vInt (show inI64 (0) from by decide)), (vInt (show inI64 (1) from by decide)), trivial⟩ (by decide) (by decide) rfl fun g54 w55 O56 S57 h58 => ?_
 replace h52 := h52.st S57
 obtain ⟨O60, S61, h52⟩ := h52.freeze
 replace h58 := h58.st S61
 obtain ⟨O62, S63, h58⟩ := h58.freeze
 replace h52 := h52.st S63
 refine l_bslice 11 (by decide) O62 (xs := ([([0, 1] : List Int), ([0, 1] : List Int)] : List (List Int))) rfl rfl rfl rfl ⟨h52, h58, trivial⟩ (by decide) (by decide) rfl fun g64 w65 O66 S67 h68 => ?_
 refine l_bslice 12 (by decide) O66 (xs := (([1, 0] : List Int) : List Int)) rfl rfl rfl rfl ⟨(vInt (show inI64 (1) from by decide)), (vInt (show inI64 (0) from by decide)), trivial⟩ (by decide) (by decide) rfl fun g70 w71 O72 S73 h74 => ?_
 refine o_bd rfl rfl rfl ?_
 refine l_alloc 13 O72 rfl fun g76 w77 O78 S79 h80 => ?_
 refine l_store h80 rfl rfl rfl (nle_b rfl) (allOne rfl) fun w81 S82 h80 => ?_
 replace h80 : Lc 13 w81 O78 g76 43 [(.slice (some ⟨g42, 0, none⟩) ([1, 0] : List Int).length 2), (.slice (some ⟨g64, 0, none⟩) [([0, 1] : List Int), ([0, 1] : List Int)].length 2), (.slice (some ⟨g70, 0, none⟩) ([1, 0] : List Int).length 2)] := h80
 refine o_z ?_
 refine ewp_seq (ewp_region ?_)
 replace h39 := ((((((((h39.st S45).st S51).st S57).st S61).st S63).st S67).st S73).st S79).st S82
 refine o_la (hl := rfl) (hc := (h39.1).cellsAt) rfl rfl ?_
 refine o_la (hl := rfl) (hc := (h80.1).cellsAt) rfl rfl ?_
 refine l_bslice 14 (by decide) O78 (xs := (([1, 0] : List Int) : List Int)) rfl rfl rfl rfl ⟨(vInt (show inI64 (1) from by decide)), (vInt (show inI64 (0) from by decide)), trivial⟩ (by decide) (by decide) rfl fun g83 w84 O85 S86 h87 => ?_
 replace h5 := (((((((((((((((((h5.st S10).st S16).st S22).st S26).st S28).st S32).st S38).st S41).st S45).st S51).st S57).st S61).st S63).st S67).st S73).st S79).st S82).st S86
 obtain ⟨O89, S90, h5⟩ := h5.freeze
 replace h11 := (((((((((((((((((h11.st S16).st S22).st S26).st S28).st S32).st S38).st S41).st S45).st S51).st S57).st S61).st S63).st S67).st S73).st S79).st S82).st S86).st S90
 obtain ⟨O91, S92, h11⟩ := h11.freeze
 replace h33 := (((((((((((((h33.st S38).st S41).st S45).st S51).st S57).st S61).st S63).st S67).st S73).st S79).st S82).st S86).st S90).st S92
 obtain ⟨O93, S94, h33⟩ := h33.freeze
 replace h46 := (((((((((((h46.st S51).st S57).st S61).st S63).st S67).st S73).st S79).st S82).st S86).st S90).st S92).st S94
 obtain ⟨O95, S96, h46⟩ := h46.freeze
 replace h68 := (((((((h68.st S73).st S79).st S82).st S86).st S90).st S92).st S94).st S96
 obtain ⟨O97, S98, h68⟩ := h68.freeze
 replace h74 := (((((((h74.st S79).st S82).st S86).st S90).st S92).st S94).st S96).st S98
 obtain ⟨O99, S100, h74⟩ := h74.freeze
 replace h87 := (((((h87.st S90).st S92).st S94).st S96).st S98).st S100
 obtain ⟨O101, S102, h87⟩ := h87.freeze
 obtain ⟨q103, e104, hm⟩ := bs hm
 replace h5 := (((((h5.st S92).st S94).st S96).st S98).st S100).st S102
 replace h11 := ((((h11.st S94).st S96).st S98).st S100).st S102
 replace h33 := (((h33.st S96).st S98).st S100).st S102
 replace h46 := ((h46.st S98).st S100).st S102
 replace h68 := (h68.st S100).st S102
 replace h74 := h74.st S102
 refine l_call (O := O101) (R := fun w' F v => T2 w' F v q103) (c_symmetry_State Fr.lt (Vb.ofAgg (cs := [(.slice (some ⟨g1, 0, none⟩) ([2, 2] : List Int).length 2), (.slice (some ⟨g7, 0, none⟩) ([0, 0] : List Int).length 2), (.slice none 0 0), (.slice (some ⟨g29, 0, none⟩) [(⟨(⟨#[]⟩ : ByteArray), 0, ([] : List Fct), [(⟨([] : List Fct), 0, 1⟩ : Eff)]⟩ : Opr), (⟨(⟨#[]⟩ : ByteArray), 0, ([] : List Fct), [(⟨([] : List Fct), 1, 1⟩ : Eff)]⟩ : Opr)].length 2)]) (x := (⟨([2, 2] : List Int), ([0, 0] : List Int), ([] : List Fct), [(⟨(⟨#[]⟩ : ByteArray), 0, ([] : List Fct), [(⟨([] : List Fct), 0, 1⟩ : Eff)]⟩ : Opr), (⟨(⟨#[]⟩ : ByteArray), 0, ([] : List Fct), [(⟨([] : List Fct), 1, 1⟩ : Eff)]⟩ : Opr)]⟩ : Tsk)) rfl ⟨_, _, _, _, rfl, h5, h11, (Vb.nil _ _), h33⟩) (Vb.ofAgg (cs := [(.slice (some ⟨g42, 0, none⟩) ([1, 0] : List Int).length 2), (.slice (some ⟨g64, 0, none⟩) [([0, 1] : List Int), ([0, 1] : List Int)].length 2), (.slice (some ⟨g70, 0, none⟩) ([1, 0] : List Int).length 2)]) (x := (⟨([1, 0] : List Int), [([0, 1] : List Int), ([0, 1] : List Int)], ([1, 0] : List Int)⟩ : Swp)) rfl ⟨_, _, _, rfl, h46, h68, h74⟩) h87 e104) rfl rfl fun v109 w105 O106 S107 h108 => ?_
 obtain ⟨v110, v111, rfl, h112, h113⟩ := h108
 obtain ⟨A114, c115, rfl⟩ := h112.form
 obtain ⟨rfl, r116⟩ := h113.err
 refine o_mv rfl rfl (o_ex rfl rfl rfl (o_ex rfl rfl rfl (o_as rfl rfl (o_as rfl rfl (o_z ?_)))))
 refine ewp_seq ?_
 obtain ⟨y117, hy118, hm⟩ := bs hm
 refine ewp_join (fun l' w' => ∃ (x120 : Unit) (O' : Lab), subs l' [(0, (.bool y117))] ∧ Bs w A w' O') ?_ ?_
 ·
  refine ewp_region ?_
  replace h39 := ((((((((h39.st S86).st S90).st S92).st S94).st S96).st S98).st S100).st S102).st S107
  refine o_la (hl := rfl) (hc := (h39.1).cellsAt) rfl rfl ?_
  replace h80 := ((((((((h80.st S86).st S90).st S92).st S94).st S96).st S98).st S100).st S102).st S107
  refine o_la (hl := rfl) (hc := (h80.1).cellsAt) rfl rfl ?_
  obtain ⟨q121, e122, hy118⟩ := bs hy118
  replace h5 := h5.st S107
  replace h11 := h11.st S107
  replace h33 := h33.st S107
  replace h46 := h46.st S107
  replace h68 := h68.st S107
  replace h74 := h74.st S107
  refine l_callA (O := O106) (A := All w105) (R := fun w' F v => Vb w' F v q121) (c_symmetry_Check (fun _ h => h) (Vb.mono (F := Fr 0 w105 O106) (Vb.ofAgg (cs := [(.slice (some ⟨g1, 0, none⟩) ([2, 2] : List Int).length 2), (.slice (some ⟨g7, 0, none⟩) ([0, 0] : List Int).length 2), (.slice none 0 0), (.slice (some ⟨g29, 0, none⟩) [(⟨(⟨#[]⟩ : ByteArray), 0, ([] : List Fct), [(⟨([] : List Fct), 0, 1⟩ : Eff)]⟩ : Opr), (⟨(⟨#[]⟩ : ByteArray), 0, ([] : List Fct), [(⟨([] : List Fct), 1, 1⟩ : Eff)]⟩ : Opr)].length 2)]) (x := (⟨([2, 2] : List Int), ([0, 0] : List Int), ([] : List Fct), [(⟨(⟨#[]⟩ : ByteArray), 0, ([] : List Fct), [(⟨([] : List Fct), 0, 1⟩ : Eff)]⟩ : Opr), (⟨(⟨#[]⟩ : ByteArray), 0, ([] : List Fct), [(⟨([] : List Fct), 1, 1⟩ : Eff)]⟩ : Opr)]⟩ : Tsk)) rfl ⟨_, _, _, _, rfl, h5, h11, (Vb.nil _ _), h33⟩) Fr.lt) (Vb.mono (F := Fr 0 w105 O106) (Vb.ofAgg (cs := [(.slice (some ⟨g42, 0, none⟩) ([1, 0] : List Int).length 2), (.slice (some ⟨g64, 0, none⟩) [([0, 1] : List Int), ([0, 1] : List Int)].length 2), (.slice (some ⟨g70, 0, none⟩) ([1, 0] : List Int).length 2)]) (x := (⟨([1, 0] : List Int), [([0, 1] : List Int), ([0, 1] : List Int)], ([1, 0] : List Int)⟩ : Swp)) rfl ⟨_, _, _, rfl, h46, h68, h74⟩) Fr.lt) e122) rfl rfl fun v127 w123 O124 S125 h126 => ?_
  obtain rfl := h126.bool
  cases q121
  case false =>
   replace hy118 := iF hy118
   refine o_mv rfl rfl (owp_no rfl rfl rfl rfl (owp_no rfl rfl rfl rfl (o_pf rfl rfl rfl (o_mv rfl rfl (owp_no rfl rfl rfl rfl (owp_no rfl rfl rfl rfl (owp_no rfl rfl rfl rfl (o_pf rfl rfl rfl (o_as rfl rfl (o_z ?_))))))))))
   obtain rfl := sm hy118
   replace hB := (((((((((((((((((((((((((((hB.st S4).st S10).st S16).st S22).st S26).st S28).st S32).st S38).st S41).st S45).st S51).st S57).st S61).st S63).st S67).st S73).st S79).st S82).st S86).st S90).st S92).st S94).st S96).st S98).st S100).st S102).st S107).st S125
   exact ⟨(), _, ⟨rfl, trivial⟩, hB⟩
  replace hy118 := iT hy118
  refine o_mv rfl rfl (owp_yes rfl rfl (o_mv rfl rfl (owp_yes rfl rfl (o_erS rfl rfl (fun c128 => ?_) fun c128 => ?_))))
  ·
   replace hy118 := ip hy118 c128
   refine o_pt rfl rfl rfl (o_mv rfl rfl (owp_yes rfl rfl (o_mv rfl rfl (owp_yes rfl rfl (l_bslice 15 (by decide) O124 (xs := (([0, 1] : List Int) : List Int)) rfl rfl rfl rfl ⟨(vInt (show inI64 (0) from by decide)), (vInt (show inI64 (1) from by decide)), trivial⟩ (by decide) (by decide) rfl fun g129 w130 O131 S132 h133 => ?_)))))
   refine owp_yes rfl rfl ?_
   obtain ⟨q135, e136, hy118⟩ := bs hy118
   replace h112 := (h112.st S125).st S132
   refine l_callA (O := O131) (A := All w130) (R := fun w' F v => Vb w' F v q135) (c_base_Ints (fun _ h => h) (Vb.mono (F := Fr 0 w130 O131) h112 Fr.lt) (h133).all e136) rfl rfl fun v141 w137 O138 S139 h140 => ?_
   obtain rfl := h140.bool
   cases q135
   case false =>
    replace hy118 := iF hy118
    refine o_pt rfl rfl rfl (o_as rfl rfl (o_z ?_))
    obtain rfl := sm hy118
    replace hB := (((((((((((((((((((((((((((((hB.st S4).st S10).st S16).st S22).st S26).st S28).st S32).st S38).st S41).st S45).st S51).st S57).st S61).st S63).st S67).st S73).st S79).st S82).st S86).st S90).st S92).st S94).st S96).st S98).st S100).st S102).st S107).st S125).st S132).st S139
    exact ⟨(), _, ⟨rfl, trivial⟩, hB⟩
   replace hy118 := iT hy118
   refine o_pt rfl rfl rfl (o_as rfl rfl (o_z ?_))
   obtain rfl := sm hy118
   replace hB := (((((((((((((((((((((((((((((hB.st S4).st S10).st S16).st S22).st S26).st S28).st S32).st S38).st S41).st S45).st S51).st S57).st S61).st S63).st S67).st S73).st S79).st S82).st S86).st S90).st S92).st S94).st S96).st S98).st S100).st S102).st S107).st S125).st S132).st S139
   exact ⟨(), _, ⟨rfl, trivial⟩, hB⟩
  replace hy118 := im hy118 c128
  refine o_pt rfl rfl rfl (o_mv rfl rfl (owp_no rfl rfl rfl rfl (owp_no rfl rfl rfl rfl (owp_no rfl rfl rfl rfl (o_pf rfl rfl rfl (o_as rfl rfl (o_z ?_)))))))
  obtain rfl := sm hy118
  replace hB := (((((((((((((((((((((((((((hB.st S4).st S10).st S16).st S22).st S26).st S28).st S32).st S38).st S41).st S45).st S51).st S57).st S61).st S63).st S67).st S73).st S79).st S82).st S86).st S90).st S92).st S94).st S96).st S98).st S100).st S102).st S107).st S125
  exact ⟨(), _, ⟨rfl, trivial⟩, hB⟩
 replace hB := ((((((((((((((((((((((((((hB.st S4).st S10).st S16).st S22).st S26).st S28).st S32).st S38).st S41).st S45).st S51).st S57).st S61).st S63).st S67).st S73).st S79).st S82).st S86).st S90).st S92).st S94).st S96).st S98).st S100).st S102).st S107
 rintro l142 w143 ⟨x120, O144, hs145, hB⟩
 refine ewp_sub _ hs145 ?_
 refine ewp_ret ?_
 obtain rfl := sm hm
 exact ret1v rfl (res_tmp rfl) ⟨hB.ext, vBool⟩
end
section
open Go Go.RowKit
attribute [local irreducible] ewp owp hwp hwq Ev Evg Fn retPost Res1
noncomputable def m_symmetry_finder_operators (x0 : Fnd) : Option ((List Int) × Bool) :=
  bnd (mkI 1 (false : Bool) (x0.t.ops.length : Int)) fun u59 => bnd (rng (ρ := (List Int) × Bool) (fun (k83 : Nat) (a84 : Opr) (s81 : (List Int) × (List Bool)) => bnd (m_symmetry_image x0.x a84) fun q181 => bnd (some (q181.pre, q181.effs) : Option ((List Fct) × (List Eff))) fun y183 => bnd (rng (ρ := Ctl ((List Int) × (List Bool)) ((List Int) × Bool)) (fun (k318 : Nat) (a319 : Opr) (s316 : Int) => bnd (bnd (s81.2[k318]?) fun a359 => if (!a359) = true then (bnd (m_symmetry_alike (⟨q181.name, q181.cost, y183.1, y183.2⟩ : Opr) a319) fun q369 => if q369 = true then some true else some false) else (some false) : Option Bool) fun y355 => if y355 = true then (some (.brk (k318 : Int))) else (some (.next s316))) x0.t.ops 0 (-1)) fun res314 => fin res314 fun (s385 : Int) => if s385 < 0 then (some (.ret (([] : List Int), false))) else (bnd (atI s81.2 s385) fun a388 => bnd (appI 8 s81.1 [s385]) fun u401 => some (.next (u401, (s81.2.set (s385 : Int).toNat true))))) x0.t.ops 0 (([] : List Int), u59)) fun res79 => fin res79 fun (s417 : (List Int) × (List Bool)) => some (s417.1, true)
theorem c_symmetry_finder_operators {w : World} {O : Lab} {p0 i0 : Nat} {x0 : Fnd} (hx0 : Ob i0 w O (.pointer (some ⟨p0, 0, none⟩)) x0) {r : (List Int) × Bool} (hm : m_symmetry_finder_operators x0 = some r) :
    Fn Tryz.prog 84 [(.pointer (some ⟨p0, 0, none⟩))] w fun v w' => ∃ O', St (eT i0) w O w' O' ∧ ∃ v0 v1 : Value, Ob i0 w' O' (.pointer (some ⟨p0, 0, none⟩)) x0 ∧ v = .tuple #[v0, v1] ∧ Vb w' (Fr 0 w' O') v0 r.1 ∧ Vb w' (Fr 0 w' O') v1 r.2 := by
 obtain ⟨O0, hE, hz0, hl2⟩ := ent1 (w := w) (O := O) hx0.2
 have hx0' := Ob.leave hx0 hz0 hl2 (j := 2) (by decide)
 have hB : Bm w O0 w O0 := Bm.refl
 refine fn_enter Tryz.func84 rfl Tryz.ntmps84 rfl ?_
 unfold m_symmetry_finder_operators at hm
 refine ewp_seq (ewp_region (o_as rfl rfl (o_as rfl rfl (o_z ?_))))
 refine ewp_seq (ewp_region (o_as rfl rfl (o_z ?_)))
 refine ewp_seq (ewp_region (o_mv rfl rfl (o_nc rfl rfl ?_)))
 obtain ⟨O2, v6, v10, v14, v18, v22, v26, v31, v36, v41, v45, v50, S3, ha5, h4, h7, h11, h15, h19, h23, h27, h32, h37, h42, h46, h51, r55, r56⟩ := Fnd.opn hx0' 2 3 4 5 6 7 (by decide)
 obtain ⟨A8, c9, rfl⟩ := h7.form
 obtain ⟨A12, c13, rfl⟩ := h11.form
 obtain ⟨A16, c17, rfl⟩ := h15.form
 obtain ⟨A20, c21, rfl⟩ := h19.form
 obtain ⟨A24, c25, rfl⟩ := h23.form
 obtain ⟨A28, c29, rfl⟩ := h27.form
 obtain ⟨A33, c34, rfl⟩ := h32.form
 obtain ⟨A38, c39, rfl⟩ := h37.form
 obtain ⟨A43, c44, rfl⟩ := h42.form
 obtain ⟨A47, c48, rfl⟩ := h46.form
 obtain ⟨A52, c53, rfl⟩ := h51.form
 refine o_fa rfl rfl (o_fa rfl rfl (o_ld (hc := Blk.cell (i := 3) (h4.1) rfl) rfl rfl ?_))
 refine o_ln rfl rfl ?_
 have l58 : x0.t.ops.length ≤ 9223372036854775807 := Nat.le_trans h19.len.2.1 h19.len.2.2
 have r57 : inI64 (x0.t.ops.length : Int) := rngNat l58
 obtain ⟨u59, e60, hm⟩ := bs hm
 obtain ⟨m61, e62, e63, e64, e65⟩ := mkI_some e60
 refine l_make 8 (by decide) O2 (z0 := (false : Bool)) rfl rfl rfl rfl rfl e62 vBool e63 e64 rfl fun g66 w67 O68 S69 h70 => ?_
 rw [← e65] at h70 ⊢
 refine o_as rfl rfl (o_z ?_)
 refine ewp_seq (ewp_seq (ewp_region (o_mv rfl rfl (o_nc rfl rfl (o_fa rfl rfl (o_fa rfl rfl ?_))))))
 replace h4 := h4.st S69
 refine o_ld (hc := Blk.cell (i := 3) (h4.1) rfl) rfl rfl ?_
 refine o_ln rfl rfl ?_
 replace h19 := h19.st S69
 have l73 : x0.t.ops.length ≤ 9223372036854775807 := Nat.le_trans h19.len.2.1 h19.len.2.2
 have r72 : inI64 (x0.t.ops.length : Int) := rngNat l73
 refine o_mv rfl rfl (o_z ?_)
 replace h7 := h7.st S69
 replace h11 := h11.st S69
 replace h15 := h15.st S69
 replace h23 := h23.st S69
 replace h27 := h27.st S69
 replace h32 := h32.st S69
 replace h37 := h37.st S69
 replace h42 := h42.st S69
 replace h46 := h46.st S69
 replace h51 := h51.st S69
 obtain ⟨O74, S75, hz77, ha78, h76⟩ := Fnd.shut (x := x0) (l0 := 2) (l1 := 3) (l2 := 4) (l3 := 5) (l4 := 6) (l5 := 7) (by decide) h4 h7 h11 h15 h19 h23 h27 h32 h37 h42 h46 h51 r55 r56
 obtain ⟨res79, hL80, hm⟩ := bs hm
 refine ewp_join (aft res79 (fun (s81 : (List Int) × (List Bool)) (x82 : (Option Addr × Nat)) => [(4, (.slice x82.1 s81.1.length x82.2))]) (fun s81 x82 w' => ∃ O' : Lab, Bm w O0 w' O' ∧ Rw 12 w' O' 3 (.slice x82.1 s81.1.length x82.2) s81.1 ∧ Ob 2 w' O' (.pointer (some ⟨p0, 0, none⟩)) x0)) ?_ ?_
 ·
  refine ewp_block ?_
  replace hB := ((hB.st S3).st S69).st S75
  replace h19 := h19.st S75
  replace h70 := h70.st S75
  refine ewp_rng (σ := (List Int) × (List Bool)) (X := (Option Addr × Nat)) (x0.t.ops.length) hL80 rfl l73 (fun (s81 : (List Int) × (List Bool)) (x82 : (Option Addr × Nat)) => [(0, (.pointer (some ⟨p0, 0, none⟩))), (4, (.slice x82.1 s81.1.length x82.2)), (5, (.slice (some ⟨g66, 0, none⟩) u59.length m61)), (23, (.slice A20 x0.t.ops.length c21))]) _ (fun s81 x82 w' => ∃ O' : Lab, Bm w O0 w' O' ∧ Ob 2 w' O' (.pointer (some ⟨p0, 0, none⟩)) x0 ∧ Rw 12 w' O' 3 (.slice x82.1 s81.1.length x82.2) s81.1 ∧ Rw 8 w' O' 4 (.slice (some ⟨g66, 0, none⟩) u59.length m61) s81.2 ∧ Vb w' (Fr 0 w' O') (.slice A20 x0.t.ops.length c21) x0.t.ops) _ (none, 0) ⟨O74, hB, h76, (Rw.nil 12 (by decide)), h70, h19⟩ ⟨rfl, rfl, rfl, rfl, rfl, rfl, trivial⟩ (fun _ _ => ⟨rfl, rfl⟩) (fun _ _ => ⟨rfl, trivial⟩) (fun _ _ _ ⟨O', hB, h76, h98, h100, h19⟩ => ⟨O', hB, h98, h76⟩) ⟨rfl, rfl, rfl⟩ ⟨rfl, rfl⟩ ?_
  rintro k83 a84 s81 x82 w85 cc87 hx88 ⟨O86, hB, h76, h98, h100, h19⟩ hf89 hret90 hbrk91
  have rk83 : inI64 (k83 : Int) := rngK hx88 l73
  refine ewp_seq (ewp_region ?_)
  obtain ⟨b102, o103, ce104, hA105, hl106, hd107, v109, v110, rfl, h111, h114, r117, z118⟩ := h19.elem' hx88
  obtain ⟨A112, c113, rfl⟩ := h111.form
  obtain ⟨A115, c116, rfl⟩ := h114.form
  refine o_iaE (hA := hA105) (hj := rfl) (hlt := hl106) rfl rfl rfl ?_
  refine o_la (hl := rfl) (hc := hd107) rfl rfl ?_
  refine l_alloc 9 O86 rfl fun g119 w120 O121 S122 h123 => ?_
  refine l_store h123 rfl rfl rfl (nle_b rfl) (allOne rfl) fun w124 S125 h123 => ?_
  replace h123 : Lc 9 w124 O121 g119 35 [(.string a84.name), (.int .i64 a84.cost), (.slice A112 a84.pre.length c113), (.slice A115 a84.effs.length c116)] := h123
  refine o_z ?_
  refine ewp_seq ?_
  replace h76 := (h76.st S122).st S125
  obtain ⟨O126, v130, v134, v138, v142, v146, v150, v155, v160, v165, v169, v174, S127, ha129, h128, h131, h135, h139, h143, h147, h151, h156, h161, h166, h170, h175, r179, r180⟩ := Fnd.opn h76 2 3 4 5 6 7 (by decide)
  obtain ⟨A132, c133, rfl⟩ := h131.form
  obtain ⟨A136, c137, rfl⟩ := h135.form
  obtain ⟨A140, c141, rfl⟩ := h139.form
  obtain ⟨A144, c145, rfl⟩ := h143.form
  obtain ⟨A148, c149, rfl⟩ := h147.form
  obtain ⟨A152, c153, rfl⟩ := h151.form
  obtain ⟨A157, c158, rfl⟩ := h156.form
  obtain ⟨A162, c163, rfl⟩ := h161.form
  obtain ⟨A167, c168, rfl⟩ := h166.form
  obtain ⟨A171, c172, rfl⟩ := h170.form
  obtain ⟨A176, c177, rfl⟩ := h175.form
  obtain ⟨q181, e182, hf89⟩ := bs hf89
  obtain ⟨y183, hy184, hf89⟩ := bs hf89
  refine ewp_join (fun l' w' => ∃ (x186 : Nat × (Option Addr × Nat) × (Option Addr × Nat)) (O' : Lab), subs l' [(0, (.pointer (some ⟨p0, 0, none⟩))), (4, (.slice x82.1 s81.1.length x82.2)), (5, (.slice (some ⟨g66, 0, none⟩) u59.length m61)), (8, (.pointer (some ⟨x186.1, 0, none⟩))), (23, (.slice A20 x0.t.ops.length c21)), (24, (.int .i64 (x0.t.ops.length : Int))), (25, (.int .i64 (k83 : Int)))] ∧ Bm w O0 w' O' ∧ Ob 2 w' O' (.pointer (some ⟨p0, 0, none⟩)) x0 ∧ Rw 12 w' O' 3 (.slice x82.1 s81.1.length x82.2) s81.1 ∧ Rw 8 w' O' 4 (.slice (some ⟨g66, 0, none⟩) u59.length m61) s81.2 ∧ Lc 10 w' O' x186.1 35 [(.string q181.name), (.int .i64 q181.cost), (.slice x186.2.1.1 y183.1.length x186.2.1.2), (.slice x186.2.2.1 y183.2.length x186.2.2.2)] ∧ Vb w' (FrS [2] w' O') (.slice x186.2.1.1 y183.1.length x186.2.1.2) y183.1 ∧ Vb w' (FrS [2] w' O') (.slice x186.2.2.1 y183.2.length x186.2.2.2) y183.2 ∧ Vb w' (Fr 0 w' O') (.slice A20 x0.t.ops.length c21) x0.t.ops ∧ q181.name.size ≤ 9223372036854775807 ∧ inI64 q181.cost) ?_ ?_
  ·
   refine ewp_drawX [] O126 ?_
   refine x_pre (fuel := 3) [] [(0, true), (1, true), (2, true), (3, true), (4, true)] (by kernel_rfl) rfl ?_
   refine h_mv rfl rfl rfl (h_nc rfl rfl rfl (h_fa rfl rfl rfl (h_laB (hl := rfl) (hb := fun w' ⟨O', hq⟩ => (cellsAt_part 6 3 ((h128.st hq (by decide)).1).cellsAt)) rfl rfl rfl ?_)))
   replace h123 := h123.st S127
   refine h_laB (hl := rfl) (hb := fun w' ⟨O', hq⟩ => ((h123.st hq (by decide)).1).cellsAt) rfl rfl rfl ?_
   refine hwp_nilT ?_
   refine x_two (i := 5) (j := 6) (by kernel_rfl) rfl rfl ?_ ?_
   ·
    replace h111 := ((h111.st S122).st S125).st S127
    replace h114 := ((h114.st S122).st S125).st S127
    refine l_callS (O := O126) (ls := [4, 5]) (R := fun w' F v => Vb w' F v q181) (c_symmetry_image FrS.lt (Vb.ofAgg (cs := [(.slice A157 x0.x.vars.length c158), (.slice A162 x0.x.vals.length c163), (.slice A167 x0.x.ops.length c168)]) (x := x0.x) rfl ⟨_, _, _, rfl, (h156.lend [4, 5] (by decide)), (Vb.subS h161.lend (by decide)), (h166.lend [4, 5])⟩) ((Vb.ofAgg (cs := [(.string a84.name), (.int .i64 a84.cost), (.slice A112 a84.pre.length c113), (.slice A115 a84.effs.length c116)]) (x := a84) rfl ⟨_, _, rfl, h111, h114, r117, z118⟩).lend [4, 5]) e182) rfl rfl fun v196 w192 O193 S194 h195 => ?_
    obtain ⟨cs197, rfl, v198, v199, rfl, h200, h203, r206, z207⟩ := h195
    obtain ⟨A201, c202, rfl⟩ := h200.form
    obtain ⟨A204, c205, rfl⟩ := h203.form
    have hZ := S194.lst [] (fun _ h => h.elim)
    refine x_go [] hZ (by kernel_rfl) ?_
    refine x_one (i := 6) (by kernel_rfl) rfl ?_
    refine l_alloc 10 O193 rfl fun g208 w209 O210 S211 h212 => ?_
    have hZ := S211.lst [] (fun _ h => h.elim)
    replace h200 := h200.stS S211 id (fun _ _ => id)
    replace h203 := h203.stS S211 id (fun _ _ => id)
    refine x_go [] hZ (by kernel_rfl) ?_
    refine x_one (i := 7) (by kernel_rfl) rfl ?_
    refine l_store h212 rfl rfl rfl (nle_b rfl) (allOne rfl) fun w213 S214 h212 => ?_
    replace h212 : Lc 10 w213 O210 g208 35 [(.string q181.name), (.int .i64 q181.cost), (.slice A201 q181.pre.length c202), (.slice A204 q181.effs.length c205)] := h212
    replace h200 := h200.stS S214 (by decide) (by decide)
    replace h203 := h203.stS S214 (by decide) (by decide)
    refine x_end (by kernel_rfl) ?_
    refine x_nil (by kernel_rfl) ?_
    replace h128 := ((h128.st S194).st S211).st S214
    replace h131 := ((h131.st S194).st S211).st S214
    replace h135 := ((h135.st S194).st S211).st S214
    replace h139 := ((h139.st S194).st S211).st S214
    replace h143 := ((h143.st S194).st S211).st S214
    replace h147 := ((h147.st S194).st S211).st S214
    replace h151 := ((h151.st S194).st S211).st S214
    replace h156 := ((h156.st S194).st S211).st S214
    replace h161 := ((h161.st S194).st S211).st S214
    replace h166 := ((h166.st S194).st S211).st S214
    replace h170 := ((h170.st S194).st S211).st S214
    replace h175 := ((h175.st S194).st S211).st S214
    obtain ⟨O215, S216, hz218, ha219, h217⟩ := Fnd.shut (x := x0) (l0 := 2) (l1 := 3) (l2 := 4) (l3 := 5) (l4 := 6) (l5 := 7) (by decide) h128 h131 h135 h139 h143 h147 h151 h156 h161 h166 h170 h175 r179 r180
    replace h200 := h200.shutS S216 hz218 ha219 [2] (by decide)
    replace h203 := h203.shutS S216 hz218 ha219 [2] (by decide)
    obtain rfl := sm hy184
    replace hB := ((((((hB.st S122).st S125).st S127).st S194).st S211).st S214).st S216
    replace h19 := ((((((h19.st S122).st S125).st S127).st S194).st S211).st S214).st S216
    replace h98 := ((((((h98.st S122).st S125).st S127).st S194).st S211).st S214).st S216
    replace h100 := ((((((h100.st S122).st S125).st S127).st S194).st S211).st S214).st S216
    replace h212 := h212.st S216
    exact ⟨(g208, (A201, c202), (A204, c205)), _, ⟨rfl, rfl, rfl, rfl, rfl, rfl, rfl, trivial⟩, hB, h217, h98, h100, h212, h200, h203, h19, z207, r206⟩
   refine l_alloc 10 O126 rfl fun g220 w221 O222 S223 h224 => ?_
   have hZ := S223.lst [] (fun _ h => h.elim)
   refine x_go [] hZ (by kernel_rfl) ?_
   refine x_one (i := 5) (by kernel_rfl) rfl ?_
   replace h111 := (((h111.st S122).st S125).st S127).st S223
   replace h114 := (((h114.st S122).st S125).st S127).st S223
   replace h156 := h156.st S223
   replace h161 := h161.st S223
   replace h166 := h166.st S223
   refine l_callS (O := O222) (ls := [4, 5]) (R := fun w' F v => Vb w' F v q181) (c_symmetry_image FrS.lt (Vb.ofAgg (cs := [(.slice A157 x0.x.vars.length c158), (.slice A162 x0.x.vals.length c163), (.slice A167 x0.x.ops.length c168)]) (x := x0.x) rfl ⟨_, _, _, rfl, (h156.lend [4, 5] (by decide)), (Vb.subS h161.lend (by decide)), (h166.lend [4, 5])⟩) ((Vb.ofAgg (cs := [(.string a84.name), (.int .i64 a84.cost), (.slice A112 a84.pre.length c113), (.slice A115 a84.effs.length c116)]) (x := a84) rfl ⟨_, _, rfl, h111, h114, r117, z118⟩).lend [4, 5]) e182) rfl rfl fun v229 w225 O226 S227 h228 => ?_
   obtain ⟨cs230, rfl, v231, v232, rfl, h233, h236, r239, z240⟩ := h228
   obtain ⟨A234, c235, rfl⟩ := h233.form
   obtain ⟨A237, c238, rfl⟩ := h236.form
   have hZ := S227.lst [] (fun _ h => h.elim)
   refine x_go [] hZ (by kernel_rfl) ?_
   refine x_one (i := 7) (by kernel_rfl) rfl ?_
   replace h224 := h224.st S227
   refine l_store h224 rfl rfl rfl (nle_b rfl) (allOne rfl) fun w241 S242 h224 => ?_
   replace h224 : Lc 10 w241 O226 g220 35 [(.string q181.name), (.int .i64 q181.cost), (.slice A234 q181.pre.length c235), (.slice A237 q181.effs.length c238)] := h224
   replace h233 := h233.stS S242 (by decide) (by decide)
   replace h236 := h236.stS S242 (by decide) (by decide)
   refine x_end (by kernel_rfl) ?_
   refine x_nil (by kernel_rfl) ?_
   replace h128 := ((h128.st S223).st S227).st S242
   replace h131 := ((h131.st S223).st S227).st S242
   replace h135 := ((h135.st S223).st S227).st S242
   replace h139 := ((h139.st S223).st S227).st S242
   replace h143 := ((h143.st S223).st S227).st S242
   replace h147 := ((h147.st S223).st S227).st S242
   replace h151 := ((h151.st S223).st S227).st S242
   replace h156 := (h156.st S227).st S242
   replace h161 := (h161.st S227).st S242
   replace h166 := (h166.st S227).st S242
   replace h170 := ((h170.st S223).st S227).st S242
   replace h175 := ((h175.st S223).st S227).st S242
   obtain ⟨O243, S244, hz246, ha247, h245⟩ := Fnd.shut (x := x0) (l0 := 2) (l1 := 3) (l2 := 4) (l3 := 5) (l4 := 6) (l5 := 7) (by decide) h128 h131 h135 h139 h143 h147 h151 h156 h161 h166 h170 h175 r179 r180
   replace h233 := h233.shutS S244 hz246 ha247 [2] (by decide)
   replace h236 := h236.shutS S244 hz246 ha247 [2] (by decide)
   obtain rfl := sm hy184
   replace hB := ((((((hB.st S122).st S125).st S127).st S223).st S227).st S242).st S244
   replace h19 := ((((((h19.st S122).st S125).st S127).st S223).st S227).st S242).st S244
   replace h98 := ((((((h98.st S122).st S125).st S127).st S223).st S227).st S242).st S244
   replace h100 := ((((((h100.st S122).st S125).st S127).st S223).st S227).st S242).st S244
   replace h224 := h224.st S244
   exact ⟨(g220, (A234, c235), (A237, c238)), _, ⟨rfl, rfl, rfl, rfl, rfl, rfl, rfl, trivial⟩, hB, h245, h98, h100, h224, h233, h236, h19, z240, r239⟩
  replace hB := ((hB.st S122).st S125).st S127
  replace h19 := ((h19.st S122).st S125).st S127
  replace h98 := ((h98.st S122).st S125).st S127
  replace h100 := ((h100.st S122).st S125).st S127
  rintro l248 w249 ⟨x186, O250, hs251, hB, h208, h98, h100, h187, h188, h189, h19, z190, r191⟩
  refine ewp_sub _ hs251 ?_
  refine ewp_seq (ewp_region (o_as rfl rfl (o_z ?_)))
  refine ewp_seq (ewp_seq (ewp_region (o_mv rfl rfl (o_nc rfl rfl ?_))))
  obtain ⟨O252, v256, v260, v264, v268, v272, v276, v281, v286, v291, v295, v300, S253, ha255, h254, h257, h261, h265, h269, h273, h277, h282, h287, h292, h296, h301, r305, r306⟩ := Fnd.opn h208 2 3 4 5 6 7 (by decide)
  obtain ⟨A258, c259, rfl⟩ := h257.form
  obtain ⟨A262, c263, rfl⟩ := h261.form
  obtain ⟨A266, c267, rfl⟩ := h265.form
  obtain ⟨A270, c271, rfl⟩ := h269.form
  obtain ⟨A274, c275, rfl⟩ := h273.form
  obtain ⟨A278, c279, rfl⟩ := h277.form
  obtain ⟨A283, c284, rfl⟩ := h282.form
  obtain ⟨A288, c289, rfl⟩ := h287.form
  obtain ⟨A293, c294, rfl⟩ := h292.form
  obtain ⟨A297, c298, rfl⟩ := h296.form
  obtain ⟨A302, c303, rfl⟩ := h301.form
  replace h188 := h188.opnS S253 (by decide) ha255 [2, 3, 4, 5, 6, 7] (by decide)
  replace h189 := h189.opnS S253 (by decide) ha255 [2, 3, 4, 5, 6, 7] (by decide)
  refine o_fa rfl rfl (o_fa rfl rfl (o_ld (hc := Blk.cell (i := 3) (h254.1) rfl) rfl rfl ?_))
  refine o_ln rfl rfl ?_
  have l308 : x0.t.ops.length ≤ 9223372036854775807 := Nat.le_trans h269.len.2.1 h269.len.2.2
  have r307 : inI64 (x0.t.ops.length : Int) := rngNat l308
  refine o_mv rfl rfl (o_z ?_)
  obtain ⟨O309, S310, hz312, ha313, h311⟩ := Fnd.shut (x := x0) (l0 := 2) (l1 := 3) (l2 := 4) (l3 := 5) (l4 := 6) (l5 := 7) (by decide) h254 h257 h261 h265 h269 h273 h277 h282 h287 h292 h296 h301 r305 r306
  replace h188 := h188.shutS S310 hz312 ha313 [2] (by decide)
  replace h189 := h189.shutS S310 hz312 ha313 [2] (by decide)
  obtain ⟨res314, hL315, hf89⟩ := bs hf89
  refine ewp_join (aft res314 (fun (s316 : Int) (x317 : Unit) => [(0, (.pointer (some ⟨p0, 0, none⟩))), (4, (.slice x82.1 s81.1.length x82.2)), (5, (.slice (some ⟨g66, 0, none⟩) u59.length m61)), (9, (.int .i64 s316)), (23, (.slice A20 x0.t.ops.length c21)), (24, (.int .i64 (x0.t.ops.length : Int))), (25, (.int .i64 (k83 : Int)))]) (fun s316 x317 w' => ∃ O' : Lab, Bm w O0 w' O' ∧ Ob 2 w' O' (.pointer (some ⟨p0, 0, none⟩)) x0 ∧ Rw 12 w' O' 3 (.slice x82.1 s81.1.length x82.2) s81.1 ∧ Rw 8 w' O' 4 (.slice (some ⟨g66, 0, none⟩) u59.length m61) s81.2 ∧ Vb w' (Fr 0 w' O') (.slice A20 x0.t.ops.length c21) x0.t.ops ∧ inI64 s316)) ?_ ?_
  ·
   refine ewp_block ?_
   replace hB := (hB.st S253).st S310
   replace h19 := (h19.st S253).st S310
   replace h98 := (h98.st S253).st S310
   replace h100 := (h100.st S253).st S310
   replace h187 := (h187.st S253).st S310
   replace h269 := h269.st S310
   refine ewp_rng (σ := Int) (X := Unit) (x0.t.ops.length) hL315 rfl l308 (fun (s316 : Int) (x317 : Unit) => [(0, (.pointer (some ⟨p0, 0, none⟩))), (4, (.slice x82.1 s81.1.length x82.2)), (5, (.slice (some ⟨g66, 0, none⟩) u59.length m61)), (8, (.pointer (some ⟨x186.1, 0, none⟩))), (9, (.int .i64 s316)), (23, (.slice A20 x0.t.ops.length c21)), (24, (.int .i64 (x0.t.ops.length : Int))), (25, (.int .i64 (k83 : Int))), (39, (.slice A270 x0.t.ops.length c271))]) _ (fun s316 x317 w' => ∃ O' : Lab, Bm w O0 w' O' ∧ Ob 2 w' O' (.pointer (some ⟨p0, 0, none⟩)) x0 ∧ Rw 12 w' O' 3 (.slice x82.1 s81.1.length x82.2) s81.1 ∧ Rw 8 w' O' 4 (.slice (some ⟨g66, 0, none⟩) u59.length m61) s81.2 ∧ Lc 10 w' O' x186.1 35 [(.string q181.name), (.int .i64 q181.cost), (.slice x186.2.1.1 y183.1.length x186.2.1.2), (.slice x186.2.2.1 y183.2.length x186.2.2.2)] ∧ Vb w' (FrS [2] w' O') (.slice x186.2.1.1 y183.1.length x186.2.1.2) y183.1 ∧ Vb w' (FrS [2] w' O') (.slice x186.2.2.1 y183.2.length x186.2.2.2) y183.2 ∧ Vb w' (Fr 0 w' O') (.slice A20 x0.t.ops.length c21) x0.t.ops ∧ Vb w' (Fr 0 w' O') (.slice A270 x0.t.ops.length c271) x0.t.ops ∧ inI64 s316) _ () ⟨O309, hB, h311, h98, h100, h187, h188, h189, h19, h269, (show inI64 (-1) from by decide)⟩ ⟨rfl, rfl, rfl, rfl, rfl, rfl, rfl, rfl, rfl, rfl, rfl, trivial⟩ (fun _ _ => ⟨rfl, rfl⟩) (fun _ _ => ⟨rfl, rfl, rfl, rfl, rfl, rfl, rfl, trivial⟩) (fun _ _ _ ⟨O', hB, h311, h98, h100, h187, h188, h189, h19, h269, r330⟩ => ⟨O', hB, h311, h98, h100, h19, r330⟩) ⟨rfl, rfl, rfl⟩ ⟨rfl, rfl⟩ ?_
   rintro k318 a319 s316 x317 w320 cc322 hx323 ⟨O321, hB, h311, h98, h100, h187, h188, h189, h19, h269, r330⟩ hf324 hret325 hbrk326
   have rk318 : inI64 (k318 : Int) := rngK hx323 l308
   refine ewp_seq (ewp_region (o_mv rfl rfl ?_))
   obtain ⟨b331, o332, ce333, hA334, hl335, hd336, v338, v339, rfl, h340, h343, r346, z347⟩ := h269.elem' hx323
   obtain ⟨A341, c342, rfl⟩ := h340.form
   obtain ⟨A344, c345, rfl⟩ := h343.form
   refine o_iaE (hA := hA334) (hj := rfl) (hlt := hl335) rfl rfl rfl ?_
   refine o_la (hl := rfl) (hc := hd336) rfl rfl ?_
   refine l_alloc 11 O321 rfl fun g348 w349 O350 S351 h352 => ?_
   replace h188 := h188.stS S351 id (fun _ _ => id)
   replace h189 := h189.stS S351 id (fun _ _ => id)
   refine o_as rfl rfl (l_store h352 rfl rfl rfl (nle_b rfl) (allOne rfl) fun w353 S354 h352 => ?_)
   replace h352 : Lc 11 w353 O350 g348 35 [(.string a319.name), (.int .i64 a319.cost), (.slice A341 a319.pre.length c342), (.slice A344 a319.effs.length c345)] := h352
   replace h188 := h188.stS S354 (by decide) (by decide)
   replace h189 := h189.stS S354 (by decide) (by decide)
   refine o_z ?_
   refine ewp_seq ?_
   obtain ⟨y355, hy356, hf324⟩ := bs hf324
   refine ewp_join (fun l' w' => ∃ (x358 : Unit) (O' : Lab), subs l' [(0, (.pointer (some ⟨p0, 0, none⟩))), (4, (.slice x82.1 s81.1.length x82.2)), (5, (.slice (some ⟨g66, 0, none⟩) u59.length m61)), (8, (.pointer (some ⟨x186.1, 0, none⟩))), (9, (.int .i64 s316)), (10, (.int .i64 (k318 : Int))), (23, (.slice A20 x0.t.ops.length c21)), (24, (.int .i64 (x0.t.ops.length : Int))), (25, (.int .i64 (k83 : Int))), (39, (.slice A270 x0.t.ops.length c271)), (40, (.int .i64 (x0.t.ops.length : Int))), (41, (.int .i64 (k318 : Int))), (55, (.bool y355))] ∧ Bm w O0 w' O' ∧ Ob 2 w' O' (.pointer (some ⟨p0, 0, none⟩)) x0 ∧ Rw 12 w' O' 3 (.slice x82.1 s81.1.length x82.2) s81.1 ∧ Rw 8 w' O' 4 (.slice (some ⟨g66, 0, none⟩) u59.length m61) s81.2 ∧ Lc 10 w' O' x186.1 35 [(.string q181.name), (.int .i64 q181.cost), (.slice x186.2.1.1 y183.1.length x186.2.1.2), (.slice x186.2.2.1 y183.2.length x186.2.2.2)] ∧ Vb w' (FrS [2] w' O') (.slice x186.2.1.1 y183.1.length x186.2.1.2) y183.1 ∧ Vb w' (FrS [2] w' O') (.slice x186.2.2.1 y183.2.length x186.2.2.2) y183.2 ∧ Vb w' (Fr 0 w' O') (.slice A20 x0.t.ops.length c21) x0.t.ops ∧ Vb w' (Fr 0 w' O') (.slice A270 x0.t.ops.length c271) x0.t.ops) ?_ ?_
   ·
    refine ewp_region (o_mv rfl rfl (o_mv rfl rfl ?_))
    obtain ⟨a359, e360, hy356⟩ := bs hy356
    replace h100 := (h100.st S351).st S354
    obtain ⟨b361, o362, ce363, hA364, hl365, hd366, rfl⟩ := h100.elem e360
    refine o_iaE (hA := hA364) (hj := rfl) (hlt := hl365) rfl rfl rfl ?_
    refine o_ld (hc := cat0 hd366) rfl rfl ?_
    refine o_nn rfl rfl (o_mv rfl rfl ?_)
    rcases Bool.eq_false_or_eq_true (!a359) with c368 | c368
    ·
     try rw [c368]
     replace hy356 := ip hy356 c368
     refine owp_yes rfl rfl ?_
     replace h187 := (h187.st S351).st S354
     refine o_la (hl := rfl) (hc := (h187.1).cellsAt) rfl rfl ?_
     refine owp_yes rfl rfl (o_la (hl := rfl) (hc := (h352.1).cellsAt) rfl rfl ?_)
     refine owp_yes rfl rfl ?_
     obtain ⟨q369, e370, hy356⟩ := bs hy356
     replace h340 := (h340.st S351).st S354
     replace h343 := (h343.st S351).st S354
     refine l_callA (O := O350) (A := All w353) (R := fun w' F v => Vb w' F v q369) (c_symmetry_alike (fun _ h => h) (Vb.mono (F := FrS [2] w353 O350) (Vb.ofAgg (cs := [(.string q181.name), (.int .i64 q181.cost), (.slice x186.2.1.1 y183.1.length x186.2.1.2), (.slice x186.2.2.1 y183.2.length x186.2.2.2)]) (x := (⟨q181.name, q181.cost, y183.1, y183.2⟩ : Opr)) rfl ⟨_, _, rfl, (Vb.subS h188 (by decide)), (Vb.subS h189 (by decide)), r191, z190⟩) FrS.lt) (Vb.mono (F := Fr 0 w353 O350) (Vb.ofAgg (cs := [(.string a319.name), (.int .i64 a319.cost), (.slice A341 a319.pre.length c342), (.slice A344 a319.effs.length c345)]) (x := a319) rfl ⟨_, _, rfl, h340, h343, r346, z347⟩) Fr.lt) e370) rfl rfl fun v375 w371 O372 S373 h374 => ?_
     obtain rfl := h374.bool
     replace h188 := h188.stS S373 id (fun _ _ => id)
     replace h189 := h189.stS S373 id (fun _ _ => id)
     cases q369
     case false =>
      replace hy356 := iF hy356
      refine o_pt rfl rfl rfl (o_z ?_)
      obtain rfl := sm hy356
      replace hB := ((hB.st S351).st S354).st S373
      replace h19 := ((h19.st S351).st S354).st S373
      replace h98 := ((h98.st S351).st S354).st S373
      replace h100 := h100.st S373
      replace h187 := h187.st S373
      replace h269 := ((h269.st S351).st S354).st S373
      replace h311 := ((h311.st S351).st S354).st S373
      exact ⟨(), _, ⟨rfl, rfl, rfl, rfl, rfl, rfl, rfl, rfl, rfl, rfl, rfl, rfl, rfl, trivial⟩, hB, h311, h98, h100, h187, h188, h189, h19, h269⟩
     replace hy356 := iT hy356
     refine o_pt rfl rfl rfl (o_z ?_)
     obtain rfl := sm hy356
     replace hB := ((hB.st S351).st S354).st S373
     replace h19 := ((h19.st S351).st S354).st S373
     replace h98 := ((h98.st S351).st S354).st S373
     replace h100 := h100.st S373
     replace h187 := h187.st S373
     replace h269 := ((h269.st S351).st S354).st S373
     replace h311 := ((h311.st S351).st S354).st S373
     exact ⟨(), _, ⟨rfl, rfl, rfl, rfl, rfl, rfl, rfl, rfl, rfl, rfl, rfl, rfl, rfl, trivial⟩, hB, h311, h98, h100, h187, h188, h189, h19, h269⟩
    try rw [c368]
    replace hy356 := im' hy356 c368
    refine owp_no rfl rfl rfl rfl (owp_no rfl rfl rfl rfl (owp_no rfl rfl rfl rfl (o_pf rfl rfl rfl (o_z ?_))))
    obtain rfl := sm hy356
    replace hB := (hB.st S351).st S354
    replace h19 := (h19.st S351).st S354
    replace h98 := (h98.st S351).st S354
    replace h187 := (h187.st S351).st S354
    replace h269 := (h269.st S351).st S354
    replace h311 := (h311.st S351).st S354
    exact ⟨(), _, ⟨rfl, rfl, rfl, rfl, rfl, rfl, rfl, rfl, rfl, rfl, rfl, rfl, rfl, trivial⟩, hB, h311, h98, h100, h187, h188, h189, h19, h269⟩
   replace hB := (hB.st S351).st S354
   replace h19 := (h19.st S351).st S354
   replace h98 := (h98.st S351).st S354
   replace h100 := (h100.st S351).st S354
   replace h187 := (h187.st S351).st S354
   replace h269 := (h269.st S351).st S354
   replace h311 := (h311.st S351).st S354
   rintro l376 w377 ⟨x358, O378, hs379, hB, h311, h98, h100, h187, h188, h189, h19, h269⟩
   refine ewp_sub _ hs379 ?_
   refine ewp_cond rfl (fun c380 => ?_) (fun c380 => ?_)
   ·
    replace hf324 := ip hf324 c380
    refine ewp_seq (ewp_region (o_mv rfl rfl (o_as rfl rfl (o_z ?_))))
    refine ewp_exit ?_
    obtain rfl := sm hf324
    exact show Exists _ from ⟨_, (), hbrk326 _ rfl, ⟨rfl, rfl, rfl, rfl, rfl, rfl, rfl, trivial⟩, _, hB, h311, h98, h100, h19, rk318⟩
   replace hf324 := im' hf324 c380
   refine ewp_skip ?_
   obtain rfl := sm hf324
   exact show Exists _ from ⟨_, (), rfl, ⟨rfl, rfl, rfl, rfl, rfl, rfl, rfl, rfl, rfl, rfl, rfl, trivial⟩, _, hB, h311, h98, h100, h187, h188, h189, h19, h269, r330⟩
  replace hB := (hB.st S253).st S310
  replace h19 := (h19.st S253).st S310
  replace h98 := (h98.st S253).st S310
  replace h100 := (h100.st S253).st S310
  rintro l381 w382 ⟨s385, x386, rfl, hs384, O383, hB, h311, h98, h100, h19, r330⟩
  replace hf89 := fin_done hf89
  refine ewp_sub _ hs384 ?_
  refine ewp_seq (ewp_seq (ewp_region (o_mv rfl rfl (o_ltS rfl rfl rfl (fun c387 => ?_) fun c387 => ?_))))
  ·
   replace hf89 := ip hf89 c387
   refine o_z ?_
   refine ewp_true rfl (ewp_seq (ewp_region (o_as rfl rfl (o_as rfl rfl (o_z ?_)))))
   refine ewp_ret ?_
   obtain rfl := sm hf89
   obtain rfl := hret90 _ rfl
   obtain rfl := sm (fin_ret hm)
   obtain ⟨O', hS', hz, hl⟩ := hE.leave (fun q => if q = 2 then i0 else 0) rfl hB
   exact ret2 rfl (res_tmp rfl) (res_tmp rfl) ⟨O', hS', _, _, (Ob.leave h311 hz (hl 2 (by decide) (by decide)) hx0.2), rfl, (Vb.mono (Vb.nil _ _) hz), vBool⟩
  replace hf89 := im hf89 c387
  refine o_z ?_
  refine ewp_false rfl (ewp_skip (ewp_seq (ewp_region (o_mv rfl rfl (o_mv rfl rfl ?_)))))
  obtain ⟨a388, e389, hf89⟩ := bs hf89
  obtain ⟨p391, x390⟩ := atI_some' e389
  obtain ⟨b392, o393, ce394, hA395, hl396, hd397, rfl⟩ := h100.elem x390
  refine o_iaE (hA := hA395) (hj := (Int.toNat_of_nonneg p391).symm) (hlt := hl396) rfl rfl rfl ?_
  refine l_setE rfl h100 (a := true) vBool hA395 rfl rfl (lt_of_get x390) fun w399 S400 h100 => ?_
  refine o_z ?_
  refine ewp_region (o_mv rfl rfl (o_mv rfl rfl ?_))
  obtain ⟨u401, e402, hf89⟩ := bs hf89
  obtain ⟨e402, e403, e404⟩ := appI_some e402
  replace h98 := h98.st S400
  refine l_append1 rfl (a := s385) h98 (vInt r330) (fun _ => rfl) rfl (by decide) (by decide) e403 e404 ⟨rfl, rfl⟩ fun g405 A406 c407 w408 O409 S410 h411 => ?_
  rw [← e402] at h411 ⊢
  refine o_as rfl rfl (o_z ?_)
  obtain rfl := sm hf89
  replace hB := (hB.st S400).st S410
  replace h19 := (h19.st S400).st S410
  replace h100 := h100.st S410
  replace h311 := (h311.st S400).st S410
  exact show Exists _ from ⟨_, (A406, c407), rfl, ⟨rfl, rfl, rfl, rfl, rfl, rfl, trivial⟩, _, hB, h311, h411, h100, h19⟩
 replace hB := ((hB.st S3).st S69).st S75
 rintro l413 w414 ⟨s417, x418, rfl, hs416, O415, hB, h98, h76⟩
 replace hm := fin_done hm
 refine ewp_sub _ hs416 ?_
 refine ewp_seq (ewp_region (o_mv rfl rfl (o_as rfl rfl (o_as rfl rfl (o_z ?_)))))
 refine ewp_ret ?_
 obtain ⟨O419, S420, h98⟩ := h98.freeze
 obtain rfl := sm hm
 replace hB := hB.st S420
 obtain ⟨O', hS', hz, hl⟩ := hE.leave (fun q => if q = 2 then i0 else 0) rfl hB
 replace h76 := h76.st S420
 exact ret2 rfl (res_tmp rfl) (res_tmp rfl) ⟨O', hS', _, _, (Ob.leave h76 hz (hl 2 (by decide) (by decide)) hx0.2), rfl, (Vb.mono h98 hz), vBool⟩
noncomputable def m_symmetry_finder_copied (x0 : Fnd) (x1 : List Int) : Option Swp :=
  bnd (m_slices_Clone_Lint_int x0.x.vars) fun q65 => bnd (rng (ρ := Swp) (fun (k94 : Nat) (a95 : List Int) (s92 : (List (List Int))) => bnd (m_slices_Clone_Lint_int a95) fun q120 => bnd (appI 24 s92 [q120]) fun u138 => some (.next u138)) x0.x.vals 0 ([] : List (List Int))) fun res90 => fin res90 fun (s155 : (List (List Int))) => some (⟨q65, s155, x1⟩ : Swp)
theorem c_symmetry_finder_copied {w : World} {O : Lab} {p0 i0 : Nat} {x0 : Fnd} (hx0 : Ob i0 w O (.pointer (some ⟨p0, 0, none⟩)) x0) {vx1 : Value} {x1 : List Int} (hx1 : Vb w (Fr 0 w O) vx1 x1) {r : Swp} (hm : m_symmetry_finder_copied x0 x1 = some r) :
    Fn Tryz.prog 85 [(.pointer (some ⟨p0, 0, none⟩)), vx1] w fun v w' => ∃ O', St (eT i0) w O w' O' ∧ Ob i0 w' O' (.pointer (some ⟨p0, 0, none⟩)) x0 ∧ Vb w' (Fr 0 w' O') v r := by
 obtain ⟨O0, hE, hz0, hl2⟩ := ent1 (w := w) (O := O) hx0.2
 have hx0' := Ob.leave hx0 hz0 hl2 (j := 2) (by decide)
 have hB : Bm w O0 w O0 := Bm.refl
 replace hx1 := hx1.mono hz0
 obtain ⟨A3, c4, rfl⟩ := hx1.form
 refine fn_enter Tryz.func85 rfl Tryz.ntmps85 rfl ?_
 unfold m_symmetry_finder_copied at hm
 refine ewp_seq (ewp_region (l_alloc 3 O0 rfl fun g5 w6 O7 S8 h9 => ?_))
 refine o_z ?_
 refine ewp_seq (ewp_region (o_mv rfl rfl (o_nc rfl rfl ?_)))
 replace hx0' := hx0'.st S8
 obtain ⟨O10, v14, v18, v22, v26, v30, v34, v39, v44, v49, v53, v58, S11, ha13, h12, h15, h19, h23, h27, h31, h35, h40, h45, h50, h54, h59, r63, r64⟩ := Fnd.opn hx0' 2 4 5 6 7 8 (by decide)
 obtain ⟨A16, c17, rfl⟩ := h15.form
 obtain ⟨A20, c21, rfl⟩ := h19.form
 obtain ⟨A24, c25, rfl⟩ := h23.form
 obtain ⟨A28, c29, rfl⟩ := h27.form
 obtain ⟨A32, c33, rfl⟩ := h31.form
 obtain ⟨A36, c37, rfl⟩ := h35.form
 obtain ⟨A41, c42, rfl⟩ := h40.form
 obtain ⟨A46, c47, rfl⟩ := h45.form
 obtain ⟨A51, c52, rfl⟩ := h50.form
 obtain ⟨A55, c56, rfl⟩ := h54.form
 obtain ⟨A60, c61, rfl⟩ := h59.form
 refine o_fa rfl rfl (o_fa rfl rfl (o_ld (hc := Blk.cell (i := 6) (h12.1) rfl) rfl rfl ?_))
 obtain ⟨q65, e66, hm⟩ := bs hm
 refine l_callRow 9 (by decide) (O := O10) ((c_slices_Clone_Lint_int (fun _ h => h) (h40).all e66).mono fun _ _ hh => ⟨hh.1, hh.2.ints⟩) rfl rfl fun A72 c73 w67 O68 S69 h70 => ?_
 refine o_mv rfl rfl (o_bd rfl rfl rfl ?_)
 refine l_alloc 10 O68 rfl fun g75 w76 O77 S78 h79 => ?_
 refine l_store h79 rfl rfl rfl (nle_b rfl) (allOne rfl) fun w80 S81 h79 => ?_
 replace h79 : Lc 10 w80 O77 g75 43 [(.slice A72 q65.length c73), (.slice none 0 0), (.slice A3 x1.length c4)] := h79
 refine o_z ?_
 refine ewp_seq (ewp_seq (ewp_region (o_mv rfl rfl (o_nc rfl rfl (o_fa rfl rfl (o_fa rfl rfl ?_))))))
 replace h12 := ((h12.st S69).st S78).st S81
 refine o_ld (hc := Blk.cell (i := 7) (h12.1) rfl) rfl rfl ?_
 refine o_ln rfl rfl ?_
 replace h45 := ((h45.st S69).st S78).st S81
 have l83 : x0.x.vals.length ≤ 9223372036854775807 := Nat.le_trans h45.len.2.1 h45.len.2.2
 have r82 : inI64 (x0.x.vals.length : Int) := rngNat l83
 refine o_mv rfl rfl (o_z ?_)
 replace h15 := ((h15.st S69).st S78).st S81
 replace h19 := ((h19.st S69).st S78).st S81
 replace h23 := ((h23.st S69).st S78).st S81
 replace h27 := ((h27.st S69).st S78).st S81
 replace h31 := ((h31.st S69).st S78).st S81
 replace h35 := ((h35.st S69).st S78).st S81
 replace h40 := ((h40.st S69).st S78).st S81
 replace h50 := ((h50.st S69).st S78).st S81
 replace h54 := ((h54.st S69).st S78).st S81
 replace h59 := ((h59.st S69).st S78).st S81
 obtain ⟨O84, S85, hz87, ha88, h86⟩ := Fnd.shut (x := x0) (l0 := 2) (l1 := 4) (l2 := 5) (l3 := 6) (l4 := 7) (l5 := 8) (by decide) h12 h15 h19 h23 h27 h31 h35 h40 h45 h50 h54 h59 r63 r64
 have h89 := (h45.lend).shutS S85 hz87 ha88 [2] (by decide)
 obtain ⟨res90, hL91, hm⟩ := bs hm
 refine ewp_join (aft res90 (fun (s92 : (List (List Int))) (x93 : (Option Addr × Nat)) => [(4, (.pointer (some ⟨g5, 0, none⟩))), (5, (.pointer (some ⟨g75, 0, none⟩)))]) (fun s92 x93 w' => ∃ O' : Lab, Bm w O0 w' O' ∧ Lc 3 w' O' g5 43 [(.slice none 0 0), (.slice none 0 0), (.slice none 0 0)] ∧ Lc 10 w' O' g75 43 [(.slice A72 q65.length c73), (.slice x93.1 s92.length x93.2), (.slice A3 x1.length c4)] ∧ Rw 9 w' O' 3 (.slice A72 q65.length c73) q65 ∧ Rw 13 w' O' 24 (.slice x93.1 s92.length x93.2) s92 ∧ Vb w' (Fr 0 w' O') (.slice A3 x1.length c4) x1 ∧ Ob 2 w' O' (.pointer (some ⟨p0, 0, none⟩)) x0)) ?_ ?_
 ·
  refine ewp_block ?_
  replace hB := (((((hB.st S8).st S11).st S69).st S78).st S81).st S85
  replace hx1 := (((((hx1.st S8).st S11).st S69).st S78).st S81).st S85
  replace h9 := ((((h9.st S11).st S69).st S78).st S81).st S85
  replace h70 := ((h70.st S78).st S81).st S85
  replace h79 := h79.st S85
  refine ewp_rng (σ := (List (List Int))) (X := (Option Addr × Nat)) (x0.x.vals.length) hL91 rfl l83 (fun (s92 : (List (List Int))) (x93 : (Option Addr × Nat)) => [(4, (.pointer (some ⟨g5, 0, none⟩))), (5, (.pointer (some ⟨g75, 0, none⟩))), (20, (.slice A46 x0.x.vals.length c47))]) _ (fun s92 x93 w' => ∃ O' : Lab, Bm w O0 w' O' ∧ Lc 3 w' O' g5 43 [(.slice none 0 0), (.slice none 0 0), (.slice none 0 0)] ∧ Lc 10 w' O' g75 43 [(.slice A72 q65.length c73), (.slice x93.1 s92.length x93.2), (.slice A3 x1.length c4)] ∧ Rw 9 w' O' 3 (.slice A72 q65.length c73) q65 ∧ Rw 13 w' O' 24 (.slice x93.1 s92.length x93.2) s92 ∧ Vb w' (Fr 0 w' O') (.slice A3 x1.length c4) x1 ∧ Vb w' (FrS [2] w' O') (.slice A46 x0.x.vals.length c47) x0.x.vals ∧ Ob 2 w' O' (.pointer (some ⟨p0, 0, none⟩)) x0) _ (none, 0) ⟨O84, hB, h9, h79, h70, (Rw.nil 13 (by decide)), hx1, h89, h86⟩ ⟨rfl, rfl, rfl, rfl, rfl, trivial⟩ (fun _ _ => ⟨rfl, rfl⟩) (fun _ _ => ⟨rfl, rfl, trivial⟩) (fun _ _ _ ⟨O', hB, h9, h79, h70, h107, hx1, h89, h86⟩ => ⟨O', hB, h9, h79, h70, h107, hx1, h86⟩) ⟨rfl, rfl, rfl⟩ ⟨rfl, rfl⟩ ?_
  rintro k94 a95 s92 x93 w96 cc98 hx99 ⟨O97, hB, h9, h79, h70, h107, hx1, h89, h86⟩ hf100 hret101 hbrk102
  have rk94 : inI64 (k94 : Int) := rngK hx99 l83
  refine ewp_seq (ewp_region ?_)
  obtain ⟨b109, o110, ce111, hA112, hl113, hd114, v116, rfl, h117⟩ := h89.elem' hx99
  replace h117 := Vb.of_slice h117
  obtain ⟨A118, c119, rfl⟩ := h117.form
  refine o_iaE (hA := hA112) (hj := rfl) (hlt := hl113) rfl rfl rfl ?_
  refine o_ld (hc := cat0 hd114) rfl rfl ?_
  refine o_as rfl rfl (o_z ?_)
  refine ewp_drawX [(4, [11]), (5, [13])] O97 ?_
  refine x_pre (fuel := 7) [] [(2, true)] (by kernel_rfl) rfl ?_
  refine h_mv rfl rfl rfl (hwp_nilT ?_)
  refine x_pre (fuel := 5) [11] [(0, true), (1, true)] (by kernel_rfl) rfl ?_
  refine h_fa rfl rfl rfl (h_ldC (hc := fun w' ⟨O', hq⟩ => Blk.cell (i := 1) ((h79.st hq (by decide)).1) rfl) rfl rfl rfl ?_)
  refine hwp_nilT ?_
  refine x_one (i := 3) (by kernel_rfl) rfl ?_
  obtain ⟨q120, e121, hf100⟩ := bs hf100
  refine l_callRow 11 (by decide) (O := O97) ((c_slices_Clone_Lint_int (fun _ h => h) (Vb.mono (F := FrS [2] w96 O97) h117 FrS.lt) e121).mono fun _ _ hh => ⟨hh.1, hh.2.ints⟩) rfl rfl fun A127 c128 w122 O123 S124 h125 => ?_
  have hZ := S124.lst [] (fun _ h => h.elim)
  replace h89 := h89.stS S124 id (fun _ _ => id)
  refine x_go [(4, [11]), (5, [13])] hZ (by kernel_rfl) ?_
  refine x_one (i := 4) (by kernel_rfl) rfl ?_
  obtain ⟨O130, S131, h125⟩ := h125.freeze
  have hZ := S131.lst [11] (fun _ h => by cases h; decide)
  replace h89 := h89.stS S131 (by decide) (by decide)
  refine l_bslice 12 (by decide) O130 (xs := ([q120] : List (List Int))) rfl rfl rfl rfl ⟨h125, trivial⟩ (by decide) (by decide) rfl fun g132 w133 O134 S135 h136 => ?_
  replace hZ := hZ.cmp S135 [11] (fun _ h => h.elim) rfl
  replace h89 := h89.stS S135 id (fun _ _ => id)
  refine x_go [(5, [13])] hZ (by kernel_rfl) ?_
  refine x_one (i := 5) (by kernel_rfl) rfl ?_
  obtain ⟨u138, e139, hf100⟩ := bs hf100
  obtain ⟨e139, e140, e141⟩ := appI_some e139
  replace h107 := ((h107.st S124).st S131).st S135
  refine l_append rfl h107 (h136.rd) rfl rfl (by decide) e140 e141 rfl fun A142 c143 w144 O145 S146 h147 => ?_
  rw [← e139] at h147 ⊢
  have hZ := S146.lst [13] (fun _ h => by cases h; decide)
  replace h89 := h89.stS S146 (by decide) (by decide)
  refine x_go [] hZ (by kernel_rfl) ?_
  refine x_pre (fuel := 1) [] [(6, true)] (by kernel_rfl) rfl ?_
  refine h_fa rfl rfl rfl (hwp_nilT ?_)
  refine x_one (i := 7) (by kernel_rfl) rfl ?_
  replace h79 := (((h79.st S124).st S131).st S135).st S146
  refine l_store h79 rfl rfl rfl (nle_b rfl) (allOne rfl) fun w149 S150 h79 => ?_
  replace h79 : Lc 10 w149 O145 g75 43 [(.slice A72 q65.length c73), (.slice A142 u138.length c143), (.slice A3 x1.length c4)] := h79
  replace h89 := h89.stS S150 (by decide) (by decide)
  refine x_end (by kernel_rfl) ?_
  refine x_nil (by kernel_rfl) ?_
  obtain rfl := sm hf100
  replace hB := ((((hB.st S124).st S131).st S135).st S146).st S150
  replace hx1 := ((((hx1.st S124).st S131).st S135).st S146).st S150
  replace h9 := ((((h9.st S124).st S131).st S135).st S146).st S150
  replace h70 := ((((h70.st S124).st S131).st S135).st S146).st S150
  replace h86 := ((((h86.st S124).st S131).st S135).st S146).st S150
  replace h147 := h147.st S150
  exact show Exists _ from ⟨_, (A142, c143), rfl, ⟨rfl, rfl, rfl, rfl, rfl, trivial⟩, _, hB, h9, h79, h70, h147, hx1, h89, h86⟩
 replace hB := (((((hB.st S8).st S11).st S69).st S78).st S81).st S85
 replace hx1 := (((((hx1.st S8).st S11).st S69).st S78).st S81).st S85
 replace h9 := ((((h9.st S11).st S69).st S78).st S81).st S85
 replace h70 := ((h70.st S78).st S81).st S85
 replace h79 := h79.st S85
 rintro l151 w152 ⟨s155, x156, rfl, hs154, O153, hB, h9, h79, h70, h107, hx1, h86⟩
 replace hm := fin_done hm
 refine ewp_sub _ hs154 ?_
 refine ewp_seq (ewp_region (o_la (hl := rfl) (hc := (h79.1).cellsAt) rfl rfl ?_))
 refine l_store h9 rfl rfl rfl (nle_b rfl) (allOne rfl) fun w157 S158 h9 => ?_
 replace h9 : Lc 3 w157 O153 g5 43 [(.slice A72 q65.length c73), (.slice x156.1 s155.length x156.2), (.slice A3 x1.length c4)] := h9
 refine o_z ?_
 refine ewp_ret ?_
 replace h70 := h70.st S158
 obtain ⟨O159, S160, h70⟩ := h70.freeze
 replace h107 := (h107.st S158).st S160
 obtain ⟨O161, S162, h107⟩ := h107.freeze
 obtain rfl := sm hm
 replace hB := ((hB.st S158).st S160).st S162
 obtain ⟨O', hS', hz, hl⟩ := hE.leave (fun q => if q = 2 then i0 else 0) rfl hB
 replace hx1 := ((hx1.st S158).st S160).st S162
 replace h9 := (h9.st S160).st S162
 replace h70 := h70.st S162
 replace h86 := ((h86.st S158).st S160).st S162
 exact ret1v rfl (res_cell (cs := [(.slice A72 q65.length c73), (.slice x156.1 s155.length x156.2), (.slice A3 x1.length c4)]) rfl rfl h9.1.cellsAt) ⟨O', hS', (Ob.leave h86 hz (hl 2 (by decide) (by decide)) hx0.2), (Vb.mono (Vb.ofAgg (cs := [(.slice A72 q65.length c73), (.slice x156.1 s155.length x156.2), (.slice A3 x1.length c4)]) (x := (⟨q65, s155, x1⟩ : Swp)) rfl ⟨_, _, _, rfl, h70, h107, hx1⟩) hz)⟩
end
section
open Go Go.RowKit
instance : DecidableEq Fct := fun a b => if h : a.var = b.var ∧ a.val = b.val then isTrue (by cases a; cases b; cases h.1; cases h.2; rfl) else isFalse fun e => h (by rw [e]; exact ⟨rfl, rfl⟩)
def encK (a : Fct) : Value := .agg #[.int .i64 a.var, .int .i64 a.val]
theorem run_equalF (a b : Fct) (w : World) : (Op.equal 26 (encK a) (encK b)).run Tryz.prog w = .ok (decide (a = b)) w := by
  have h1 : ∀ (n : Nat) (x y : Int) (w : World), (Op.equalIn (n + 1) 3 (.int .i64 x) (.int .i64 y)).run Tryz.prog w = .ok (x == y) w := fun n x y w => by simp [Op.equalIn, run_underlying Tryz.underlying3]
  have hs : Tryz.prog.stoodInHeld 26 = false := by kernel_rfl
  have hd : ∀ n : Nat, (Op.equalIn (n + 2) 26 (encK a) (encK b)).run Tryz.prog w = .ok (decide (a = b)) w := fun n => by
    rw [Op.equalIn]
    simp [encK, run_underlying Tryz.underlying26, hs, Go.part, run_isAgg_no (P := Tryz.prog) (t := 3), h1]
    obtain ⟨x, y⟩ := a
    obtain ⟨u, v⟩ := b
    by_cases hx : x = u <;> by_cases hy : y = v <;> simp [hx, hy]
  exact hd 9998
theorem run_checkKeyF (a : Fct) (e : Bool) (w : World) : (Instr.checkKey e 10000 26 (encK a)).run Tryz.prog w = .ok () w := by
  have h1 : ∀ (n : Nat) (x : Int) (w : World), (Instr.checkKey e (n + 1) 3 (.int .i64 x)).run Tryz.prog w = .ok () w := fun n x w => MapKept.run_checkKey Tryz.underlying3 (k := .int .i64 x) rfl e n
  have hd : ∀ n : Nat, (Instr.checkKey e (n + 2) 26 (encK a)).run Tryz.prog w = .ok () w := fun n => by
    rw [Instr.checkKey]
    simp [encK, run_underlying Tryz.underlying26, Go.part, run_isAgg_no (P := Tryz.prog) (t := 3), h1]
  exact hd 9998
section
variable {V : Type}
def fhas : List (Fct × V) → Fct → Bool
  | [], _ => false
  | p :: r, k => if p.1 = k then true else fhas r k
def fget (z : V) : List (Fct × V) → Fct → V
  | [], _ => z
  | p :: r, k => if p.1 = k then p.2 else fget z r k
def fput : List (Fct × V) → Fct → V → List (Fct × V)
  | [], k, v => [(k, v)]
  | p :: r, k, v => if p.1 = k then (k, v) :: r else p :: fput r k v
def fidx : List (Fct × V) → Fct → Option Nat
  | [], _ => none
  | p :: r, k => if p.1 = k then some 0 else (fidx r k).map (· + 1)
/-- What asking for a key yields. -/
def AskF (a : Fct) (es : List MapEntry) (i : Nat) (q : Option (Nat × Value)) : Prop := ∀ w, (Instr.findAsking 26 (encK a) es i).run Tryz.prog w = .ok q w
theorem AskF.find {a : Fct} {es : List MapEntry} {q : Option (Nat × Value)} (h : AskF a es 0 q) (w : World) : (Instr.findKey 26 (encK a) es).run Tryz.prog w = .ok q w := by
  cases es with
  | nil =>
    have h0 := h w
    rw [Instr.findAsking] at h0
    simp [Instr.findKey, run_underlying Tryz.underlying26, Result.andThen, Instr.findNow]
    simpa using h0
  | cons e es =>
    have h0 := h w
    have hn : ∀ d v, (∃ fs, d = TypeDesc.struct fs) → Instr.sameNow d (encK a) v = none := by rintro d v ⟨fs, rfl⟩; rfl
    simp only [Instr.findKey, Sem.run_bind, run_underlying Tryz.underlying26, Result.andThen, Instr.findNow, hn _ _ ⟨_, rfl⟩]
    exact h0
theorem find_specF (a : Fct) : ∀ (es : List MapEntry) (x : List (Fct × V)) (i : Nat), es.map (·.key) = x.map (fun p => encK p.1) →
    (fidx x a = none ∧ AskF a es i none ∧ fhas x a = false ∧ (∀ z, fget z x a = z) ∧ ∀ v, fput x a v = x ++ [(a, v)]) ∨
    ∃ j e p, fidx x a = some j ∧ es[j]? = some e ∧ x[j]? = some p ∧ AskF a es i (some (i + j, e.val)) ∧ e.key = encK a ∧ fhas x a = true ∧ (∀ z, fget z x a = p.2) ∧ ∀ v, fput x a v = x.set j (a, v)
  | [], [], _, _ => .inl ⟨rfl, fun w => by rw [Instr.findAsking]; rfl, rfl, fun _ => rfl, fun _ => rfl⟩
  | [], _ :: _, _, h => by simp at h
  | _ :: _, [], _, h => by simp at h
  | e :: es, p :: x, i, h => by
    rw [List.map_cons, List.map_cons] at h
    injection h with h1 h2
    by_cases hp : p.1 = a
    · refine .inr ⟨0, e, p, by simp [fidx, hp], rfl, rfl, fun w => ?_, by rw [h1, hp], by simp [fhas, hp], fun z => by simp [fget, hp], fun v => by simp [fput, hp]⟩
      rw [Instr.findAsking]
      simp [h1, run_equalF, hp, Result.andThen]
    · have hne : ¬ a = p.1 := fun e => hp e.symm
      rcases find_specF a es x (i + 1) h2 with ⟨g0, g1, g2, g3, g4⟩ | ⟨j, e', p', g0, g1, g2, g3, g4, g5, g6, g7⟩
      · refine .inl ⟨by simp [fidx, hp, g0], fun w => ?_, by simp [fhas, hp, g2], fun z => by simp [fget, hp, g3], fun v => by simp [fput, hp, g4]⟩
        rw [Instr.findAsking]
        simp [h1, run_equalF, hne, Result.andThen]
        exact g1 w
      · refine .inr ⟨j + 1, e', p', by simp [fidx, hp, g0], by simpa using g1, by simpa using g2, fun w => ?_, g4, by simp [fhas, hp, g5], fun z => by simp [fget, hp, g6], fun v => by simp [fput, hp, g7]⟩
        rw [Instr.findAsking]
        simp [h1, run_equalF, hne, Result.andThen]
        have := g3 w
        rw [show i + 1 + j = i + (j + 1) from by omega] at this
        exact this
end
/-- What a look-up yields. -/
def LkF (z : Value) (w : World) (r : Nat) (a : Fct) (v : Value) (b : Bool) : Prop := ∃ es ck q, w.heap[r]? = some (.map es ck) ∧ AskF a es.toList 0 q ∧ v = (match q with | some p => p.2 | none => z) ∧ b = q.isSome
theorem LkF.keep {z : Value} {w w' : World} {r : Nat} {a : Fct} {v : Value} {b : Bool} (h : LkF z w r a v b) (e : w'.heap[r]? = w.heap[r]?) : LkF z w' r a v b := by
  obtain ⟨es, ck, q, h1, h2⟩ := h
  exact ⟨es, ck, q, e.trans h1, h2⟩
section
variable {l : Env} {w : World} {dst : Option Tmp} {ty : TypeId} {pos : String} {aft : Array Edge}
theorem ev_lkF {t e : TypeId} [ht : TMap Tryz.prog t 26 e] {z : Value} {size bytes : Nat} [TInfo Tryz.prog e z size bytes] {x y : Operand} {r : Nat} {a : Fct} {v : Value} {b : Bool} (hx : opv l x = some (.map (some r))) (hy : opv l y = some (encK a)) (hv : LkF z w r a v b) :
    Ev Tryz.prog ⟨dst, .lookup t x y false, ty, pos, aft, none⟩ l w v := fun _ _ d ha => by
  obtain ⟨es, ck, q, h1, h2, h3, h4⟩ := hv
  have hb : (dr w d).heap[r]? = some (.map es ck) := h1
  subst h3
  cases q with
  | none => simp [execOp, ha.eval hx, ha.eval hy, Instr.lookup, run_underlying ht.eq, MapKept.run_getObj_map hb, run_checkKeyF, h2.find, Result.andThen, run_zero (P := Tryz.prog) (t := e)]
  | some p => simp [execOp, ha.eval hx, ha.eval hy, Instr.lookup, run_underlying ht.eq, MapKept.run_getObj_map hb, run_checkKeyF, h2.find, Result.andThen]
end
def putEsF (es : List MapEntry) (ck : Nat) (key v : Value) : Option Nat → List MapEntry
  | none => es ++ [{ key := key, val := v, born := ck }]
  | some j => es.modify j fun e => { e with key := key, val := v }
section
variable {n : Nat} {ops : Array Oper} {Q : Post} {rest : List Oper} {l : Env} {w : World} {d : Tmp} {ty : TypeId} {pos : String} {aft : Array Edge}
theorem run_staysF (a : Fct) (w : World) : (Instr.keyThatStays (encK a) (encK a)).run Tryz.prog w = .ok (encK a) w := by
  simp [Instr.keyThatStays, encK, Instr.sameBits]
set_option maxRecDepth 100000 in
theorem owp_mputF {V : Type} {t e : TypeId} [ht : TMap Tryz.prog t 26 e] {x y u : Operand} {r ck : Nat} {a : Fct} {v : Value} {es : List MapEntry} {xs : List (Fct × V)} (hb : w.heap[r]? = some (.map es.toArray ck)) (hks : es.map (·.key) = xs.map (fun p => encK p.1)) (hx : opv l x = some (.map (some r))) (hy : opv l y = some (encK a)) (hu : opv l u = some v)
    (h : ∀ w' ck', w'.os = w.os → w'.tape = w.tape → w'.output = w.output → w'.heap.size = w.heap.size → w'.heap[r]? = some (.map (putEsF es ck (encK a) v (fidx xs a)).toArray ck') → (∀ q, q ≠ r → w'.heap[q]? = w.heap[q]?) → owp Tryz.prog n ops Q rest l w') : owp Tryz.prog n ops Q (⟨none, .mapUpdate t x y u, ty, pos, aft, none⟩ :: rest) l w := fun ac d ha => by
  refine wpList_plain rfl fun K' hK => ?_
  have hbd : (dr w d).heap[r]? = some (.map es.toArray ck) := hb
  unfold Oper.wp
  rcases find_specF a es xs 0 hks with ⟨g0, g1, _⟩ | ⟨j, e', p, g0, g1, g2, g3, g4, _⟩
  · have hr : (execOp ac.eval ⟨none, .mapUpdate t x y u, ty, pos, aft, none⟩).run Tryz.prog (dr w d) = .ok .skip { (dr w d) with heap := (dr w d).heap.setIfInBounds r (.map (es.toArray.push { key := encK a, val := v, born := ck }) (ck + 1)) } := by
      simp [execOp, ha.eval hx, ha.eval hy, ha.eval hu, Instr.mapUpdate, run_underlying ht.eq, MapKept.run_getObj_map hbd, run_checkKeyF, g1.find, MapKept.run_setObj_map _ hbd, Result.andThen]
    rw [hr]
    refine hK _ _ (h { w with heap := w.heap.setIfInBounds r (.map (es.toArray.push { key := encK a, val := v, born := ck }) (ck + 1)) } (ck + 1) rfl rfl rfl (by simp) ?_ (fun q hq => (MapKept.heap_set hb).2 q hq) _ d ha)
    rw [g0]
    simpa [putEsF] using (MapKept.heap_set hb).1
  · have hj : es.toArray[j]? = some e' := by simpa using g1
    have hj' : es[j]? = some e' := g1
    rw [Nat.zero_add] at g3
    have hr : (execOp ac.eval ⟨none, .mapUpdate t x y u, ty, pos, aft, none⟩).run Tryz.prog (dr w d) = .ok .skip { (dr w d) with heap := (dr w d).heap.setIfInBounds r (.map (es.toArray.modify j fun e => { e with key := encK a, val := v }) ck) } := by
      simp [execOp, ha.eval hx, ha.eval hy, ha.eval hu, Instr.mapUpdate, run_underlying ht.eq, MapKept.run_getObj_map hbd, run_checkKeyF, g3.find, hj', g4, run_staysF, MapKept.run_setObj_map _ hbd, Result.andThen]
    rw [hr]
    refine hK _ _ (h { w with heap := w.heap.setIfInBounds r (.map (es.toArray.modify j fun e => { e with key := encK a, val := v }) ck) } ck rfl rfl rfl (by simp) ?_ (fun q hq => (MapKept.heap_set hb).2 q hq) _ d ha)
    rw [g0]
    have := (MapKept.heap_set (o' := .map (es.toArray.modify j fun e => { e with key := encK a, val := v }) ck) hb).1
    simpa [putEsF] using this
end
theorem putEsF_keys {V : Type} {es : List MapEntry} {xs : List (Fct × V)} (ck : Nat) (a : Fct) (v : Value) (y : V) (h : es.map (·.key) = xs.map (fun p => encK p.1)) : (putEsF es ck (encK a) v (fidx xs a)).map (·.key) = (fput xs a y).map (fun p => encK p.1) := by
  rcases find_specF a es xs 0 h with ⟨g0, _, _, _, g4⟩ | ⟨j, e', p, g0, g1, g2, g3, g4, _, _, g7⟩
  · rw [g0, g4]; simp [putEsF, h]
  · rw [g0, g7]
    simp only [putEsF, List.map_set, ← h]
    apply List.ext_getElem?
    intro q
    rw [List.getElem?_map, List.getElem?_modify, List.getElem?_set]
    by_cases hq : j = q
    · subst hq
      have hlt : j < es.length := lt_of_get g1
      simp [g1, hlt]
    · simp [hq]
/-- Maps from facts to plain values. -/
structure MapF (V : Type) where
  l : List (Fct × V)
instance {V : Type} [Rp V] : Ow (MapF V) where
  R w F M v x := ∃ (r : Nat) (es : List MapEntry) (ck : Nat), v = .map (some r) ∧ w.heap[r]? = some (.map es.toArray ck) ∧ M r ∧ es.map (·.key) = x.l.map (fun p => encK p.1) ∧ VA w F es x.l
  agree := by rintro w w' F M v x ⟨r, es, ck, rfl, hb, hM, hk, hv⟩ a1 a2; exact ⟨r, es, ck, rfl, (a2 r hM).trans hb, hM, hk, fun j e p h1 h2 => (hv j e p h1 h2).agree a1⟩
  mono := by rintro w F M F' M' v x ⟨r, es, ck, rfl, hb, hM, hk, hv⟩ a1 a2 a3; exact ⟨r, es, ck, rfl, hb, a2 r hM, hk, fun j e p h1 h2 => (hv j e p h1 h2).mono a1⟩
instance {V : Type} [Rp V] : OwM (MapF V) := ⟨by rintro w F M v x ⟨r, es, ck, rfl, _⟩; exact ⟨r, rfl⟩⟩
theorem VA.putF {V : Type} [Rp V] {w : World} {F : Nat → Prop} {es : List MapEntry} {xs : List (Fct × V)} {ck : Nat} {a : Fct} {v : Value} {y : V} (hk : es.map (·.key) = xs.map (fun p => encK p.1)) (h : VA w F es xs) (hv : Vb w F v y) : VA w F (putEsF es ck (encK a) v (fidx xs a)) (fput xs a y) := by
  have hlen : es.length = xs.length := by have := congrArg List.length hk; simpa using this
  intro q e p h1 h2
  rcases find_specF a es xs 0 hk with ⟨g0, _, _, _, g4⟩ | ⟨j, e', p', g0, g1, g2, g3, g4, _, _, g7⟩
  · rw [g0] at h1
    rw [g4] at h2
    simp only [putEsF] at h1
    by_cases hq : q < es.length
    · rw [List.getElem?_append_left hq] at h1
      rw [List.getElem?_append_left (by omega)] at h2
      exact h q e p h1 h2
    · rw [List.getElem?_append_right (by omega)] at h1
      rw [List.getElem?_append_right (by omega)] at h2
      cases hz : q - es.length with
      | zero =>
        rw [hz] at h1
        rw [show q - xs.length = 0 from by omega] at h2
        simp at h1 h2
        subst h1; subst h2
        exact hv
      | succ m => rw [hz] at h1; simp at h1
  · rw [g0] at h1
    rw [g7] at h2
    simp only [putEsF] at h1
    rw [List.getElem?_modify] at h1
    rw [List.getElem?_set] at h2
    by_cases hq : j = q
    · subst hq
      have hlt := lt_of_get g2
      rw [g1] at h1
      simp [hlt] at h1 h2
      subst h1; subst h2
      exact hv
    · simp [hq] at h1 h2
      exact h q e p h1 h2
section
variable {V : Type} [Rp V] {i : Nat} {w : World} {O : Lab} {r : Nat} {x : MapF V}
theorem MapF.at (h : Ob i w O (.map (some r)) x) : Fr i w O r := by
  obtain ⟨⟨r', es, ck, hv, hb, hM, _⟩, _⟩ := h
  injection hv with hv
  injection hv with hv
  subst hv
  exact hM
theorem MapF.get (h : Ob i w O (.map (some r)) x) (a : Fct) {z : Value} {z0 : V} (hz : Vb w (Fr 0 w O) z z0) : ∃ v, LkF z w r a v (fhas x.l a) ∧ Vb w (Fr 0 w O) v (fget z0 x.l a) := by
  obtain ⟨⟨r', es, ck, hv, hb, hM, hk, hva⟩, _⟩ := h
  injection hv with hv
  injection hv with hv
  subst hv
  rcases find_specF a es x.l 0 hk with ⟨g0, g1, g2, g3, g4⟩ | ⟨j, e', p, g0, g1, g2, g3, g4, g5, g6, g7⟩
  · exact ⟨z, ⟨_, ck, none, hb, by simpa using g1, rfl, g2⟩, by rw [g3]; exact hz⟩
  · exact ⟨e'.val, ⟨_, ck, some (0 + j, e'.val), hb, by simpa using g3, rfl, g5⟩, by rw [g6]; exact hva j e' p g1 g2⟩
end
section
variable {n : Nat} {ops : Array Oper} {Q : Post} {rest : List Oper} {l : Env} {w : World} {d : Tmp} {ty : TypeId} {pos : String} {aft : Array Edge} {i : Nat} {O : Lab} {r : Nat}
theorem l_mputF {V : Type} [Rp V] {x : MapF V} {t e : TypeId} [TMap Tryz.prog t 26 e] {m y u : Operand} {a : Fct} {v : Value} {b : V} (hM : Ob i w O (.map (some r)) x) (hv : Vb w (Fr 0 w O) v b) (hx : opv l m = some (.map (some r))) (hy : opv l y = some (encK a)) (hu : opv l u = some v)
    (h : ∀ w', St (eT i) w O w' O → Ob i w' O (.map (some r)) (⟨fput x.l a b⟩ : MapF V) → owp Tryz.prog n ops Q rest l w') : owp Tryz.prog n ops Q (⟨none, .mapUpdate t m y u, ty, pos, aft, none⟩ :: rest) l w := by
  obtain ⟨⟨r', es, ck, hv', hb, hM', hk, hva⟩, hi⟩ := hM
  injection hv' with hv'
  injection hv' with hv'
  subst hv'
  refine owp_mputF hb hk hx hy hu fun w' ck' e1 e2 e3 e4 e5 e6 => ?_
  have hS : St (eT i) w O w' O := ⟨e1, e2, e3, by omega, fun q hq hT => ⟨e6 q fun e => hT (by rw [e]; exact hM'.2), rfl⟩⟩
  have h0 : ¬ (eT i) 0 := fun e => hi e.symm
  refine h w' hS ⟨⟨r, _, ck', rfl, e5, ⟨by rw [e4]; exact hM'.1, hM'.2⟩, putEsF_keys ck a v b hk, ?_⟩, hi⟩
  have := hva.putF (ck := ck) hk hv (a := a)
  exact fun j e p h1 h2 => ((this j e p h1 h2).agree (hS.agree h0)).mono (hS.fr h0)
theorem l_mkmapF {V : Type} [Rp V] {t : TypeId} (i : Nat) (hi : i ≠ 0) (O : Lab) (hd : Nat.blt d n = true) (h : ∀ g w' O', St nT w O w' O' → Ob i w' O' (.map (some g)) (⟨[]⟩ : MapF V) → owp Tryz.prog n ops Q rest ((d, .map (some g)) :: l) w') : owp Tryz.prog n ops Q (⟨some d, .makeMap t none, ty, pos, aft, none⟩ :: rest) l w :=
  owp_mkmap hd fun w' hE hs hb => h _ w' _ (hE.st O fun _ => i) ⟨⟨w.heap.size, [], 0, rfl, hb, ⟨by omega, upO_new (Nat.le_refl _)⟩, rfl, fun j e p h1 _ => by simp at h1⟩, hi⟩
theorem o_lkF {t e : TypeId} [TMap Tryz.prog t 26 e] {z : Value} {size bytes : Nat} [TInfo Tryz.prog e z size bytes] {x y : Operand} {r : Nat} {v : Value} {b : Bool} (a : Fct) (hv : LkF z w r a v b) (hx : opv l x = some (.map (some r))) (hy : opv l y = some (encK a)) (hd : Nat.blt d n = true) (h : owp Tryz.prog n ops Q rest ((d, v) :: l) w) : owp Tryz.prog n ops Q (⟨some d, .lookup t x y false, ty, pos, aft, none⟩ :: rest) l w := owp_ev (ev_lkF hx hy hv) hd h
/-- A call that hands out a new map; what it reads may be owned. -/
theorem l_callMapNF {j : Nat} {f : FuncId} [Callable Tryz.prog f] {xs : List Operand} {vs : List Value} {ts : Array TypeId} {O : Lab} {x : MapF Bool} (hc : Fn Tryz.prog f vs w fun v w' => ∃ O', St nT w (fun _ => 0) w' O' ∧ Ob j w' O' v x) (hx : opvs l xs = some vs) (hd : Nat.blt d n = true)
    (h : ∀ v w' O', St nT w O w' O' → Ob j w' O' v x → owp Tryz.prog n ops Q rest ((d, v) :: l) w') : owp Tryz.prog n ops Q (⟨some d, .call { callee := .value (.func f), args := xs.toArray, argTypes := ts }, ty, pos, aft, none⟩ :: rest) l w :=
  owp_call hx hd hc fun v w' ⟨O1, hS, hM⟩ => by
    obtain ⟨⟨r, es, ck, rfl, hb, hr, hk, hv⟩, hj⟩ := hM
    have hnew : w.heap.size ≤ r := by
      rcases Nat.lt_or_ge r w.heap.size with hlt | hge
      · exact absurd ((hr.2.symm.trans (hS.same r hlt fun h => h).2)) hj
      · exact hge
    have hE : Ext w w' := ⟨hS.os, hS.tape, hS.output, hS.size, fun k hk => (hS.same k hk fun h => h).1⟩
    refine h _ w' (upO O w.heap.size fun k => if k = r then j else 0) (hE.st O _) ⟨⟨r, es, ck, rfl, hb, ⟨hr.1, by rw [upO_new hnew, if_pos rfl]⟩, hk, fun q e p g1 g2 => ?_⟩, hj⟩
    rw [(hv q e p g1 g2).bool]
    exact vBool
variable {S : World → Prop} {rr : List (Nat × Bool)} {i' : Nat}
theorem h_lkF {t e : TypeId} [TMap Tryz.prog t 26 e] {z : Value} {size bytes : Nat} [TInfo Tryz.prog e z size bytes] {x y : Operand} {r : Nat} {v : Value} {b : Bool} (a : Fct) (hv : ∀ w', S w' → LkF z w' r a v b) (hi : ops[i']? = some ⟨some d, .lookup t x y false, ty, pos, aft, none⟩) (hx : opv l x = some (.map (some r))) (hy : opv l y = some (encK a)) (hd : Nat.blt d n = true) (h : hwp Tryz.prog n ops Q S rr ((d, v) :: l) w) : hwp Tryz.prog n ops Q S ((i', true) :: rr) l w := hwp_o hi (hwq_ev (fun w' hS => ev_lkF hx hy (hv w' hS)) hd h)
theorem g_lkF {t e : TypeId} [TMap Tryz.prog t 26 e] {z : Value} {size bytes : Nat} [TInfo Tryz.prog e z size bytes] {x y : Operand} {r : Nat} {v : Value} {b : Bool} (a : Fct) (hv : ∀ w', S w' → LkF z w' r a v b) (hx : opv l x = some (.map (some r))) (hy : opv l y = some (encK a)) (hd : Nat.blt d n = true) (h : hwp Tryz.prog n ops Q S rr ((d, v) :: l) w) : hwq Tryz.prog n ops Q S ⟨some d, .lookup t x y false, ty, pos, aft, none⟩ rr l w := hwq_ev (fun w' hS => ev_lkF hx hy (hv w' hS)) hd h
end
end
section
open Go Go.RowKit
attribute [local irreducible] ewp owp hwp hwq Ev Evg Fn retPost Res1
instance : TMap Tryz.prog 84 26 4 := ⟨Tryz.underlying84⟩
abbrev MeT := Fnd → Int → Option (Swp × Bool × Fnd)
def MeC (me : MeT) : Prop := ∀ {w : World} {O : Lab} {p0 i0 : Nat} {x0 : Fnd}, Ob i0 w O (.pointer (some ⟨p0, 0, none⟩)) x0 → ∀ {x1 : Int}, inI64 x1 → ∀ {r : Swp × Bool × Fnd}, me x0 x1 = some r →
    Fn Tryz.prog 68 [(.pointer (some ⟨p0, 0, none⟩)), (.int .i64 x1)] w fun v w' => ∃ O', St (eT i0) w O w' O' ∧ ∃ v0 v1 : Value, Ob i0 w' O' (.pointer (some ⟨p0, 0, none⟩)) r.2.2 ∧ v = .tuple #[v0, v1] ∧ Vb w' (Fr 0 w' O') v0 r.1 ∧ Vb w' (Fr 0 w' O') v1 r.2.1
noncomputable def m_stepO (me : MeT) (x0 : Fnd) (x1 : Int) (x2 : Fct) : Option (Swp × Bool × Fnd) :=
  if x0.most ≤ x0.steps then (some ((⟨([] : List Int), ([] : List (List Int)), ([] : List Int)⟩ : Swp), false, (⟨(⟨x0.t.vars, x0.t.init, x0.t.goal, x0.t.ops⟩ : Tsk), x0.list, x0.signs, (⟨x0.x.vars, x0.x.vals, x0.x.ops⟩ : Swp), x0.taken, x0.vars, x0.steps, x0.most, true⟩ : Fnd))) else (bnd (chkI (x0.steps + 1)) fun n82 => bnd (atI x0.list x1) fun a87 => bnd (m_symmetry_finder_choose (⟨(⟨x0.t.vars, x0.t.init, x0.t.goal, x0.t.ops⟩ : Tsk), x0.list, x0.signs, (⟨x0.x.vars, x0.x.vals, x0.x.ops⟩ : Swp), x0.taken, x0.vars, n82, x0.most, x0.full⟩ : Fnd) a87 x2) fun q105 => bnd (chkI (x1 + 1)) fun n114 => bnd (me q105.2 n114) fun q117 => bnd (atI q117.2.2.list x1) fun a153 => bnd (m_symmetry_finder_undo q117.2.2 a153 x2 q105.1) fun q166 => some (q117.1, q117.2.1, q166))
theorem c_stepO {me : MeT} (hme : MeC me) {w : World} {O : Lab} {p0 i0 : Nat} {x0 : Fnd} (hx0 : Ob i0 w O (.pointer (some ⟨p0, 0, none⟩)) x0) {x1 : Int} (rx1 : inI64 x1) {vx2 : Value} {x2 : Fct} (hx2 : Vb w (Fr 0 w O) vx2 x2) {r : Swp × Bool × Fnd} (hm : m_stepO me x0 x1 x2 = some r) :
    Fn Tryz.prog 42 [(.pointer (some ⟨p0, 0, none⟩)), (.int .i64 x1), vx2] w fun v w' => ∃ O', St (eT i0) w O w' O' ∧ ∃ v0 v1 : Value, Ob i0 w' O' (.pointer (some ⟨p0, 0, none⟩)) r.2.2 ∧ v = .tuple #[v0, v1] ∧ Vb w' (Fr 0 w' O') v0 r.1 ∧ Vb w' (Fr 0 w' O') v1 r.2.1 := by
 obtain ⟨O0, hE, hz0, hl2⟩ := ent1 (w := w) (O := O) hx0.2
 have hx0' := Ob.leave hx0 hz0 hl2 (j := 2) (by decide)
 have hB : Bm w O0 w O0 := Bm.refl
 replace hx2 := hx2.mono hz0
 obtain ⟨cs4, rfl, rfl, r5, r6⟩ := hx2
 refine fn_enter Tryz.func42 rfl Tryz.ntmps42 rfl ?_
 unfold m_stepO at hm
 refine ewp_seq (ewp_region (l_box 3 O0 rfl rfl fun g7 w8 O9 S10 h11 => ?_))
 replace h11 : Lc 3 w8 O9 g7 26 [(.int .i64 x2.var), (.int .i64 x2.val)] := h11
 refine l_alloc 4 O9 rfl fun g12 w13 O14 S15 h16 => ?_
 refine o_as rfl rfl (o_z ?_)
 refine ewp_seq (ewp_seq (ewp_draw (· = w13) [(0, true), (1, true), (2, true), (3, true), (4, true), (5, true), (6, true), (7, true), (8, true)] (by kernel_rfl) rfl (by kernel_rfl) rfl ?_))
 refine h_mv rfl rfl rfl (h_nc rfl rfl rfl ?_)
 replace hx0' := (hx0'.st S10).st S15
 obtain ⟨O17, v21, v25, v29, v33, v37, v41, v46, v51, v56, v60, v65, S18, ha20, h19, h22, h26, h30, h34, h38, h42, h47, h52, h57, h61, h66, r70, r71⟩ := Fnd.opn hx0' 2 5 6 7 8 9 (by decide)
 obtain ⟨A23, c24, rfl⟩ := h22.form
 obtain ⟨A27, c28, rfl⟩ := h26.form
 obtain ⟨A31, c32, rfl⟩ := h30.form
 obtain ⟨A35, c36, rfl⟩ := h34.form
 obtain ⟨A39, c40, rfl⟩ := h38.form
 obtain ⟨A43, c44, rfl⟩ := h42.form
 obtain ⟨A48, c49, rfl⟩ := h47.form
 obtain ⟨A53, c54, rfl⟩ := h52.form
 obtain ⟨A58, c59, rfl⟩ := h57.form
 obtain ⟨A62, c63, rfl⟩ := h61.form
 obtain ⟨A67, c68, rfl⟩ := h66.form
 refine h_fa rfl rfl rfl (h_ldA (hc := Blk.cell (i := 11) (h19.1) rfl) rfl rfl rfl ?_)
 refine h_mv rfl rfl rfl (h_nc rfl rfl rfl (h_fa rfl rfl rfl (h_ldA (hc := Blk.cell (i := 12) (h19.1) rfl) rfl rfl rfl ?_)))
 refine h_geS rfl rfl rfl rfl (fun c72 => ?_) fun c72 => ?_
 ·
  replace hm := ip hm c72
  refine h_z ?_
  refine ewp_true rfl (ewp_seq (ewp_region (o_mv rfl rfl (o_nc rfl rfl (o_fa rfl rfl (l_store h19 rfl rfl rfl (nle_b rfl) (allOne rfl) fun w73 S74 h19 => ?_))))))
  replace h19 : Lc 2 w73 O17 p0 67 [(.slice A23 x0.t.vars.length c24), (.slice A27 x0.t.init.length c28), (.slice A31 x0.t.goal.length c32), (.slice A35 x0.t.ops.length c36), (.slice A39 x0.list.length c40), (.slice A43 x0.signs.length c44), (.slice A48 x0.x.vars.length c49), (.slice A53 x0.x.vals.length c54), (.slice A58 x0.x.ops.length c59), (.slice A62 x0.taken.length c63), (.slice A67 x0.vars.length c68), (.int .i64 x0.steps), (.int .i64 x0.most), (.bool true)] := h19
  refine o_z ?_
  refine ewp_seq (ewp_region (o_bd rfl rfl rfl ?_))
  replace h16 := (h16.st S18).st S74
  refine l_store h16 rfl rfl rfl (nle_b rfl) (allOne rfl) fun w75 S76 h16 => ?_
  replace h16 : Lc 4 w75 O17 g12 43 [(.slice none 0 0), (.slice none 0 0), (.slice none 0 0)] := h16
  refine o_as rfl rfl (o_z ?_)
  refine ewp_ret ?_
  replace h19 := h19.st S76
  replace h22 := (h22.st S74).st S76
  replace h26 := (h26.st S74).st S76
  replace h30 := (h30.st S74).st S76
  replace h34 := (h34.st S74).st S76
  replace h38 := (h38.st S74).st S76
  replace h42 := (h42.st S74).st S76
  replace h47 := (h47.st S74).st S76
  replace h52 := (h52.st S74).st S76
  replace h57 := (h57.st S74).st S76
  replace h61 := (h61.st S74).st S76
  replace h66 := (h66.st S74).st S76
  obtain ⟨O77, S78, hz80, ha81, h79⟩ := Fnd.shut (x := (⟨(⟨x0.t.vars, x0.t.init, x0.t.goal, x0.t.ops⟩ : Tsk), x0.list, x0.signs, (⟨x0.x.vars, x0.x.vals, x0.x.ops⟩ : Swp), x0.taken, x0.vars, x0.steps, x0.most, true⟩ : Fnd)) (l0 := 2) (l1 := 5) (l2 := 6) (l3 := 7) (l4 := 8) (l5 := 9) (by decide) h19 h22 h26 h30 h34 h38 h42 h47 h52 h57 h61 h66 r70 r71
  obtain rfl := sm hm
  replace hB := (((((hB.st S10).st S15).st S18).st S74).st S76).st S78
  obtain ⟨O', hS', hz, hl⟩ := hE.leave (fun q => if q = 2 then i0 else 0) rfl hB
  replace h16 := h16.st S78
  exact ret2 rfl (res_cell (cs := [(.slice none 0 0), (.slice none 0 0), (.slice none 0 0)]) rfl rfl h16.1.cellsAt) (res_tmp rfl) ⟨O', hS', _, _, (Ob.leave h79 hz (hl 2 (by decide) (by decide)) hx0.2), rfl, (Vb.mono (Vb.ofAgg (cs := [(.slice none 0 0), (.slice none 0 0), (.slice none 0 0)]) (x := (⟨([] : List Int), ([] : List (List Int)), ([] : List Int)⟩ : Swp)) rfl ⟨_, _, _, rfl, (Vb.nil _ _), (Vb.nil _ _), (Vb.nil _ _)⟩) hz), vBool⟩
 replace hm := im hm c72
 refine h_z ?_
 refine ewp_false rfl (ewp_skip (ewp_seq (ewp_region (o_mv rfl rfl (o_nc rfl rfl (o_fa rfl rfl (o_ld (hc := Blk.cell (i := 11) (h19.1) rfl) rfl rfl ?_)))))))
 obtain ⟨n82, e83, hm⟩ := bs hm
 have r84 := (chkI_rng e83)
 refine o_adE (he := e83) rfl rfl rfl ?_
 refine o_nc rfl rfl (o_fa rfl rfl (l_store h19 rfl rfl rfl (nle_b rfl) (allOne rfl) fun w85 S86 h19 => ?_))
 replace h19 : Lc 2 w85 O17 p0 67 [(.slice A23 x0.t.vars.length c24), (.slice A27 x0.t.init.length c28), (.slice A31 x0.t.goal.length c32), (.slice A35 x0.t.ops.length c36), (.slice A39 x0.list.length c40), (.slice A43 x0.signs.length c44), (.slice A48 x0.x.vars.length c49), (.slice A53 x0.x.vals.length c54), (.slice A58 x0.x.ops.length c59), (.slice A62 x0.taken.length c63), (.slice A67 x0.vars.length c68), (.int .i64 n82), (.int .i64 x0.most), (.bool x0.full)] := h19
 refine o_z ?_
 refine ewp_seq (ewp_drawX [(9, [2, 5, 6, 7, 8, 9])] O17 ?_)
 refine x_pre (fuel := 2) [] [(0, true), (1, true), (2, true), (3, true), (4, true), (5, true), (6, true), (7, true), (8, true)] (by kernel_rfl) rfl ?_
 refine h_mv rfl rfl rfl (h_mv rfl rfl rfl (h_nc rfl rfl rfl (h_fa rfl rfl rfl (h_ldC (hc := fun w' ⟨O', hq⟩ => Blk.cell (i := 4) ((h19.st hq (by decide)).1) rfl) rfl rfl rfl ?_))))
 refine h_mv rfl rfl rfl ?_
 obtain ⟨a87, e88, hm⟩ := bs hm
 obtain ⟨p90, x89⟩ := atI_some' e88
 replace h38 := h38.st S86
 obtain ⟨b91, o92, ce93, hA94, hF97, hl95, hd96, rfl, r98, r99⟩ := h38.elem x89
 refine h_iaE (hA := hA94) (hj := (Int.toNat_of_nonneg p90).symm) (hlt := hl95) rfl rfl rfl rfl ?_
 refine h_laB (hl := rfl) (hb := fun w' ⟨O', hq⟩ => (cellsAt_agree (hq.agree (i := 0) (by decide)) hF97 hd96)) rfl rfl rfl ?_
 replace h11 := ((h11.st S15).st S18).st S86
 refine h_laB (hl := rfl) (hb := fun w' ⟨O', hq⟩ => ((h11.st hq (by decide)).1).cellsAt) rfl rfl rfl ?_
 refine hwp_nilT ?_
 refine x_one (i := 9) (by kernel_rfl) rfl ?_
 replace h22 := h22.st S86
 replace h26 := h26.st S86
 replace h30 := h30.st S86
 replace h34 := h34.st S86
 replace h42 := h42.st S86
 replace h47 := h47.st S86
 replace h52 := h52.st S86
 replace h57 := h57.st S86
 replace h61 := h61.st S86
 replace h66 := h66.st S86
 obtain ⟨O100, S101, hz103, ha104, h102⟩ := Fnd.shut (x := (⟨(⟨x0.t.vars, x0.t.init, x0.t.goal, x0.t.ops⟩ : Tsk), x0.list, x0.signs, (⟨x0.x.vars, x0.x.vals, x0.x.ops⟩ : Swp), x0.taken, x0.vars, n82, x0.most, x0.full⟩ : Fnd)) (l0 := 2) (l1 := 5) (l2 := 6) (l3 := 7) (l4 := 8) (l5 := 9) (by decide) h19 h22 h26 h30 h34 h38 h42 h47 h52 h57 h61 h66 r84 r71
 have hZ := S101.lst [2, 5, 6, 7, 8, 9] (by decide)
 obtain ⟨q105, e106, hm⟩ := bs hm
 refine l_callM (O := O100) (c_symmetry_finder_choose h102 (Vb.ofAgg (cs := [(.int .i64 a87.var), (.int .i64 a87.val)]) (x := a87) rfl ⟨rfl, r98, r99⟩) (Vb.ofAgg (cs := [(.int .i64 x2.var), (.int .i64 x2.val)]) (x := x2) rfl ⟨rfl, r5, r6⟩) e106) rfl rfl fun v111 w107 O108 S109 h110 => ?_
 obtain ⟨h112, h113⟩ := h110
 obtain rfl := h113.bool
 replace hZ := hZ.cmp S109 [2, 5, 6, 7, 8, 9] (fun _ h => by cases h; decide) rfl
 refine x_go [] hZ (by kernel_rfl) ?_
 refine x_pre (fuel := 0) [] [(10, true)] (by kernel_rfl) rfl ?_
 refine h_as rfl rfl rfl (hwp_nilT ?_)
 refine x_nil (by kernel_rfl) ?_
 refine ewp_seq (ewp_region (o_mv rfl rfl (o_mv rfl rfl ?_)))
 obtain ⟨n114, e115, hm⟩ := bs hm
 have r116 := (chkI_rng e115)
 refine o_adE (he := e115) rfl rfl rfl ?_
 obtain ⟨q117, e118, hm⟩ := bs hm
 refine l_callM (O := O108) (hme h112 r116 e118) rfl rfl fun v123 w119 O120 S121 h122 => ?_
 obtain ⟨v125, v126, h124, rfl, h127, h128⟩ := h122
 obtain ⟨cs129, rfl, v130, v131, v132, rfl, h133, h136, h139⟩ := h127
 obtain ⟨A134, c135, rfl⟩ := h133.form
 obtain ⟨A137, c138, rfl⟩ := h136.form
 obtain ⟨A140, c141, rfl⟩ := h139.form
 obtain rfl := h128.bool
 refine o_mv rfl rfl (o_ex rfl rfl rfl (o_ex rfl rfl rfl (l_alloc 10 O120 rfl fun g142 w143 O144 S145 h146 => ?_)))
 refine l_store h146 rfl rfl rfl (nle_b rfl) (allOne rfl) fun w147 S148 h146 => ?_
 replace h146 : Lc 10 w147 O144 g142 43 [(.slice A134 q117.1.vars.length c135), (.slice A137 q117.1.vals.length c138), (.slice A140 q117.1.ops.length c141)] := h146
 refine o_as rfl rfl (o_z ?_)
 refine ewp_seq (ewp_drawX [] O144 ?_)
 refine x_pre (fuel := 1) [] [(0, true), (1, true), (2, true), (3, true), (4, true), (5, true), (6, true), (7, true), (8, true), (9, true)] (by kernel_rfl) rfl ?_
 refine h_mv rfl rfl rfl (h_mv rfl rfl rfl (h_nc rfl rfl rfl (h_fa rfl rfl rfl ?_)))
 replace h124 := (h124.st S145).st S148
 obtain ⟨A149, c150, hc151, h152⟩ := Fnd.pk_list h124
 refine h_ldC (hc := fun w' ⟨O', hq⟩ => Fnd.kp h124 hq (by decide) hc151) rfl rfl rfl ?_
 refine h_mv rfl rfl rfl ?_
 obtain ⟨a153, e154, hm⟩ := bs hm
 obtain ⟨p156, x155⟩ := atI_some' e154
 obtain ⟨b157, o158, ce159, hA160, hF163, hl161, hd162, rfl, r164, r165⟩ := h152.elem x155
 refine h_iaE (hA := hA160) (hj := (Int.toNat_of_nonneg p156).symm) (hlt := hl161) rfl rfl rfl rfl ?_
 refine h_laB (hl := rfl) (hb := fun w' ⟨O', hq⟩ => (cellsAt_agree (hq.agree (i := 0) (by decide)) hF163 hd162)) rfl rfl rfl ?_
 replace h11 := ((((h11.st S101).st S109).st S121).st S145).st S148
 refine h_laB (hl := rfl) (hb := fun w' ⟨O', hq⟩ => ((h11.st hq (by decide)).1).cellsAt) rfl rfl rfl ?_
 refine h_mv rfl rfl rfl (hwp_nilT ?_)
 refine x_one (i := 10) (by kernel_rfl) rfl ?_
 obtain ⟨q166, e167, hm⟩ := bs hm
 refine l_callM (O := O144) (c_symmetry_finder_undo h124 (Vb.ofAgg (cs := [(.int .i64 a153.var), (.int .i64 a153.val)]) (x := a153) rfl ⟨rfl, r164, r165⟩) (Vb.ofAgg (cs := [(.int .i64 x2.var), (.int .i64 x2.val)]) (x := x2) rfl ⟨rfl, r5, r6⟩) e167) rfl rfl fun v172 w168 O169 S170 h173 => ?_
 refine x_end (by kernel_rfl) ?_
 refine x_nil (by kernel_rfl) ?_
 refine ewp_seq (ewp_region ?_)
 replace h146 := h146.st S170
 refine o_la (hl := rfl) (hc := (h146.1).cellsAt) rfl rfl ?_
 refine o_mv rfl rfl ?_
 replace h16 := (((((((h16.st S18).st S86).st S101).st S109).st S121).st S145).st S148).st S170
 refine l_store h16 rfl rfl rfl (nle_b rfl) (allOne rfl) fun w174 S175 h16 => ?_
 replace h16 : Lc 4 w174 O169 g12 43 [(.slice A134 q117.1.vars.length c135), (.slice A137 q117.1.vals.length c138), (.slice A140 q117.1.ops.length c141)] := h16
 refine o_as rfl rfl (o_z ?_)
 refine ewp_ret ?_
 obtain rfl := sm hm
 replace hB := ((((((((((hB.st S10).st S15).st S18).st S86).st S101).st S109).st S121).st S145).st S148).st S170).st S175
 obtain ⟨O', hS', hz, hl⟩ := hE.leave (fun q => if q = 2 then i0 else 0) rfl hB
 replace h133 := (((h133.st S145).st S148).st S170).st S175
 replace h136 := (((h136.st S145).st S148).st S170).st S175
 replace h139 := (((h139.st S145).st S148).st S170).st S175
 replace h173 := h173.st S175
 exact ret2 rfl (res_cell (cs := [(.slice A134 q117.1.vars.length c135), (.slice A137 q117.1.vals.length c138), (.slice A140 q117.1.ops.length c141)]) rfl rfl h16.1.cellsAt) (res_tmp rfl) ⟨O', hS', _, _, (Ob.leave h173 hz (hl 2 (by decide) (by decide)) hx0.2), rfl, (Vb.mono (Vb.ofAgg (cs := [(.slice A134 q117.1.vars.length c135), (.slice A137 q117.1.vals.length c138), (.slice A140 q117.1.ops.length c141)]) (x := q117.1) rfl ⟨_, _, _, rfl, h133, h136, h139⟩) hz), vBool⟩
noncomputable def m_extendO (me : MeT) (x0 : Fnd) (x1 : Int) : Option (Swp × Bool × Fnd) :=
  if x1 = (x0.list.length : Int) then (bnd (m_symmetry_finder_operators x0) fun q71 => bnd (if (!q71.2) = true then (some true) else (bnd (m_symmetry_mapped x0.x x0.t.goal) fun q150 => bnd (m_slices_Equal_Lapi_Fact_api_Fact q150 x0.t.goal) fun q159 => if q159 = true then some false else some true) : Option Bool) fun y140 => if y140 = true then (some ((⟨([] : List Int), ([] : List (List Int)), ([] : List Int)⟩ : Swp), false, x0)) else (bnd (m_symmetry_finder_copied x0 q71.1) fun q183 => some (q183, true, x0))) else (bnd (rng (ρ := Swp × Bool × Fnd) (fun (k218 : Nat) (a219 : Fct) (s216 : Fnd) => bnd (atI s216.list x1) fun a251 => bnd (m_symmetry_finder_fits s216 a251 a219) fun q264 => if q264 = true then bnd (m_stepO me s216 x1 a219) fun q273 => bnd (if q273.2.1 = true then (some (true, true)) else (some (false, q273.2.2.full)) : Option (Bool × Bool)) fun y305 => if y305.2 = true then (some (.ret (q273.1, y305.1, q273.2.2))) else (some (.next q273.2.2)) else some (.next s216)) x0.list 0 x0) fun res214 => fin res214 fun (s381 : Fnd) => some ((⟨([] : List Int), ([] : List (List Int)), ([] : List Int)⟩ : Swp), false, s381))
theorem c_extendO {me : MeT} (hme : MeC me) {w : World} {O : Lab} {p0 i0 : Nat} {x0 : Fnd} (hx0 : Ob i0 w O (.pointer (some ⟨p0, 0, none⟩)) x0) {x1 : Int} (rx1 : inI64 x1) {r : Swp × Bool × Fnd} (hm : m_extendO me x0 x1 = some r) :
    Fn Tryz.prog 68 [(.pointer (some ⟨p0, 0, none⟩)), (.int .i64 x1)] w fun v w' => ∃ O', St (eT i0) w O w' O' ∧ ∃ v0 v1 : Value, Ob i0 w' O' (.pointer (some ⟨p0, 0, none⟩)) r.2.2 ∧ v = .tuple #[v0, v1] ∧ Vb w' (Fr 0 w' O') v0 r.1 ∧ Vb w' (Fr 0 w' O') v1 r.2.1 := by
 obtain ⟨O0, hE, hz0, hl2⟩ := ent1 (w := w) (O := O) hx0.2
 have hx0' := Ob.leave hx0 hz0 hl2 (j := 2) (by decide)
 have hB : Bm w O0 w O0 := Bm.refl
 refine fn_enter Tryz.func68 rfl Tryz.ntmps68 rfl ?_
 unfold m_extendO at hm
 refine ewp_seq (ewp_region (l_alloc 3 O0 rfl fun g3 w4 O5 S6 h7 => ?_))
 refine o_as rfl rfl (o_z ?_)
 refine ewp_seq (ewp_seq (ewp_region (o_mv rfl rfl (o_mv rfl rfl (o_nc rfl rfl ?_)))))
 replace hx0' := hx0'.st S6
 obtain ⟨O8, v12, v16, v20, v24, v28, v32, v37, v42, v47, v51, v56, S9, ha11, h10, h13, h17, h21, h25, h29, h33, h38, h43, h48, h52, h57, r61, r62⟩ := Fnd.opn hx0' 2 4 5 6 7 8 (by decide)
 obtain ⟨A14, c15, rfl⟩ := h13.form
 obtain ⟨A18, c19, rfl⟩ := h17.form
 obtain ⟨A22, c23, rfl⟩ := h21.form
 obtain ⟨A26, c27, rfl⟩ := h25.form
 obtain ⟨A30, c31, rfl⟩ := h29.form
 obtain ⟨A34, c35, rfl⟩ := h33.form
 obtain ⟨A39, c40, rfl⟩ := h38.form
 obtain ⟨A44, c45, rfl⟩ := h43.form
 obtain ⟨A49, c50, rfl⟩ := h48.form
 obtain ⟨A53, c54, rfl⟩ := h52.form
 obtain ⟨A58, c59, rfl⟩ := h57.form
 refine o_fa rfl rfl (o_ld (hc := Blk.cell (i := 4) (h10.1) rfl) rfl rfl ?_)
 refine o_ln rfl rfl ?_
 have l64 : x0.list.length ≤ 9223372036854775807 := Nat.le_trans h29.len.2.1 h29.len.2.2
 have r63 : inI64 (x0.list.length : Int) := rngNat l64
 refine o_eeS rfl rfl rfl (fun c65 => ?_) fun c65 => ?_
 ·
  replace hm := ip hm c65
  refine o_z ?_
  refine ewp_true rfl (ewp_seq (ewp_region (o_mv rfl rfl ?_)))
  obtain ⟨O66, S67, hz69, ha70, h68⟩ := Fnd.shut (x := x0) (l0 := 2) (l1 := 4) (l2 := 5) (l3 := 6) (l4 := 7) (l5 := 8) (by decide) h10 h13 h17 h21 h25 h29 h33 h38 h43 h48 h52 h57 r61 r62
  obtain ⟨q71, e72, hm⟩ := bs hm
  refine l_callM (O := O66) (c_symmetry_finder_operators h68 e72) rfl rfl fun v77 w73 O74 S75 h76 => ?_
  obtain ⟨v79, v80, h78, rfl, h81, h82⟩ := h76
  obtain ⟨A83, c84, rfl⟩ := h81.form
  obtain rfl := h82.bool
  refine o_mv rfl rfl (o_ex rfl rfl rfl (o_ex rfl rfl rfl (o_as rfl rfl (o_as rfl rfl (o_z ?_)))))
  refine ewp_seq (ewp_seq ?_)
  obtain ⟨O85, v89, v93, v97, v101, v105, v109, v114, v119, v124, v128, v133, S86, ha88, h87, h90, h94, h98, h102, h106, h110, h115, h120, h125, h129, h134, r138, r139⟩ := Fnd.opn h78 2 4 5 6 7 8 (by decide)
  obtain ⟨A91, c92, rfl⟩ := h90.form
  obtain ⟨A95, c96, rfl⟩ := h94.form
  obtain ⟨A99, c100, rfl⟩ := h98.form
  obtain ⟨A103, c104, rfl⟩ := h102.form
  obtain ⟨A107, c108, rfl⟩ := h106.form
  obtain ⟨A111, c112, rfl⟩ := h110.form
  obtain ⟨A116, c117, rfl⟩ := h115.form
  obtain ⟨A121, c122, rfl⟩ := h120.form
  obtain ⟨A126, c127, rfl⟩ := h125.form
  obtain ⟨A130, c131, rfl⟩ := h129.form
  obtain ⟨A135, c136, rfl⟩ := h134.form
  obtain ⟨y140, hy141, hm⟩ := bs hm
  refine ewp_join (fun l' w' => ∃ (x143 : Unit) (O' : Lab), subs l' [(0, (.pointer (some ⟨p0, 0, none⟩))), (4, (.pointer (some ⟨g3, 0, none⟩))), (6, (.slice A83 q71.1.length c84)), (44, (.bool y140))] ∧ Bm w O0 w' O' ∧ Ob 2 w' O' (.pointer (some ⟨p0, 0, none⟩)) x0 ∧ Lc 3 w' O' g3 43 [(.slice none 0 0), (.slice none 0 0), (.slice none 0 0)] ∧ Vb w' (Fr 0 w' O') (.slice A83 q71.1.length c84) q71.1) ?_ ?_
  ·
   refine ewp_drawX [] O85 ?_
   refine x_pre (fuel := 4) [] [(0, true), (1, true), (2, true), (3, true), (4, true), (5, true), (6, true), (7, true), (8, true), (9, true), (10, true), (11, true), (13, true), (14, true), (15, true), (16, true), (17, true)] (by kernel_rfl) rfl ?_
   refine h_mv rfl rfl rfl (h_nn rfl rfl rfl (h_mv rfl rfl rfl ?_))
   rcases Bool.eq_false_or_eq_true (!q71.2) with c144 | c144
   ·
    try simp only [c144]
    replace hy141 := ip hy141 c144
    refine h_no rfl rfl rfl rfl rfl (h_no rfl rfl rfl rfl rfl (h_no rfl rfl rfl rfl rfl (h_no rfl rfl rfl rfl rfl (h_no rfl rfl rfl rfl rfl (h_no rfl rfl rfl rfl rfl (h_no rfl rfl rfl rfl rfl (h_no rfl rfl rfl rfl rfl (h_no rfl rfl rfl rfl rfl (h_no rfl rfl rfl rfl rfl (h_no rfl rfl rfl rfl rfl (h_no rfl rfl rfl rfl rfl (h_no rfl rfl rfl rfl rfl (h_no rfl rfl rfl rfl rfl (hwp_nilT ?_))))))))))))))
    refine x_one (i := 12) (by kernel_rfl) rfl ?_
    refine owp_no rfl rfl rfl rfl (x_go [] ((St.refl nT _ _).lst [] (fun _ h => h.elim)) (by kernel_rfl) ?_)
    refine x_one (i := 18) (by kernel_rfl) rfl ?_
    refine owp_no rfl rfl rfl rfl (x_go [] ((St.refl nT _ _).lst [] (fun _ h => h.elim)) (by kernel_rfl) ?_)
    refine x_pre (fuel := 0) [] [(19, true), (20, true)] (by kernel_rfl) rfl ?_
    refine h_no rfl rfl rfl rfl rfl (h_pt rfl rfl rfl rfl (hwp_nilT ?_))
    refine x_nil (by kernel_rfl) ?_
    obtain ⟨O145, S146, hz148, ha149, h147⟩ := Fnd.shut (x := x0) (l0 := 2) (l1 := 4) (l2 := 5) (l3 := 6) (l4 := 7) (l5 := 8) (by decide) h87 h90 h94 h98 h102 h106 h110 h115 h120 h125 h129 h134 r138 r139
    obtain rfl := sm hy141
    replace hB := (((((hB.st S6).st S9).st S67).st S75).st S86).st S146
    replace h7 := ((((h7.st S9).st S67).st S75).st S86).st S146
    replace h81 := (h81.st S86).st S146
    exact ⟨(), _, ⟨rfl, rfl, rfl, rfl, trivial⟩, hB, h147, h7, h81⟩
   try simp only [c144]
   replace hy141 := im' hy141 c144
   refine hwp_o rfl (hwq_yes rfl rfl (g_mv rfl rfl (hwp_o rfl (hwq_yes rfl rfl (g_nc rfl rfl (hwp_o rfl (hwq_yes rfl rfl (g_fa rfl rfl (hwp_o rfl (hwq_yes rfl rfl (g_laB (hl := rfl) (hb := fun w' ⟨O', hq⟩ => (cellsAt_part 6 3 ((h87.st hq (by decide)).1).cellsAt)) rfl rfl ?_)))))))))))
   refine hwp_o rfl (hwq_yes rfl rfl (g_mv rfl rfl (hwp_o rfl (hwq_yes rfl rfl (g_nc rfl rfl (hwp_o rfl (hwq_yes rfl rfl (g_fa rfl rfl (hwp_o rfl (hwq_yes rfl rfl (g_fa rfl rfl (hwp_o rfl (hwq_yes rfl rfl (g_ldC (hc := fun w' ⟨O', hq⟩ => Blk.cell (i := 2) ((h87.st hq (by decide)).1) rfl) rfl rfl ?_))))))))))))))
   refine hwp_o rfl (hwq_yes rfl rfl (g_mv rfl rfl (hwp_o rfl (hwq_yes rfl rfl (g_nc rfl rfl (hwp_o rfl (hwq_yes rfl rfl (g_fa rfl rfl (hwp_o rfl (hwq_yes rfl rfl (g_fa rfl rfl (hwp_o rfl (hwq_yes rfl rfl (g_ldC (hc := fun w' ⟨O', hq⟩ => Blk.cell (i := 2) ((h87.st hq (by decide)).1) rfl) rfl rfl ?_))))))))))))))
   refine hwp_nilT ?_
   refine x_one (i := 12) (by kernel_rfl) rfl ?_
   refine owp_yes rfl rfl ?_
   obtain ⟨q150, e151, hy141⟩ := bs hy141
   refine l_callS (O := O85) (ls := [5, 6]) (R := fun w' F v => Vb w' F v q150) (c_symmetry_mapped FrS.lt (Vb.ofAgg (cs := [(.slice A116 x0.x.vars.length c117), (.slice A121 x0.x.vals.length c122), (.slice A126 x0.x.ops.length c127)]) (x := x0.x) rfl ⟨_, _, _, rfl, (h115.lend [5, 6] (by decide)), (Vb.subS h120.lend (by decide)), (h125.lend [5, 6])⟩) (h98.lend [5, 6]) e151) rfl rfl fun v156 w152 O153 S154 h155 => ?_
   obtain ⟨A157, c158, rfl⟩ := h155.form
   have hZ := S154.lst [] (fun _ h => h.elim)
   refine x_go [] hZ (by kernel_rfl) ?_
   refine x_one (i := 18) (by kernel_rfl) rfl ?_
   refine owp_yes rfl rfl ?_
   obtain ⟨q159, e160, hy141⟩ := bs hy141
   replace h98 := h98.st S154
   refine l_callA (O := O153) (A := All w152) (R := fun w' F v => Vb w' F v q159) (c_slices_Equal_Lapi_Fact_api_Fact (fun _ h => h) (Vb.mono (F := FrS [5, 6] w152 O153) h155 FrS.lt) (Vb.mono (F := Fr 0 w152 O153) h98 Fr.lt) e160) rfl rfl fun v165 w161 O162 S163 h164 => ?_
   obtain rfl := h164.bool
   have hZ := S163.lst [] (fun _ h => h.elim)
   cases q159
   case false =>
    replace hy141 := iF hy141
    refine x_go [] hZ (by kernel_rfl) ?_
    refine x_pre (fuel := 0) [] [(19, true), (20, true)] (by kernel_rfl) rfl ?_
    refine hwp_o rfl (hwq_yes rfl rfl (g_nf rfl rfl (h_pf rfl rfl rfl rfl (hwp_nilT ?_))))
    refine x_nil (by kernel_rfl) ?_
    replace h87 := (h87.st S154).st S163
    replace h90 := (h90.st S154).st S163
    replace h94 := (h94.st S154).st S163
    replace h98 := h98.st S163
    replace h102 := (h102.st S154).st S163
    replace h106 := (h106.st S154).st S163
    replace h110 := (h110.st S154).st S163
    replace h115 := (h115.st S154).st S163
    replace h120 := (h120.st S154).st S163
    replace h125 := (h125.st S154).st S163
    replace h129 := (h129.st S154).st S163
    replace h134 := (h134.st S154).st S163
    obtain ⟨O166, S167, hz169, ha170, h168⟩ := Fnd.shut (x := x0) (l0 := 2) (l1 := 4) (l2 := 5) (l3 := 6) (l4 := 7) (l5 := 8) (by decide) h87 h90 h94 h98 h102 h106 h110 h115 h120 h125 h129 h134 r138 r139
    obtain rfl := sm hy141
    replace hB := (((((((hB.st S6).st S9).st S67).st S75).st S86).st S154).st S163).st S167
    replace h7 := ((((((h7.st S9).st S67).st S75).st S86).st S154).st S163).st S167
    replace h81 := (((h81.st S86).st S154).st S163).st S167
    exact ⟨(), _, ⟨rfl, rfl, rfl, rfl, trivial⟩, hB, h168, h7, h81⟩
   replace hy141 := iT hy141
   refine x_go [] hZ (by kernel_rfl) ?_
   refine x_pre (fuel := 0) [] [(19, true), (20, true)] (by kernel_rfl) rfl ?_
   refine hwp_o rfl (hwq_yes rfl rfl (g_nt rfl rfl (h_pf rfl rfl rfl rfl (hwp_nilT ?_))))
   refine x_nil (by kernel_rfl) ?_
   replace h87 := (h87.st S154).st S163
   replace h90 := (h90.st S154).st S163
   replace h94 := (h94.st S154).st S163
   replace h98 := h98.st S163
   replace h102 := (h102.st S154).st S163
   replace h106 := (h106.st S154).st S163
   replace h110 := (h110.st S154).st S163
   replace h115 := (h115.st S154).st S163
   replace h120 := (h120.st S154).st S163
   replace h125 := (h125.st S154).st S163
   replace h129 := (h129.st S154).st S163
   replace h134 := (h134.st S154).st S163
   obtain ⟨O171, S172, hz174, ha175, h173⟩ := Fnd.shut (x := x0) (l0 := 2) (l1 := 4) (l2 := 5) (l3 := 6) (l4 := 7) (l5 := 8) (by decide) h87 h90 h94 h98 h102 h106 h110 h115 h120 h125 h129 h134 r138 r139
   obtain rfl := sm hy141
   replace hB := (((((((hB.st S6).st S9).st S67).st S75).st S86).st S154).st S163).st S172
   replace h7 := ((((((h7.st S9).st S67).st S75).st S86).st S154).st S163).st S172
   replace h81 := (((h81.st S86).st S154).st S163).st S172
   exact ⟨(), _, ⟨rfl, rfl, rfl, rfl, trivial⟩, hB, h173, h7, h81⟩
  replace hB := ((((hB.st S6).st S9).st S67).st S75).st S86
  replace h7 := (((h7.st S9).st S67).st S75).st S86
  replace h81 := h81.st S86
  rintro l176 w177 ⟨x143, O178, hs179, hB, h143, h7, h81⟩
  refine ewp_sub _ hs179 ?_
  refine ewp_cond rfl (fun c180 => ?_) (fun c180 => ?_)
  ·
   replace hm := ip hm c180
   refine ewp_seq (ewp_region (o_bd rfl rfl rfl ?_))
   refine l_store h7 rfl rfl rfl (nle_b rfl) (allOne rfl) fun w181 S182 h7 => ?_
   replace h7 : Lc 3 w181 O178 g3 43 [(.slice none 0 0), (.slice none 0 0), (.slice none 0 0)] := h7
   refine o_as rfl rfl (o_z ?_)
   refine ewp_ret ?_
   obtain rfl := sm hm
   replace hB := hB.st S182
   obtain ⟨O', hS', hz, hl⟩ := hE.leave (fun q => if q = 2 then i0 else 0) rfl hB
   replace h143 := h143.st S182
   exact ret2 rfl (res_cell (cs := [(.slice none 0 0), (.slice none 0 0), (.slice none 0 0)]) rfl rfl h7.1.cellsAt) (res_tmp rfl) ⟨O', hS', _, _, (Ob.leave h143 hz (hl 2 (by decide) (by decide)) hx0.2), rfl, (Vb.mono (Vb.ofAgg (cs := [(.slice none 0 0), (.slice none 0 0), (.slice none 0 0)]) (x := (⟨([] : List Int), ([] : List (List Int)), ([] : List Int)⟩ : Swp)) rfl ⟨_, _, _, rfl, (Vb.nil _ _), (Vb.nil _ _), (Vb.nil _ _)⟩) hz), vBool⟩
  replace hm := im' hm c180
  refine ewp_skip (ewp_seq (ewp_region (o_mv rfl rfl (o_mv rfl rfl ?_))))
  obtain ⟨q183, e184, hm⟩ := bs hm
  refine l_callM (O := O178) (c_symmetry_finder_copied h143 h81 e184) rfl rfl fun v189 w185 O186 S187 h188 => ?_
  obtain ⟨h190, h191⟩ := h188
  obtain ⟨cs192, rfl, v193, v194, v195, rfl, h196, h199, h202⟩ := h191
  obtain ⟨A197, c198, rfl⟩ := h196.form
  obtain ⟨A200, c201, rfl⟩ := h199.form
  obtain ⟨A203, c204, rfl⟩ := h202.form
  replace h7 := h7.st S187
  refine l_store h7 rfl rfl rfl (nle_b rfl) (allOne rfl) fun w205 S206 h7 => ?_
  replace h7 : Lc 3 w205 O186 g3 43 [(.slice A197 q183.vars.length c198), (.slice A200 q183.vals.length c201), (.slice A203 q183.ops.length c204)] := h7
  refine o_as rfl rfl (o_z ?_)
  refine ewp_ret ?_
  obtain rfl := sm hm
  replace hB := (hB.st S187).st S206
  obtain ⟨O', hS', hz, hl⟩ := hE.leave (fun q => if q = 2 then i0 else 0) rfl hB
  replace h190 := h190.st S206
  replace h196 := h196.st S206
  replace h199 := h199.st S206
  replace h202 := h202.st S206
  exact ret2 rfl (res_cell (cs := [(.slice A197 q183.vars.length c198), (.slice A200 q183.vals.length c201), (.slice A203 q183.ops.length c204)]) rfl rfl h7.1.cellsAt) (res_tmp rfl) ⟨O', hS', _, _, (Ob.leave h190 hz (hl 2 (by decide) (by decide)) hx0.2), rfl, (Vb.mono (Vb.ofAgg (cs := [(.slice A197 q183.vars.length c198), (.slice A200 q183.vals.length c201), (.slice A203 q183.ops.length c204)]) (x := q183) rfl ⟨_, _, _, rfl, h196, h199, h202⟩) hz), vBool⟩
 replace hm := im hm c65
 refine o_z ?_
 refine ewp_false rfl (ewp_skip (ewp_seq (ewp_seq (ewp_region (o_mv rfl rfl (o_nc rfl rfl (o_fa rfl rfl (o_ld (hc := Blk.cell (i := 4) (h10.1) rfl) rfl rfl ?_))))))))
 refine o_ln rfl rfl ?_
 have l208 : x0.list.length ≤ 9223372036854775807 := Nat.le_trans h29.len.2.1 h29.len.2.2
 have r207 : inI64 (x0.list.length : Int) := rngNat l208
 refine o_mv rfl rfl (o_z ?_)
 obtain ⟨O209, S210, hz212, ha213, h211⟩ := Fnd.shut (x := x0) (l0 := 2) (l1 := 4) (l2 := 5) (l3 := 6) (l4 := 7) (l5 := 8) (by decide) h10 h13 h17 h21 h25 h29 h33 h38 h43 h48 h52 h57 r61 r62
 obtain ⟨res214, hL215, hm⟩ := bs hm
 refine ewp_join (aft res214 (fun (s216 : Fnd) (x217 : Unit) => [(4, (.pointer (some ⟨g3, 0, none⟩)))]) (fun s216 x217 w' => ∃ O' : Lab, Bm w O0 w' O' ∧ Lc 3 w' O' g3 43 [(.slice none 0 0), (.slice none 0 0), (.slice none 0 0)] ∧ Ob 2 w' O' (.pointer (some ⟨p0, 0, none⟩)) s216)) ?_ ?_
 ·
  refine ewp_block ?_
  replace hB := ((hB.st S6).st S9).st S210
  replace h7 := (h7.st S9).st S210
  replace h29 := h29.st S210
  refine ewp_rng (σ := Fnd) (X := Unit) (x0.list.length) hL215 rfl l208 (fun (s216 : Fnd) (x217 : Unit) => [(0, (.pointer (some ⟨p0, 0, none⟩))), (1, (.int .i64 x1)), (4, (.pointer (some ⟨g3, 0, none⟩))), (52, (.slice A30 x0.list.length c31))]) _ (fun s216 x217 w' => ∃ O' : Lab, Bm w O0 w' O' ∧ Ob 2 w' O' (.pointer (some ⟨p0, 0, none⟩)) s216 ∧ Lc 3 w' O' g3 43 [(.slice none 0 0), (.slice none 0 0), (.slice none 0 0)] ∧ Vb w' (Fr 0 w' O') (.slice A30 x0.list.length c31) x0.list) _ () ⟨O209, hB, h211, h7, h29⟩ ⟨rfl, rfl, rfl, rfl, rfl, rfl, trivial⟩ (fun _ _ => ⟨rfl, rfl⟩) (fun _ _ => ⟨rfl, trivial⟩) (fun _ _ _ ⟨O', hB, h230, h7, h29⟩ => ⟨O', hB, h7, h230⟩) ⟨rfl, rfl, rfl⟩ ⟨rfl, rfl⟩ ?_
  rintro k218 a219 s216 x217 w220 cc222 hx223 ⟨O221, hB, h230, h7, h29⟩ hf224 hret225 hbrk226
  have rk218 : inI64 (k218 : Int) := rngK hx223 l208
  refine ewp_seq (ewp_region ?_)
  obtain ⟨b231, o232, ce233, hA234, hl235, hd236, rfl, r238, r239⟩ := h29.elem' hx223
  refine o_iaE (hA := hA234) (hj := rfl) (hlt := hl235) rfl rfl rfl ?_
  refine o_la (hl := rfl) (hc := hd236) rfl rfl ?_
  refine l_alloc 9 O221 rfl fun g240 w241 O242 S243 h244 => ?_
  refine l_store h244 rfl rfl rfl (nle_b rfl) (allOne rfl) fun w245 S246 h244 => ?_
  replace h244 : Lc 9 w245 O242 g240 26 [(.int .i64 a219.var), (.int .i64 a219.val)] := h244
  refine o_z ?_
  refine ewp_seq (ewp_seq (ewp_drawX [(9, [2])] O242 ?_))
  refine x_pre (fuel := 2) [] [(0, true), (1, true), (2, true), (3, true), (4, true), (5, true), (6, true), (7, true), (8, true)] (by kernel_rfl) rfl ?_
  refine h_mv rfl rfl rfl (h_mv rfl rfl rfl (h_nc rfl rfl rfl (h_fa rfl rfl rfl ?_)))
  replace h230 := (h230.st S243).st S246
  obtain ⟨A247, c248, hc249, h250⟩ := Fnd.pk_list h230
  refine h_ldC (hc := fun w' ⟨O', hq⟩ => Fnd.kp h230 hq (by decide) hc249) rfl rfl rfl ?_
  refine h_mv rfl rfl rfl ?_
  obtain ⟨a251, e252, hf224⟩ := bs hf224
  obtain ⟨p254, x253⟩ := atI_some' e252
  obtain ⟨b255, o256, ce257, hA258, hF261, hl259, hd260, rfl, r262, r263⟩ := h250.elem x253
  refine h_iaE (hA := hA258) (hj := (Int.toNat_of_nonneg p254).symm) (hlt := hl259) rfl rfl rfl rfl ?_
  refine h_laB (hl := rfl) (hb := fun w' ⟨O', hq⟩ => (cellsAt_agree (hq.agree (i := 0) (by decide)) hF261 hd260)) rfl rfl rfl ?_
  refine h_laB (hl := rfl) (hb := fun w' ⟨O', hq⟩ => ((h244.st hq (by decide)).1).cellsAt) rfl rfl rfl ?_
  refine hwp_nilT ?_
  refine x_one (i := 9) (by kernel_rfl) rfl ?_
  obtain ⟨q264, e265, hf224⟩ := bs hf224
  refine l_callM (O := O242) (c_symmetry_finder_fits h230 (Vb.ofAgg (cs := [(.int .i64 a251.var), (.int .i64 a251.val)]) (x := a251) rfl ⟨rfl, r262, r263⟩) (Vb.ofAgg (cs := [(.int .i64 a219.var), (.int .i64 a219.val)]) (x := a219) rfl ⟨rfl, r238, r239⟩) e265) rfl rfl fun v270 w266 O267 S268 h269 => ?_
  obtain ⟨h271, h272⟩ := h269
  obtain rfl := h272.bool
  have hZ := S268.lst [2] (fun _ h => by cases h; decide)
  cases q264
  case false =>
   replace hf224 := iF hf224
   refine x_go [] hZ (by kernel_rfl) ?_
   refine x_pre (fuel := 0) [] [(10, true)] (by kernel_rfl) rfl ?_
   refine h_nf rfl rfl rfl (hwp_nilT ?_)
   refine x_nil (by kernel_rfl) ?_
   refine ewp_true rfl (ewp_exit ?_)
   obtain rfl := sm hf224
   replace hB := ((hB.st S243).st S246).st S268
   replace h7 := ((h7.st S243).st S246).st S268
   replace h29 := ((h29.st S243).st S246).st S268
   exact show Exists _ from ⟨_, (), rfl, ⟨rfl, rfl, rfl, rfl, rfl, rfl, trivial⟩, _, hB, h271, h7, h29⟩
  replace hf224 := iT hf224
  refine x_go [] hZ (by kernel_rfl) ?_
  refine x_pre (fuel := 0) [] [(10, true)] (by kernel_rfl) rfl ?_
  refine h_nt rfl rfl rfl (hwp_nilT ?_)
  refine x_nil (by kernel_rfl) ?_
  refine ewp_false rfl (ewp_skip (ewp_seq (ewp_region (o_mv rfl rfl (o_mv rfl rfl ?_)))))
  replace h244 := h244.st S268
  refine o_la (hl := rfl) (hc := (h244.1).cellsAt) rfl rfl ?_
  obtain ⟨q273, e274, hf224⟩ := bs hf224
  refine l_callM (O := O267) (c_stepO hme h271 rx1 (Vb.ofAgg (cs := [(.int .i64 a219.var), (.int .i64 a219.val)]) (x := a219) rfl ⟨rfl, r238, r239⟩) e274) rfl rfl fun v279 w275 O276 S277 h278 => ?_
  obtain ⟨v281, v282, h280, rfl, h283, h284⟩ := h278
  obtain ⟨cs285, rfl, v286, v287, v288, rfl, h289, h292, h295⟩ := h283
  obtain ⟨A290, c291, rfl⟩ := h289.form
  obtain ⟨A293, c294, rfl⟩ := h292.form
  obtain ⟨A296, c297, rfl⟩ := h295.form
  obtain rfl := h284.bool
  refine o_mv rfl rfl (o_ex rfl rfl rfl (o_ex rfl rfl rfl (l_alloc 10 O276 rfl fun g298 w299 O300 S301 h302 => ?_)))
  refine l_store h302 rfl rfl rfl (nle_b rfl) (allOne rfl) fun w303 S304 h302 => ?_
  replace h302 : Lc 10 w303 O300 g298 43 [(.slice A290 q273.1.vars.length c291), (.slice A293 q273.1.vals.length c294), (.slice A296 q273.1.ops.length c297)] := h302
  refine o_as rfl rfl (o_z ?_)
  refine ewp_seq ?_
  obtain ⟨y305, hy306, hf224⟩ := bs hf224
  refine ewp_join (fun l' w' => ∃ (x308 : Unit) (O' : Lab), subs l' [(0, (.pointer (some ⟨p0, 0, none⟩))), (1, (.int .i64 x1)), (4, (.pointer (some ⟨g3, 0, none⟩))), (10, (.pointer (some ⟨g298, 0, none⟩))), (11, (.bool y305.1)), (52, (.slice A30 x0.list.length c31)), (53, (.int .i64 (x0.list.length : Int))), (54, (.int .i64 (k218 : Int))), (82, (.bool y305.2))] ∧ Bm w O0 w' O' ∧ Ob 2 w' O' (.pointer (some ⟨p0, 0, none⟩)) q273.2.2 ∧ Lc 3 w' O' g3 43 [(.slice none 0 0), (.slice none 0 0), (.slice none 0 0)] ∧ Lc 10 w' O' g298 43 [(.slice A290 q273.1.vars.length c291), (.slice A293 q273.1.vals.length c294), (.slice A296 q273.1.ops.length c297)] ∧ Vb w' (Fr 0 w' O') (.slice A290 q273.1.vars.length c291) q273.1.vars ∧ Vb w' (Fr 0 w' O') (.slice A293 q273.1.vals.length c294) q273.1.vals ∧ Vb w' (Fr 0 w' O') (.slice A296 q273.1.ops.length c297) q273.1.ops ∧ Vb w' (Fr 0 w' O') (.slice A30 x0.list.length c31) x0.list) ?_ ?_
  ·
   refine ewp_region (o_mv rfl rfl (o_mv rfl rfl ?_))
   rcases Bool.eq_false_or_eq_true q273.2.1 with c309 | c309
   ·
    try simp only [c309]
    replace hy306 := ip hy306 c309
    refine owp_no rfl rfl rfl rfl (owp_no rfl rfl rfl rfl (owp_no rfl rfl rfl rfl (owp_no rfl rfl rfl rfl (o_pt rfl rfl rfl (o_z ?_)))))
    obtain rfl := sm hy306
    replace hB := (((((hB.st S243).st S246).st S268).st S277).st S301).st S304
    replace h7 := (((((h7.st S243).st S246).st S268).st S277).st S301).st S304
    replace h29 := (((((h29.st S243).st S246).st S268).st S277).st S301).st S304
    replace h280 := (h280.st S301).st S304
    replace h289 := (h289.st S301).st S304
    replace h292 := (h292.st S301).st S304
    replace h295 := (h295.st S301).st S304
    exact ⟨(), _, ⟨rfl, rfl, rfl, rfl, rfl, rfl, rfl, rfl, rfl, trivial⟩, hB, h280, h7, h302, h289, h292, h295, h29⟩
   try simp only [c309]
   replace hy306 := im' hy306 c309
   refine owp_yes rfl rfl (o_mv rfl rfl (owp_yes rfl rfl (o_nc rfl rfl (owp_yes rfl rfl ?_))))
   replace h280 := (h280.st S301).st S304
   obtain ⟨O310, v314, v318, v322, v326, v330, v334, v339, v344, v349, v353, v358, S311, ha313, h312, h315, h319, h323, h327, h331, h335, h340, h345, h350, h354, h359, r363, r364⟩ := Fnd.opn h280 2 4 5 6 7 8 (by decide)
   obtain ⟨A316, c317, rfl⟩ := h315.form
   obtain ⟨A320, c321, rfl⟩ := h319.form
   obtain ⟨A324, c325, rfl⟩ := h323.form
   obtain ⟨A328, c329, rfl⟩ := h327.form
   obtain ⟨A332, c333, rfl⟩ := h331.form
   obtain ⟨A336, c337, rfl⟩ := h335.form
   obtain ⟨A341, c342, rfl⟩ := h340.form
   obtain ⟨A346, c347, rfl⟩ := h345.form
   obtain ⟨A351, c352, rfl⟩ := h350.form
   obtain ⟨A355, c356, rfl⟩ := h354.form
   obtain ⟨A360, c361, rfl⟩ := h359.form
   refine o_fa rfl rfl (owp_yes rfl rfl (o_ld (hc := Blk.cell (i := 13) (h312.1) rfl) rfl rfl ?_))
   refine o_pf rfl rfl rfl (o_z ?_)
   obtain ⟨O365, S366, hz368, ha369, h367⟩ := Fnd.shut (x := q273.2.2) (l0 := 2) (l1 := 4) (l2 := 5) (l3 := 6) (l4 := 7) (l5 := 8) (by decide) h312 h315 h319 h323 h327 h331 h335 h340 h345 h350 h354 h359 r363 r364
   obtain rfl := sm hy306
   replace hB := (((((((hB.st S243).st S246).st S268).st S277).st S301).st S304).st S311).st S366
   replace h7 := (((((((h7.st S243).st S246).st S268).st S277).st S301).st S304).st S311).st S366
   replace h29 := (((((((h29.st S243).st S246).st S268).st S277).st S301).st S304).st S311).st S366
   replace h289 := (((h289.st S301).st S304).st S311).st S366
   replace h292 := (((h292.st S301).st S304).st S311).st S366
   replace h295 := (((h295.st S301).st S304).st S311).st S366
   replace h302 := (h302.st S311).st S366
   exact ⟨(), _, ⟨rfl, rfl, rfl, rfl, rfl, rfl, rfl, rfl, rfl, trivial⟩, hB, h367, h7, h302, h289, h292, h295, h29⟩
  replace hB := (((((hB.st S243).st S246).st S268).st S277).st S301).st S304
  replace h7 := (((((h7.st S243).st S246).st S268).st S277).st S301).st S304
  replace h29 := (((((h29.st S243).st S246).st S268).st S277).st S301).st S304
  replace h280 := (h280.st S301).st S304
  replace h289 := (h289.st S301).st S304
  replace h292 := (h292.st S301).st S304
  replace h295 := (h295.st S301).st S304
  rintro l370 w371 ⟨x308, O372, hs373, hB, h280, h7, h302, h289, h292, h295, h29⟩
  refine ewp_sub _ hs373 ?_
  refine ewp_cond rfl (fun c374 => ?_) (fun c374 => ?_)
  ·
   replace hf224 := ip hf224 c374
   refine ewp_seq (ewp_region (o_la (hl := rfl) (hc := (h302.1).cellsAt) rfl rfl ?_))
   refine o_mv rfl rfl (l_store h7 rfl rfl rfl (nle_b rfl) (allOne rfl) fun w375 S376 h7 => ?_)
   replace h7 : Lc 3 w375 O372 g3 43 [(.slice A290 q273.1.vars.length c291), (.slice A293 q273.1.vals.length c294), (.slice A296 q273.1.ops.length c297)] := h7
   refine o_as rfl rfl (o_z ?_)
   refine ewp_ret ?_
   obtain rfl := sm hf224
   obtain rfl := hret225 _ rfl
   obtain rfl := sm (fin_ret hm)
   replace hB := hB.st S376
   obtain ⟨O', hS', hz, hl⟩ := hE.leave (fun q => if q = 2 then i0 else 0) rfl hB
   replace h280 := h280.st S376
   replace h289 := h289.st S376
   replace h292 := h292.st S376
   replace h295 := h295.st S376
   exact ret2 rfl (res_cell (cs := [(.slice A290 q273.1.vars.length c291), (.slice A293 q273.1.vals.length c294), (.slice A296 q273.1.ops.length c297)]) rfl rfl h7.1.cellsAt) (res_tmp rfl) ⟨O', hS', _, _, (Ob.leave h280 hz (hl 2 (by decide) (by decide)) hx0.2), rfl, (Vb.mono (Vb.ofAgg (cs := [(.slice A290 q273.1.vars.length c291), (.slice A293 q273.1.vals.length c294), (.slice A296 q273.1.ops.length c297)]) (x := q273.1) rfl ⟨_, _, _, rfl, h289, h292, h295⟩) hz), vBool⟩
  replace hf224 := im' hf224 c374
  refine ewp_skip ?_
  obtain rfl := sm hf224
  exact show Exists _ from ⟨_, (), rfl, ⟨rfl, rfl, rfl, rfl, rfl, rfl, trivial⟩, _, hB, h280, h7, h29⟩
 replace hB := ((hB.st S6).st S9).st S210
 replace h7 := (h7.st S9).st S210
 rintro l377 w378 ⟨s381, x382, rfl, hs380, O379, hB, h7, h230⟩
 replace hm := fin_done hm
 refine ewp_sub _ hs380 ?_
 refine ewp_seq (ewp_region (o_bd rfl rfl rfl ?_))
 refine l_store h7 rfl rfl rfl (nle_b rfl) (allOne rfl) fun w383 S384 h7 => ?_
 replace h7 : Lc 3 w383 O379 g3 43 [(.slice none 0 0), (.slice none 0 0), (.slice none 0 0)] := h7
 refine o_as rfl rfl (o_z ?_)
 refine ewp_ret ?_
 obtain rfl := sm hm
 replace hB := hB.st S384
 obtain ⟨O', hS', hz, hl⟩ := hE.leave (fun q => if q = 2 then i0 else 0) rfl hB
 replace h230 := h230.st S384
 exact ret2 rfl (res_cell (cs := [(.slice none 0 0), (.slice none 0 0), (.slice none 0 0)]) rfl rfl h7.1.cellsAt) (res_tmp rfl) ⟨O', hS', _, _, (Ob.leave h230 hz (hl 2 (by decide) (by decide)) hx0.2), rfl, (Vb.mono (Vb.ofAgg (cs := [(.slice none 0 0), (.slice none 0 0), (.slice none 0 0)]) (x := (⟨([] : List Int), ([] : List (List Int)), ([] : List Int)⟩ : Swp)) rfl ⟨_, _, _, rfl, (Vb.nil _ _), (Vb.nil _ _), (Vb.nil _ _)⟩) hz), vBool⟩
end
section
open Go Go.RowKit
attribute [local irreducible] ewp owp hwp hwq Ev Evg Fn retPost Res1
noncomputable def mxE : Nat → MeT
  | 0 => fun _ _ => none
  | d + 1 => m_extendO (mxE d)
theorem c_mxE : ∀ d, MeC (mxE d)
  | 0 => fun _ _ _ _ hm => nomatch hm
  | d + 1 => fun hx0 _ r1 _ hm => c_extendO (c_mxE d) hx0 r1 hm
noncomputable def m_symmetry_finder_step (x0 : Fnd) (x1 : Int) (x2 : Fct) : Option (Swp × Bool × Fnd) := m_stepO (mxE (x0.list.length + 1)) x0 x1 x2
theorem c_symmetry_finder_step {w : World} {O : Lab} {p0 i0 : Nat} {x0 : Fnd} (hx0 : Ob i0 w O (.pointer (some ⟨p0, 0, none⟩)) x0) {x1 : Int} (rx1 : inI64 x1) {vx2 : Value} {x2 : Fct} (hx2 : Vb w (Fr 0 w O) vx2 x2) {r : Swp × Bool × Fnd} (hm : m_symmetry_finder_step x0 x1 x2 = some r) :
    Fn Tryz.prog 42 [(.pointer (some ⟨p0, 0, none⟩)), (.int .i64 x1), vx2] w fun v w' => ∃ O', St (eT i0) w O w' O' ∧ ∃ v0 v1 : Value, Ob i0 w' O' (.pointer (some ⟨p0, 0, none⟩)) r.2.2 ∧ v = .tuple #[v0, v1] ∧ Vb w' (Fr 0 w' O') v0 r.1 ∧ Vb w' (Fr 0 w' O') v1 r.2.1 :=
  c_stepO (c_mxE _) hx0 rx1 hx2 hm
noncomputable def m_symmetry_orbit (x0 : List Swp) (x1 : Fct) : Option (MapF Bool) :=
  bnd (lop (ρ := (MapF Bool)) (fun (s30 : (List Fct) × Int × (MapF Bool)) => if s30.2.1 < (s30.1.length : Int) then (bnd (rng (ρ := Ctl ((List Fct) × Int × (MapF Bool)) (MapF Bool)) (fun (k60 : Nat) (a61 : Swp) (s58 : (List Fct) × (MapF Bool)) => bnd (atI s58.1 s30.2.1) fun a103 => bnd (atI a61.vars a103.var) fun a116 => bnd (atI s58.1 s30.2.1) fun a128 => bnd (atI a61.vals a128.var) fun a141 => bnd (atI s58.1 s30.2.1) fun a156 => bnd (atI a141 a156.val) fun a169 => if (!(fget false s58.2.l (⟨a116, a169⟩ : Fct))) = true then (bnd (appI 16 s58.1 [(⟨a116, a169⟩ : Fct)]) fun u196 => some (.next (u196, (⟨fput s58.2.l (⟨a116, a169⟩ : Fct) true⟩ : MapF Bool)))) else (some (.next (s58.1, s58.2)))) x0 0 (s30.1, s30.2.2)) fun res56 => fin res56 fun (s212 : (List Fct) × (MapF Bool)) => bnd (chkI (s30.2.1 + 1)) fun n214 => some (.next (s212.1, n214, s212.2))) else (some (.brk (s30.1, s30.2.1, s30.2.2)))) ([x1], 0, (⟨fput (⟨[]⟩ : MapF Bool).l x1 true⟩ : MapF Bool))) fun res28 => fin res28 fun (s221 : (List Fct) × Int × (MapF Bool)) => some s221.2.2
theorem c_symmetry_orbit {w : World} {O : Lab} {vx0 : Value} {x0 : List Swp} (hx0 : Vb w (Fr 0 w O) vx0 x0) {vx1 : Value} {x1 : Fct} (hx1 : Vb w (Fr 0 w O) vx1 x1) (j0 : Nat) (hj0 : j0 ≠ 0) {r : (MapF Bool)} (hm : m_symmetry_orbit x0 x1 = some r) :
    Fn Tryz.prog 41 [vx0, vx1] w fun v w' => ∃ O', St nT w O w' O' ∧ Ob j0 w' O' v (r : MapF Bool) := by
 obtain ⟨O0, hE, hz0⟩ := ent0 (w := w) (O := O)
 have hB : Bm w O0 w O0 := Bm.refl
 replace hx0 := hx0.mono hz0
 obtain ⟨A3, c4, rfl⟩ := hx0.form
 replace hx1 := hx1.mono hz0
 obtain ⟨cs5, rfl, rfl, r6, r7⟩ := hx1
 refine fn_enter Tryz.func41 rfl Tryz.ntmps41 rfl ?_
 unfold m_symmetry_orbit at hm
 refine ewp_seq (ewp_region (l_box 2 O0 rfl rfl fun g8 w9 O10 S11 h12 => ?_))
 replace h12 : Lc 2 w9 O10 g8 26 [(.int .i64 x1.var), (.int .i64 x1.val)] := h12
 refine o_as rfl rfl (o_z ?_)
 refine ewp_seq (ewp_region (l_mkmapF (V := Bool) 3 (by decide) O10 rfl fun p13 w14 O15 S16 h17 => ?_))
 replace h12 := h12.st S16
 refine o_la (hl := rfl) (hc := (h12.1).cellsAt) rfl rfl ?_
 refine l_ins ?_
 refine l_mputF (a := x1) (b := true) h17 vBool rfl rfl rfl fun w18 S20 h21 => ?_
 refine o_mv rfl rfl (o_as rfl rfl (o_z ?_))
 refine ewp_seq (ewp_region ?_)
 replace h12 := h12.st S20
 refine o_la (hl := rfl) (hc := (h12.1).cellsAt) rfl rfl ?_
 refine l_bslice 4 (by decide) O15 (xs := ([x1] : List Fct)) rfl rfl rfl rfl ⟨(Vb.ofAgg (cs := [(.int .i64 x1.var), (.int .i64 x1.val)]) (x := x1) rfl ⟨rfl, r6, r7⟩), trivial⟩ (by decide) (by decide) rfl fun g22 w23 O24 S25 h26 => ?_
 refine o_as rfl rfl (o_z ?_)
 refine ewp_seq (ewp_seq (ewp_region (o_as rfl rfl (o_z ?_))))
 obtain ⟨res28, hL29, hm⟩ := bs hm
 refine ewp_join (aft res28 (fun (s30 : (List Fct) × Int × (MapF Bool)) (x31 : (Option Addr × Nat)) => [(5, (.map (some p13)))]) (fun s30 x31 w' => ∃ O' : Lab, Bm w O0 w' O' ∧ Ob 3 w' O' (.map (some p13)) s30.2.2 ∧ inI64 s30.2.1)) ?_ ?_
 ·
  refine ewp_block ?_
  replace hx0 := (((hx0.st S11).st S16).st S20).st S25
  replace hB := (((hB.st S11).st S16).st S20).st S25
  replace h21 := h21.st S25
  refine ewp_lop (σ := (List Fct) × Int × (MapF Bool)) (X := (Option Addr × Nat)) hL29 (fun (s30 : (List Fct) × Int × (MapF Bool)) (x31 : (Option Addr × Nat)) => [(0, (.slice A3 x0.length c4)), (5, (.map (some p13))), (6, (.slice x31.1 s30.1.length x31.2)), (7, (.int .i64 s30.2.1))]) _ (fun s30 x31 w' => ∃ O' : Lab, Bm w O0 w' O' ∧ Vb w' (Fr 0 w' O') (.slice A3 x0.length c4) x0 ∧ Ob 3 w' O' (.map (some p13)) s30.2.2 ∧ Rw 4 w' O' 26 (.slice x31.1 s30.1.length x31.2) s30.1 ∧ inI64 s30.2.1) _ ((some ⟨g22, 0, none⟩), 1) ⟨O24, hB, hx0, h21, h26, (show inI64 (0) from by decide)⟩ ⟨rfl, rfl, rfl, rfl, trivial⟩ ?_
  rintro s30 x31 w34 cc36 ⟨O35, hB, hx0, h50, h47, r49⟩ hf38 hret39 hbrk40
  refine ewp_seq (ewp_seq (ewp_region (o_mv rfl rfl (o_mv rfl rfl (o_ln rfl rfl ?_)))))
  have l52 : s30.1.length ≤ 9223372036854775807 := Nat.le_trans h47.len.2.1 h47.len.2.2
  have r51 : inI64 (s30.1.length : Int) := rngNat l52
  refine o_ltS rfl rfl rfl (fun c53 => ?_) fun c53 => ?_
  ·
   replace hf38 := ip hf38 c53
   refine o_z ?_
   refine ewp_true rfl (ewp_skip (ewp_seq (ewp_block (ewp_seq (ewp_region (o_mv rfl rfl (o_ln rfl rfl ?_)))))))
   have l55 : x0.length ≤ 9223372036854775807 := Nat.le_trans hx0.len.2.1 hx0.len.2.2
   have r54 : inI64 (x0.length : Int) := rngNat l55
   refine o_mv rfl rfl (o_z ?_)
   obtain ⟨res56, hL57, hf38⟩ := bs hf38
   refine ewp_join (aft res56 (fun (s58 : (List Fct) × (MapF Bool)) (x59 : (Option Addr × Nat)) => [(0, (.slice A3 x0.length c4)), (5, (.map (some p13))), (6, (.slice x59.1 s58.1.length x59.2)), (7, (.int .i64 s30.2.1))]) (fun s58 x59 w' => ∃ O' : Lab, Bm w O0 w' O' ∧ Vb w' (Fr 0 w' O') (.slice A3 x0.length c4) x0 ∧ Ob 3 w' O' (.map (some p13)) s58.2 ∧ Rw 4 w' O' 26 (.slice x59.1 s58.1.length x59.2) s58.1)) ?_ ?_
   ·
    refine ewp_block (ewp_rng (σ := (List Fct) × (MapF Bool)) (X := (Option Addr × Nat)) (x0.length) hL57 rfl l55 (fun (s58 : (List Fct) × (MapF Bool)) (x59 : (Option Addr × Nat)) => [(0, (.slice A3 x0.length c4)), (5, (.map (some p13))), (6, (.slice x59.1 s58.1.length x59.2)), (7, (.int .i64 s30.2.1)), (22, (.slice A3 x0.length c4))]) _ (fun s58 x59 w' => ∃ O' : Lab, Bm w O0 w' O' ∧ Vb w' (Fr 0 w' O') (.slice A3 x0.length c4) x0 ∧ Ob 3 w' O' (.map (some p13)) s58.2 ∧ Rw 4 w' O' 26 (.slice x59.1 s58.1.length x59.2) s58.1) _ (x31.1, x31.2) ⟨O35, hB, hx0, h50, h47⟩ ⟨rfl, rfl, rfl, rfl, rfl, rfl, rfl, trivial⟩ (fun _ _ => ⟨rfl, rfl⟩) (fun _ _ => ⟨rfl, rfl, rfl, rfl, trivial⟩) (fun _ _ _ ⟨O', hB, hx0, h76, h74⟩ => ⟨O', hB, hx0, h76, h74⟩) ⟨rfl, rfl, rfl⟩ ⟨rfl, rfl⟩ ?_)
    rintro k60 a61 s58 x59 w62 cc64 hx65 ⟨O63, hB, hx0, h76, h74⟩ hf66 hret67 hbrk68
    have rk60 : inI64 (k60 : Int) := rngK hx65 l55
    refine ewp_seq (ewp_region ?_)
    obtain ⟨b77, o78, ce79, hA80, hl81, hd82, v84, v85, v86, rfl, h87, h90, h93⟩ := hx0.elem' hx65
    obtain ⟨A88, c89, rfl⟩ := h87.form
    obtain ⟨A91, c92, rfl⟩ := h90.form
    obtain ⟨A94, c95, rfl⟩ := h93.form
    refine o_iaE (hA := hA80) (hj := rfl) (hlt := hl81) rfl rfl rfl ?_
    refine o_la (hl := rfl) (hc := hd82) rfl rfl ?_
    refine l_alloc 5 O63 rfl fun g96 w97 O98 S99 h100 => ?_
    refine l_store h100 rfl rfl rfl (nle_b rfl) (allOne rfl) fun w101 S102 h100 => ?_
    replace h100 : Lc 5 w101 O98 g96 43 [(.slice A88 a61.vars.length c89), (.slice A91 a61.vals.length c92), (.slice A94 a61.ops.length c95)] := h100
    refine o_z ?_
    refine ewp_seq (ewp_drawX [] O98 ?_)
    refine x_pre (fuel := 2) [] [(0, true), (1, true), (2, true), (3, true), (4, true), (5, true), (6, true), (7, true), (8, true), (9, true), (10, true), (11, true), (12, true), (13, true), (14, true), (15, true), (16, true), (17, true), (18, true), (19, true), (20, true), (21, true), (22, true), (23, true), (24, true), (25, true)] (by kernel_rfl) rfl ?_
    refine h_fa rfl rfl rfl (h_ldC (hc := fun w' ⟨O', hq⟩ => Blk.cell (i := 0) ((h100.st hq (by decide)).1) rfl) rfl rfl rfl ?_)
    refine h_mv rfl rfl rfl (h_mv rfl rfl rfl ?_)
    obtain ⟨a103, e104, hf66⟩ := bs hf66
    obtain ⟨p106, x105⟩ := atI_some' e104
    replace h74 := (h74.st S99).st S102
    obtain ⟨b107, o108, ce109, hA110, hF113, hl111, hd112, rfl, r114, r115⟩ := h74.elemF x105
    refine h_iaE (hA := hA110) (hj := (Int.toNat_of_nonneg p106).symm) (hlt := hl111) rfl rfl rfl rfl ?_
    refine h_fa rfl rfl rfl (h_ldC (hc := fun w' ⟨O', hq⟩ => cat0 (cellsAt_agree (hq.agree (i := 4) (by decide)) hF113 hd112)) rfl rfl rfl ?_)
    obtain ⟨a116, e117, hf66⟩ := bs hf66
    obtain ⟨p119, x118⟩ := atI_some' e117
    replace h87 := (h87.st S99).st S102
    obtain ⟨b120, o121, ce122, hA123, hF126, hl124, hd125, rfl, r127⟩ := h87.elem x118
    refine h_iaE (hA := hA123) (hj := (Int.toNat_of_nonneg p119).symm) (hlt := hl124) rfl rfl rfl rfl ?_
    refine h_ldC (hc := fun w' ⟨O', hq⟩ => cat0 (cellsAt_agree (hq.agree (i := 0) (by decide)) hF126 hd125)) rfl rfl rfl ?_
    refine h_fa rfl rfl rfl (h_ldC (hc := fun w' ⟨O', hq⟩ => Blk.cell (i := 1) ((h100.st hq (by decide)).1) rfl) rfl rfl rfl ?_)
    refine h_mv rfl rfl rfl (h_mv rfl rfl rfl ?_)
    obtain ⟨a128, e129, hf66⟩ := bs hf66
    obtain ⟨p131, x130⟩ := atI_some' e129
    obtain ⟨b132, o133, ce134, hA135, hF138, hl136, hd137, rfl, r139, r140⟩ := h74.elemF x130
    refine h_iaE (hA := hA135) (hj := (Int.toNat_of_nonneg p131).symm) (hlt := hl136) rfl rfl rfl rfl ?_
    refine h_fa rfl rfl rfl (h_ldC (hc := fun w' ⟨O', hq⟩ => cat0 (cellsAt_agree (hq.agree (i := 4) (by decide)) hF138 hd137)) rfl rfl rfl ?_)
    obtain ⟨a141, e142, hf66⟩ := bs hf66
    obtain ⟨p144, x143⟩ := atI_some' e142
    replace h90 := (h90.st S99).st S102
    obtain ⟨b145, o146, ce147, hA148, hF151, hl149, hd150, v152, rfl, h153⟩ := h90.elem x143
    replace h153 := Vb.of_slice h153
    obtain ⟨A154, c155, rfl⟩ := h153.form
    refine h_iaE (hA := hA148) (hj := (Int.toNat_of_nonneg p144).symm) (hlt := hl149) rfl rfl rfl rfl ?_
    refine h_ldC (hc := fun w' ⟨O', hq⟩ => cat0 (cellsAt_agree (hq.agree (i := 0) (by decide)) hF151 hd150)) rfl rfl rfl ?_
    refine h_mv rfl rfl rfl (h_mv rfl rfl rfl ?_)
    obtain ⟨a156, e157, hf66⟩ := bs hf66
    obtain ⟨p159, x158⟩ := atI_some' e157
    obtain ⟨b160, o161, ce162, hA163, hF166, hl164, hd165, rfl, r167, r168⟩ := h74.elemF x158
    refine h_iaE (hA := hA163) (hj := (Int.toNat_of_nonneg p159).symm) (hlt := hl164) rfl rfl rfl rfl ?_
    refine h_fa rfl rfl rfl (h_ldC (hc := fun w' ⟨O', hq⟩ => cat1 (cellsAt_agree (hq.agree (i := 4) (by decide)) hF166 hd165)) rfl rfl rfl ?_)
    obtain ⟨a169, e170, hf66⟩ := bs hf66
    obtain ⟨p172, x171⟩ := atI_some' e170
    obtain ⟨b173, o174, ce175, hA176, hF179, hl177, hd178, rfl, r180⟩ := h153.elem x171
    refine h_iaE (hA := hA176) (hj := (Int.toNat_of_nonneg p172).symm) (hlt := hl177) rfl rfl rfl rfl ?_
    refine h_ldC (hc := fun w' ⟨O', hq⟩ => cat0 (cellsAt_agree (hq.agree (i := 0) (by decide)) hF179 hd178)) rfl rfl rfl ?_
    refine h_bd rfl rfl rfl rfl ?_
    refine hwp_nilT ?_
    refine x_one (i := 26) (by kernel_rfl) rfl ?_
    refine l_alloc 6 O98 rfl fun g181 w182 O183 S184 h185 => ?_
    have hZ := S184.lst [] (fun _ h => h.elim)
    refine x_go [] hZ (by kernel_rfl) ?_
    refine x_one (i := 27) (by kernel_rfl) rfl ?_
    refine l_store h185 rfl rfl rfl (nle_b rfl) (allOne rfl) fun w186 S187 h185 => ?_
    replace h185 : Lc 6 w186 O183 g181 26 [(.int .i64 a116), (.int .i64 a169)] := h185
    refine x_end (by kernel_rfl) ?_
    refine x_nil (by kernel_rfl) ?_
    refine ewp_seq (ewp_region (o_mv rfl rfl (o_la (hl := rfl) (hc := (h185.1).cellsAt) rfl rfl ?_)))
    replace h76 := (((h76.st S99).st S102).st S184).st S187
    obtain ⟨v190, hl188, h189⟩ := MapF.get h76 (⟨a116, a169⟩ : Fct) vBool
    obtain rfl := h189.bool
    refine o_lkF (⟨a116, a169⟩ : Fct) hl188 rfl rfl rfl ?_
    refine o_nn rfl rfl (o_z ?_)
    refine ewp_cond rfl (fun c191 => ?_) (fun c191 => ?_)
    ·
     replace hf66 := ip hf66 c191
     refine ewp_seq (ewp_region (o_mv rfl rfl (o_la (hl := rfl) (hc := (h185.1).cellsAt) rfl rfl ?_)))
     refine l_mputF (a := (⟨a116, a169⟩ : Fct)) (b := true) h76 vBool rfl rfl rfl fun w192 S194 h195 => ?_
     refine o_z ?_
     refine ewp_region (o_mv rfl rfl ?_)
     replace h185 := h185.st S194
     refine o_la (hl := rfl) (hc := (h185.1).cellsAt) rfl rfl ?_
     obtain ⟨u196, e197, hf66⟩ := bs hf66
     obtain ⟨e197, e198, e199⟩ := appI_some e197
     replace h74 := ((h74.st S184).st S187).st S194
     refine l_append1 rfl (a := (⟨a116, a169⟩ : Fct)) h74 (Vb.ofAgg (cs := [(.int .i64 a116), (.int .i64 a169)]) (x := (⟨a116, a169⟩ : Fct)) rfl ⟨rfl, r127, r180⟩) (fun _ => rfl) rfl (by decide) (by decide) e198 e199 ⟨rfl, rfl⟩ fun g200 A201 c202 w203 O204 S205 h206 => ?_
     rw [← e197] at h206 ⊢
     refine o_as rfl rfl (o_z ?_)
     obtain rfl := sm hf66
     replace hx0 := (((((hx0.st S99).st S102).st S184).st S187).st S194).st S205
     replace hB := (((((hB.st S99).st S102).st S184).st S187).st S194).st S205
     replace h195 := h195.st S205
     exact show Exists _ from ⟨_, (A201, c202), rfl, ⟨rfl, rfl, rfl, rfl, rfl, rfl, rfl, trivial⟩, _, hB, hx0, h195, h206⟩
    replace hf66 := im' hf66 c191
    refine ewp_skip ?_
    obtain rfl := sm hf66
    replace hx0 := (((hx0.st S99).st S102).st S184).st S187
    replace hB := (((hB.st S99).st S102).st S184).st S187
    replace h74 := (h74.st S184).st S187
    exact show Exists _ from ⟨_, (x59.1, x59.2), rfl, ⟨rfl, rfl, rfl, rfl, rfl, rfl, rfl, trivial⟩, _, hB, hx0, h76, h74⟩
   rintro l208 w209 ⟨s212, x213, rfl, hs211, O210, hB, hx0, h76, h74⟩
   replace hf38 := fin_done hf38
   refine ewp_sub _ hs211 ?_
   refine ewp_region (o_mv rfl rfl ?_)
   obtain ⟨n214, e215, hf38⟩ := bs hf38
   have r216 := (chkI_rng e215)
   refine o_adE (he := e215) rfl rfl rfl ?_
   refine o_as rfl rfl (o_z ?_)
   obtain rfl := sm hf38
   exact show Exists _ from ⟨_, (x213.1, x213.2), rfl, ⟨rfl, rfl, rfl, rfl, trivial⟩, _, hB, hx0, h76, h74, r216⟩
  replace hf38 := im hf38 c53
  refine o_z ?_
  refine ewp_false rfl (ewp_exit ?_)
  obtain rfl := sm hf38
  exact show Exists _ from ⟨_, (x31.1, x31.2), hbrk40 _ rfl, ⟨rfl, trivial⟩, _, hB, h50, r49⟩
 replace hB := (((hB.st S11).st S16).st S20).st S25
 rintro l217 w218 ⟨s221, x222, rfl, hs220, O219, hB, h50, r49⟩
 replace hm := fin_done hm
 refine ewp_sub _ hs220 ?_
 refine ewp_seq (ewp_region (o_mv rfl rfl (o_as rfl rfl (o_z ?_))))
 refine ewp_ret ?_
 obtain rfl := sm hm
 obtain ⟨O', hS', hz, hl⟩ := hE.leave (fun q => if q = 3 then j0 else 0) rfl hB
 exact ret1v rfl (res_tmp rfl) ⟨O', hS', (Ob.leave h50 hz (hl 3 (by decide) (by decide)) hj0)⟩
noncomputable def m_symmetry_finder_level (x0 : Fnd) (x1 : Int) (x2 : List Swp) : Option ((List Swp) × Fnd) :=
  bnd (natI x1) fun N17 => bnd (rngN (ρ := (List Swp) × Fnd) (fun (k8 : Nat) (s6 : Fnd) => bnd (s6.list[k8]?) fun a25 => bnd (s6.list[k8]?) fun a40 => bnd (m_symmetry_finder_choose s6 a25 a40) fun q51 => some (.next q51.2)) N17 x0) fun res4 => fin res4 fun (s64 : Fnd) => bnd (rng (ρ := (List Swp) × Fnd) (fun (k132 : Nat) (a133 : Fct) (s130 : (List Swp) × Fnd) => bnd (bnd (atI s130.2.list x1) fun a173 => bnd (m_symmetry_finder_fits s130.2 a173 a133) fun q186 => if q186 = true then bnd (atI s130.2.list x1) fun a199 => bnd (m_symmetry_orbit s130.1 a199) fun q212 => some (fget false q212.l a133) else some true : Option Bool) fun y165 => if y165 = true then (some (.next (s130.1, s130.2))) else (bnd (m_symmetry_finder_step s130.2 x1 a133) fun q229 => bnd (if q229.2.1 = true then (bnd (appI 72 s130.1 [q229.1]) fun u268 => some u268) else (some s130.1) : Option (List Swp)) fun y261 => if q229.2.2.full = true then (some (.brk (y261, q229.2.2))) else (some (.next (y261, q229.2.2))))) s64.list 0 (x2, s64)) fun res128 => fin res128 fun (s354 : (List Swp) × Fnd) => bnd (chkI (x1 - 1)) fun n356 => bnd (lop (ρ := (List Swp) × Fnd) (fun (s361 : Int × Fnd) => if 0 ≤ s361.1 then (bnd (bnd (atI s361.2.list s361.1) fun a439 => if a439.val = 0 then (bnd (m_symmetry_finder_undo s361.2 a439 a439 true) fun q465 => some q465) else (bnd (m_symmetry_finder_undo s361.2 a439 a439 false) fun q478 => some q478) : Option Fnd) fun y379 => bnd (chkI (s361.1 - 1)) fun n490 => some (.next (n490, y379))) else (some (.brk (s361.1, s361.2)))) (n356, s354.2)) fun res359 => fin res359 fun (s497 : Int × Fnd) => some (s354.1, s497.2)
theorem c_symmetry_finder_level {w : World} {O : Lab} {p0 i0 : Nat} {x0 : Fnd} (hx0 : Ob i0 w O (.pointer (some ⟨p0, 0, none⟩)) x0) {x1 : Int} (rx1 : inI64 x1) {A2 : Option Addr} {m2 c2 i1 : Nat} {x2 : List Swp} (hx2 : Rw i1 w O 43 (.slice A2 m2 c2) x2) (hne : i0 ≠ i1) {r : (List Swp) × Fnd} (hm : m_symmetry_finder_level x0 x1 x2 = some r) :
    Fn Tryz.prog 21 [(.pointer (some ⟨p0, 0, none⟩)), (.int .i64 x1), (.slice A2 m2 c2)] w fun v w' => ∃ O', St (fun j => j = i0 ∨ j = i1) w O w' O' ∧ Ob i0 w' O' (.pointer (some ⟨p0, 0, none⟩)) r.2 ∧ Rw i1 w' O' 43 v r.1 := by
 obtain ⟨O0, hE, hz0, hl2, hl3⟩ := ent2 (w := w) (O := O) hne hx0.2 hx2.2.2
 have hx0' := Ob.leave hx0 hz0 hl2 (j := 2) (by decide)
 obtain rfl : m2 = x2.length := hx2.len.1
 have hx2' := Rw.leave hx2 hz0 hl3 (j := 3) (by decide)
 have hB : Bm w O0 w O0 := Bm.refl
 refine fn_enter Tryz.func21 rfl Tryz.ntmps21 rfl ?_
 unfold m_symmetry_finder_level at hm
 refine ewp_seq (ewp_region (o_as rfl rfl (o_z ?_)))
 refine ewp_seq (ewp_seq (ewp_region (o_mv rfl rfl (o_mv rfl rfl (o_z ?_)))))
 obtain ⟨N17, hN18, hm⟩ := bs hm
 replace hN18 := natI_some hN18
 obtain ⟨res4, hL5, hm⟩ := bs hm
 refine ewp_join (aft res4 (fun (s6 : Fnd) (x7 : Unit) => [(0, (.pointer (some ⟨p0, 0, none⟩))), (1, (.int .i64 x1)), (2, (.slice A2 x2.length c2))]) (fun s6 x7 w' => ∃ O' : Lab, Bm w O0 w' O' ∧ Ob 2 w' O' (.pointer (some ⟨p0, 0, none⟩)) s6 ∧ Rw 3 w' O' 43 (.slice A2 x2.length c2) x2)) ?_ ?_
 ·
  refine ewp_block (ewp_rngN (σ := Fnd) (X := Unit) N17 hL5 (natI_le hN18 rx1) (fun (s6 : Fnd) (x7 : Unit) => [(0, (.pointer (some ⟨p0, 0, none⟩))), (1, (.int .i64 x1)), (2, (.slice A2 x2.length c2))]) _ (fun s6 x7 w' => ∃ O' : Lab, Bm w O0 w' O' ∧ Ob 2 w' O' (.pointer (some ⟨p0, 0, none⟩)) s6 ∧ Rw 3 w' O' 43 (.slice A2 x2.length c2) x2) _ () ⟨O0, hB, hx0', hx2'⟩ ⟨rfl, (congrArg (fun z => some (Value.int .i64 z)) hN18), rfl, rfl, rfl, trivial⟩ (fun _ _ => ⟨rfl, rfl⟩) (fun _ _ => ⟨rfl, rfl, rfl, trivial⟩) (fun _ _ _ ⟨O', hB, h20, hx2'⟩ => ⟨O', hB, h20, hx2'⟩) ⟨rfl, rfl, rfl⟩ ⟨rfl, rfl⟩ ?_)
  rintro k8 s6 x7 w10 cc12 hx13 ⟨O11, hB, h20, hx2'⟩ hf14 hret15 hbrk16
  have rk8 : inI64 (k8 : Int) := rngKN hx13 (natI_le hN18 rx1)
  refine ewp_seq (ewp_region (o_mv rfl rfl (o_as rfl rfl (o_z ?_))))
  refine ewp_drawX [] O11 ?_
  refine x_pre (fuel := 1) [] [(0, true), (1, true), (2, true), (3, true), (4, true), (5, true), (6, true), (7, true), (8, true), (9, true), (10, true), (11, true), (12, true), (13, true), (14, true)] (by kernel_rfl) rfl ?_
  refine h_mv rfl rfl rfl (h_mv rfl rfl rfl (h_nc rfl rfl rfl (h_fa rfl rfl rfl ?_)))
  obtain ⟨A21, c22, hc23, h24⟩ := Fnd.pk_list h20
  refine h_ldC (hc := fun w' ⟨O', hq⟩ => Fnd.kp h20 hq (by decide) hc23) rfl rfl rfl ?_
  refine h_mv rfl rfl rfl ?_
  obtain ⟨a25, e26, hf14⟩ := bs hf14
  obtain ⟨b27, o28, ce29, hA30, hF33, hl31, hd32, rfl, r34, r35⟩ := h24.elem e26
  refine h_iaE (hA := hA30) (hj := rfl) (hlt := hl31) rfl rfl rfl rfl ?_
  refine h_laB (hl := rfl) (hb := fun w' ⟨O', hq⟩ => (cellsAt_agree (hq.agree (i := 0) (by decide)) hF33 hd32)) rfl rfl rfl ?_
  refine h_mv rfl rfl rfl (h_nc rfl rfl rfl (h_fa rfl rfl rfl ?_))
  obtain ⟨A36, c37, hc38, h39⟩ := Fnd.pk_list h20
  refine h_ldC (hc := fun w' ⟨O', hq⟩ => Fnd.kp h20 hq (by decide) hc38) rfl rfl rfl ?_
  refine h_mv rfl rfl rfl ?_
  obtain ⟨a40, e41, hf14⟩ := bs hf14
  obtain ⟨b42, o43, ce44, hA45, hF48, hl46, hd47, rfl, r49, r50⟩ := h39.elem e41
  refine h_iaE (hA := hA45) (hj := rfl) (hlt := hl46) rfl rfl rfl rfl ?_
  refine h_laB (hl := rfl) (hb := fun w' ⟨O', hq⟩ => (cellsAt_agree (hq.agree (i := 0) (by decide)) hF48 hd47)) rfl rfl rfl ?_
  refine hwp_nilT ?_
  refine x_one (i := 15) (by kernel_rfl) rfl ?_
  obtain ⟨q51, e52, hf14⟩ := bs hf14
  refine l_callM (O := O11) (c_symmetry_finder_choose h20 (Vb.ofAgg (cs := [(.int .i64 a25.var), (.int .i64 a25.val)]) (x := a25) rfl ⟨rfl, r34, r35⟩) (Vb.ofAgg (cs := [(.int .i64 a40.var), (.int .i64 a40.val)]) (x := a40) rfl ⟨rfl, r49, r50⟩) e52) rfl rfl fun v57 w53 O54 S55 h56 => ?_
  obtain ⟨h58, h59⟩ := h56
  obtain rfl := h59.bool
  refine x_end (by kernel_rfl) ?_
  refine x_nil (by kernel_rfl) ?_
  obtain rfl := sm hf14
  replace hB := hB.st S55
  replace hx2' := hx2'.st S55
  exact show Exists _ from ⟨_, (), rfl, ⟨rfl, rfl, rfl, rfl, rfl, trivial⟩, _, hB, h58, hx2'⟩
 rintro l60 w61 ⟨s64, x65, rfl, hs63, O62, hB, h20, hx2'⟩
 replace hm := fin_done hm
 refine ewp_sub _ hs63 ?_
 refine ewp_seq (ewp_seq (ewp_region (o_mv rfl rfl (o_nc rfl rfl ?_))))
 obtain ⟨O66, v70, v74, v78, v82, v86, v90, v95, v100, v105, v109, v114, S67, ha69, h68, h71, h75, h79, h83, h87, h91, h96, h101, h106, h110, h115, r119, r120⟩ := Fnd.opn h20 2 4 5 6 7 8 (by decide)
 obtain ⟨A72, c73, rfl⟩ := h71.form
 obtain ⟨A76, c77, rfl⟩ := h75.form
 obtain ⟨A80, c81, rfl⟩ := h79.form
 obtain ⟨A84, c85, rfl⟩ := h83.form
 obtain ⟨A88, c89, rfl⟩ := h87.form
 obtain ⟨A92, c93, rfl⟩ := h91.form
 obtain ⟨A97, c98, rfl⟩ := h96.form
 obtain ⟨A102, c103, rfl⟩ := h101.form
 obtain ⟨A107, c108, rfl⟩ := h106.form
 obtain ⟨A111, c112, rfl⟩ := h110.form
 obtain ⟨A116, c117, rfl⟩ := h115.form
 refine o_fa rfl rfl (o_ld (hc := Blk.cell (i := 4) (h68.1) rfl) rfl rfl ?_)
 refine o_ln rfl rfl ?_
 have l122 : s64.list.length ≤ 9223372036854775807 := Nat.le_trans h87.len.2.1 h87.len.2.2
 have r121 : inI64 (s64.list.length : Int) := rngNat l122
 refine o_mv rfl rfl (o_z ?_)
 obtain ⟨O123, S124, hz126, ha127, h125⟩ := Fnd.shut (x := s64) (l0 := 2) (l1 := 4) (l2 := 5) (l3 := 6) (l4 := 7) (l5 := 8) (by decide) h68 h71 h75 h79 h83 h87 h91 h96 h101 h106 h110 h115 r119 r120
 obtain ⟨res128, hL129, hm⟩ := bs hm
 refine ewp_join (aft res128 (fun (s130 : (List Swp) × Fnd) (x131 : (Option Addr × Nat)) => [(0, (.pointer (some ⟨p0, 0, none⟩))), (1, (.int .i64 x1)), (2, (.slice x131.1 s130.1.length x131.2))]) (fun s130 x131 w' => ∃ O' : Lab, Bm w O0 w' O' ∧ Ob 2 w' O' (.pointer (some ⟨p0, 0, none⟩)) s130.2 ∧ Rw 3 w' O' 43 (.slice x131.1 s130.1.length x131.2) s130.1)) ?_ ?_
 ·
  refine ewp_block ?_
  replace hB := (hB.st S67).st S124
  replace hx2' := (hx2'.st S67).st S124
  replace h87 := h87.st S124
  refine ewp_rng (σ := (List Swp) × Fnd) (X := (Option Addr × Nat)) (s64.list.length) hL129 rfl l122 (fun (s130 : (List Swp) × Fnd) (x131 : (Option Addr × Nat)) => [(0, (.pointer (some ⟨p0, 0, none⟩))), (1, (.int .i64 x1)), (2, (.slice x131.1 s130.1.length x131.2)), (38, (.slice A88 s64.list.length c89))]) _ (fun s130 x131 w' => ∃ O' : Lab, Bm w O0 w' O' ∧ Ob 2 w' O' (.pointer (some ⟨p0, 0, none⟩)) s130.2 ∧ Rw 3 w' O' 43 (.slice x131.1 s130.1.length x131.2) s130.1 ∧ Vb w' (Fr 0 w' O') (.slice A88 s64.list.length c89) s64.list) _ (A2, c2) ⟨O123, hB, h125, hx2', h87⟩ ⟨rfl, rfl, rfl, rfl, rfl, rfl, trivial⟩ (fun _ _ => ⟨rfl, rfl⟩) (fun _ _ => ⟨rfl, rfl, rfl, trivial⟩) (fun _ _ _ ⟨O', hB, h148, h146, h87⟩ => ⟨O', hB, h148, h146⟩) ⟨rfl, rfl, rfl⟩ ⟨rfl, rfl⟩ ?_
  rintro k132 a133 s130 x131 w134 cc136 hx137 ⟨O135, hB, h148, h146, h87⟩ hf138 hret139 hbrk140
  have rk132 : inI64 (k132 : Int) := rngK hx137 l122
  refine ewp_seq (ewp_region ?_)
  obtain ⟨b149, o150, ce151, hA152, hl153, hd154, rfl, r156, r157⟩ := h87.elem' hx137
  refine o_iaE (hA := hA152) (hj := rfl) (hlt := hl153) rfl rfl rfl ?_
  refine o_la (hl := rfl) (hc := hd154) rfl rfl ?_
  refine l_alloc 9 O135 rfl fun g158 w159 O160 S161 h162 => ?_
  refine l_store h162 rfl rfl rfl (nle_b rfl) (allOne rfl) fun w163 S164 h162 => ?_
  replace h162 : Lc 9 w163 O160 g158 26 [(.int .i64 a133.var), (.int .i64 a133.val)] := h162
  refine o_z ?_
  refine ewp_seq (ewp_seq ?_)
  obtain ⟨y165, hy166, hf138⟩ := bs hf138
  refine ewp_join (fun l' w' => ∃ (x168 : Unit) (O' : Lab), subs l' [(0, (.pointer (some ⟨p0, 0, none⟩))), (1, (.int .i64 x1)), (2, (.slice x131.1 s130.1.length x131.2)), (9, (.pointer (some ⟨g158, 0, none⟩))), (38, (.slice A88 s64.list.length c89)), (39, (.int .i64 (s64.list.length : Int))), (40, (.int .i64 (k132 : Int))), (67, (.bool y165))] ∧ Bm w O0 w' O' ∧ Ob 2 w' O' (.pointer (some ⟨p0, 0, none⟩)) s130.2 ∧ Rw 3 w' O' 43 (.slice x131.1 s130.1.length x131.2) s130.1 ∧ Lc 9 w' O' g158 26 [(.int .i64 a133.var), (.int .i64 a133.val)] ∧ Vb w' (Fr 0 w' O') (.slice A88 s64.list.length c89) s64.list) ?_ ?_
  ·
   refine ewp_drawX [(9, [2])] O160 ?_
   refine x_pre (fuel := 15) [] [(0, true), (1, true), (2, true), (3, true), (4, true), (5, true), (6, true), (7, true), (8, true)] (by kernel_rfl) rfl ?_
   refine h_mv rfl rfl rfl (h_mv rfl rfl rfl (h_nc rfl rfl rfl (h_fa rfl rfl rfl ?_)))
   replace h148 := (h148.st S161).st S164
   obtain ⟨A169, c170, hc171, h172⟩ := Fnd.pk_list h148
   refine h_ldC (hc := fun w' ⟨O', hq⟩ => Fnd.kp h148 hq (by decide) hc171) rfl rfl rfl ?_
   refine h_mv rfl rfl rfl ?_
   obtain ⟨a173, e174, hy166⟩ := bs hy166
   obtain ⟨p176, x175⟩ := atI_some' e174
   obtain ⟨b177, o178, ce179, hA180, hF183, hl181, hd182, rfl, r184, r185⟩ := h172.elem x175
   refine h_iaE (hA := hA180) (hj := (Int.toNat_of_nonneg p176).symm) (hlt := hl181) rfl rfl rfl rfl ?_
   refine h_laB (hl := rfl) (hb := fun w' ⟨O', hq⟩ => (cellsAt_agree (hq.agree (i := 0) (by decide)) hF183 hd182)) rfl rfl rfl ?_
   refine h_laB (hl := rfl) (hb := fun w' ⟨O', hq⟩ => ((h162.st hq (by decide)).1).cellsAt) rfl rfl rfl ?_
   refine hwp_nilT ?_
   refine x_one (i := 9) (by kernel_rfl) rfl ?_
   obtain ⟨q186, e187, hy166⟩ := bs hy166
   refine l_callM (O := O160) (c_symmetry_finder_fits h148 (Vb.ofAgg (cs := [(.int .i64 a173.var), (.int .i64 a173.val)]) (x := a173) rfl ⟨rfl, r184, r185⟩) (Vb.ofAgg (cs := [(.int .i64 a133.var), (.int .i64 a133.val)]) (x := a133) rfl ⟨rfl, r156, r157⟩) e187) rfl rfl fun v192 w188 O189 S190 h191 => ?_
   obtain ⟨h193, h194⟩ := h191
   obtain rfl := h194.bool
   have hZ := S190.lst [2] (fun _ h => by cases h; decide)
   cases q186
   case false =>
    replace hy166 := iF hy166
    refine x_go [] hZ (by kernel_rfl) ?_
    refine x_pre (fuel := 3) [] [(10, true), (11, true), (12, true), (13, true), (14, true), (15, true), (16, true), (17, true), (18, true), (19, true), (21, true)] (by kernel_rfl) rfl ?_
    refine h_nf rfl rfl rfl (h_mv rfl rfl rfl (h_no rfl rfl rfl rfl rfl (h_no rfl rfl rfl rfl rfl (h_no rfl rfl rfl rfl rfl (h_no rfl rfl rfl rfl rfl (h_no rfl rfl rfl rfl rfl (h_no rfl rfl rfl rfl rfl (h_no rfl rfl rfl rfl rfl (h_no rfl rfl rfl rfl rfl (h_no rfl rfl rfl rfl rfl (hwp_nilT ?_)))))))))))
    refine x_one (i := 20) (by kernel_rfl) rfl ?_
    refine owp_no rfl rfl rfl rfl (x_go [] ((St.refl nT _ _).lst [] (fun _ h => h.elim)) (by kernel_rfl) ?_)
    refine x_pre (fuel := 0) [] [(22, true), (23, true)] (by kernel_rfl) rfl ?_
    refine h_no rfl rfl rfl rfl rfl (h_pt rfl rfl rfl rfl (hwp_nilT ?_))
    refine x_nil (by kernel_rfl) ?_
    obtain rfl := sm hy166
    replace hB := ((hB.st S161).st S164).st S190
    replace h87 := ((h87.st S161).st S164).st S190
    replace h146 := ((h146.st S161).st S164).st S190
    replace h162 := h162.st S190
    exact ⟨(), _, ⟨rfl, rfl, rfl, rfl, rfl, rfl, rfl, rfl, trivial⟩, hB, h193, h146, h162, h87⟩
   replace hy166 := iT hy166
   refine x_go [] hZ (by kernel_rfl) ?_
   refine x_pre (fuel := 3) [] [(10, true), (11, true), (12, true), (13, true), (14, true), (15, true), (16, true), (17, true), (18, true), (19, true), (21, true)] (by kernel_rfl) rfl ?_
   refine h_nt rfl rfl rfl (h_mv rfl rfl rfl (hwp_o rfl (hwq_yes rfl rfl (g_mv rfl rfl (hwp_o rfl (hwq_yes rfl rfl (g_mv rfl rfl (hwp_o rfl (hwq_yes rfl rfl (g_nc rfl rfl (hwp_o rfl (hwq_yes rfl rfl (g_fa rfl rfl (hwp_o rfl ?_))))))))))))))
   refine hwq_yes rfl rfl ?_
   obtain ⟨A195, c196, hc197, h198⟩ := Fnd.pk_list h193
   refine g_ldC (hc := fun w' ⟨O', hq⟩ => Fnd.kp h193 hq (by decide) hc197) rfl rfl ?_
   refine hwp_o rfl (hwq_yes rfl rfl (g_mv rfl rfl (hwp_o rfl (hwq_yes rfl rfl ?_))))
   obtain ⟨a199, e200, hy166⟩ := bs hy166
   obtain ⟨p202, x201⟩ := atI_some' e200
   obtain ⟨b203, o204, ce205, hA206, hF209, hl207, hd208, rfl, r210, r211⟩ := h198.elem x201
   refine g_iaE (hA := hA206) (hj := (Int.toNat_of_nonneg p202).symm) (hlt := hl207) rfl rfl rfl ?_
   refine hwp_o rfl (hwq_yes rfl rfl (g_laB (hl := rfl) (hb := fun w' ⟨O', hq⟩ => (cellsAt_agree (hq.agree (i := 0) (by decide)) hF209 hd208)) rfl rfl ?_))
   refine hwp_o rfl (hwq_yes rfl rfl ?_)
   replace h162 := h162.st S190
   refine g_laB (hl := rfl) (hb := fun w' ⟨O', hq⟩ => ((h162.st hq (by decide)).1).cellsAt) rfl rfl ?_
   refine hwp_nilT ?_
   refine x_one (i := 20) (by kernel_rfl) rfl ?_
   refine owp_yes rfl rfl ?_
   obtain ⟨q212, e213, hy166⟩ := bs hy166
   replace h146 := ((h146.st S161).st S164).st S190
   refine l_callMapNF (O := O189) (c_symmetry_orbit (O := fun _ => 0) (Vb.all0 (h146).all) (Vb.all0 (Vb.mono (F := Fr 0 w188 O189) (Vb.ofAgg (cs := [(.int .i64 a199.var), (.int .i64 a199.val)]) (x := a199) rfl ⟨rfl, r210, r211⟩) Fr.lt)) 10 (by decide) e213) rfl rfl fun v218 w214 O215 S216 h219 => ?_
   obtain ⟨p220, rfl⟩ := h219.mptr
   have hZ := S216.lst [] (fun _ h => h.elim)
   refine x_go [] hZ (by kernel_rfl) ?_
   refine x_pre (fuel := 0) [] [(22, true), (23, true)] (by kernel_rfl) rfl ?_
   refine hwp_o rfl (hwq_yes rfl rfl ?_)
   obtain ⟨v223, hl221, h222⟩ := MapF.get h219 a133 vBool
   obtain rfl := h222.bool
   refine g_lkF a133 (fun w' ⟨O', hq⟩ => hl221.keep (hq.agree (i := 10) (by decide) _ (MapF.at h219))) rfl rfl rfl ?_
   refine h_pf rfl rfl rfl rfl (hwp_nilT ?_)
   refine x_nil (by kernel_rfl) ?_
   obtain rfl := sm hy166
   replace hB := (((hB.st S161).st S164).st S190).st S216
   replace h87 := (((h87.st S161).st S164).st S190).st S216
   replace h146 := h146.st S216
   replace h162 := h162.st S216
   replace h193 := h193.st S216
   exact ⟨(), _, ⟨rfl, rfl, rfl, rfl, rfl, rfl, rfl, rfl, trivial⟩, hB, h193, h146, h162, h87⟩
  replace hB := (hB.st S161).st S164
  replace h87 := (h87.st S161).st S164
  replace h146 := (h146.st S161).st S164
  rintro l224 w225 ⟨x168, O226, hs227, hB, h189, h146, h162, h87⟩
  refine ewp_sub _ hs227 ?_
  refine ewp_cond rfl (fun c228 => ?_) (fun c228 => ?_)
  ·
   replace hf138 := ip hf138 c228
   refine ewp_exit ?_
   obtain rfl := sm hf138
   exact show Exists _ from ⟨_, (x131.1, x131.2), rfl, ⟨rfl, rfl, rfl, rfl, rfl, rfl, trivial⟩, _, hB, h189, h146, h87⟩
  replace hf138 := im' hf138 c228
  refine ewp_skip (ewp_seq (ewp_seq (ewp_region (o_mv rfl rfl (o_mv rfl rfl (o_la (hl := rfl) (hc := (h162.1).cellsAt) rfl rfl ?_))))))
  obtain ⟨q229, e230, hf138⟩ := bs hf138
  refine l_callM (O := O226) (c_symmetry_finder_step h189 rx1 (Vb.ofAgg (cs := [(.int .i64 a133.var), (.int .i64 a133.val)]) (x := a133) rfl ⟨rfl, r156, r157⟩) e230) rfl rfl fun v235 w231 O232 S233 h234 => ?_
  obtain ⟨v237, v238, h236, rfl, h239, h240⟩ := h234
  obtain ⟨cs241, rfl, v242, v243, v244, rfl, h245, h248, h251⟩ := h239
  obtain ⟨A246, c247, rfl⟩ := h245.form
  obtain ⟨A249, c250, rfl⟩ := h248.form
  obtain ⟨A252, c253, rfl⟩ := h251.form
  obtain rfl := h240.bool
  refine o_mv rfl rfl (o_ex rfl rfl rfl (o_ex rfl rfl rfl (l_alloc 11 O232 rfl fun g254 w255 O256 S257 h258 => ?_)))
  refine l_store h258 rfl rfl rfl (nle_b rfl) (allOne rfl) fun w259 S260 h258 => ?_
  replace h258 : Lc 11 w259 O256 g254 43 [(.slice A246 q229.1.vars.length c247), (.slice A249 q229.1.vals.length c250), (.slice A252 q229.1.ops.length c253)] := h258
  refine o_as rfl rfl (o_z ?_)
  refine ewp_seq (ewp_region (o_mv rfl rfl (o_z ?_)))
  obtain ⟨y261, hy262, hf138⟩ := bs hf138
  refine ewp_join (fun l' w' => ∃ (x264 : (Option Addr × Nat)) (O' : Lab), subs l' [(0, (.pointer (some ⟨p0, 0, none⟩))), (1, (.int .i64 x1)), (2, (.slice x264.1 y261.length x264.2)), (38, (.slice A88 s64.list.length c89)), (39, (.int .i64 (s64.list.length : Int))), (40, (.int .i64 (k132 : Int)))] ∧ Bm w O0 w' O' ∧ Ob 2 w' O' (.pointer (some ⟨p0, 0, none⟩)) q229.2.2 ∧ Rw 3 w' O' 43 (.slice x264.1 y261.length x264.2) y261 ∧ Vb w' (Fr 0 w' O') (.slice A88 s64.list.length c89) s64.list) ?_ ?_
  ·
   refine ewp_cond rfl (fun c267 => ?_) (fun c267 => ?_)
   ·
    replace hy262 := ip hy262 c267
    refine ewp_region (o_mv rfl rfl (o_la (hl := rfl) (hc := (h258.1).cellsAt) rfl rfl ?_))
    obtain ⟨u268, e269, hy262⟩ := bs hy262
    obtain ⟨e269, e270, e271⟩ := appI_some e269
    replace h146 := ((h146.st S233).st S257).st S260
    replace h245 := (h245.st S257).st S260
    replace h248 := (h248.st S257).st S260
    replace h251 := (h251.st S257).st S260
    refine l_append1 rfl (a := q229.1) h146 (Vb.ofAgg (cs := [(.slice A246 q229.1.vars.length c247), (.slice A249 q229.1.vals.length c250), (.slice A252 q229.1.ops.length c253)]) (x := q229.1) rfl ⟨_, _, _, rfl, h245, h248, h251⟩) (fun _ => rfl) rfl (by decide) (by decide) e270 e271 ⟨rfl, rfl⟩ fun g272 A273 c274 w275 O276 S277 h278 => ?_
    rw [← e269] at h278 ⊢
    refine o_as rfl rfl (o_z ?_)
    obtain rfl := sm hy262
    replace hB := (((hB.st S233).st S257).st S260).st S277
    replace h87 := (((h87.st S233).st S257).st S260).st S277
    replace h236 := ((h236.st S257).st S260).st S277
    exact ⟨(A273, c274), _, ⟨rfl, rfl, rfl, rfl, rfl, rfl, trivial⟩, hB, h236, h278, h87⟩
   replace hy262 := im' hy262 c267
   refine ewp_skip ?_
   obtain rfl := sm hy262
   replace hB := ((hB.st S233).st S257).st S260
   replace h87 := ((h87.st S233).st S257).st S260
   replace h146 := ((h146.st S233).st S257).st S260
   replace h236 := (h236.st S257).st S260
   exact ⟨(x131.1, x131.2), _, ⟨rfl, rfl, rfl, rfl, rfl, rfl, trivial⟩, hB, h236, h146, h87⟩
  replace hB := ((hB.st S233).st S257).st S260
  replace h87 := ((h87.st S233).st S257).st S260
  replace h236 := (h236.st S257).st S260
  rintro l280 w281 ⟨x264, O282, hs283, hB, h236, h265, h87⟩
  refine ewp_sub _ hs283 ?_
  refine ewp_seq (ewp_region (o_mv rfl rfl (o_nc rfl rfl ?_)))
  obtain ⟨O284, v288, v292, v296, v300, v304, v308, v313, v318, v323, v327, v332, S285, ha287, h286, h289, h293, h297, h301, h305, h309, h314, h319, h324, h328, h333, r337, r338⟩ := Fnd.opn h236 2 4 5 6 7 8 (by decide)
  obtain ⟨A290, c291, rfl⟩ := h289.form
  obtain ⟨A294, c295, rfl⟩ := h293.form
  obtain ⟨A298, c299, rfl⟩ := h297.form
  obtain ⟨A302, c303, rfl⟩ := h301.form
  obtain ⟨A306, c307, rfl⟩ := h305.form
  obtain ⟨A310, c311, rfl⟩ := h309.form
  obtain ⟨A315, c316, rfl⟩ := h314.form
  obtain ⟨A320, c321, rfl⟩ := h319.form
  obtain ⟨A325, c326, rfl⟩ := h324.form
  obtain ⟨A329, c330, rfl⟩ := h328.form
  obtain ⟨A334, c335, rfl⟩ := h333.form
  refine o_fa rfl rfl (o_ld (hc := Blk.cell (i := 13) (h286.1) rfl) rfl rfl ?_)
  refine o_z ?_
  refine ewp_cond rfl (fun c339 => ?_) (fun c339 => ?_)
  ·
   replace hf138 := ip hf138 c339
   refine ewp_exit ?_
   obtain ⟨O340, S341, hz343, ha344, h342⟩ := Fnd.shut (x := q229.2.2) (l0 := 2) (l1 := 4) (l2 := 5) (l3 := 6) (l4 := 7) (l5 := 8) (by decide) h286 h289 h293 h297 h301 h305 h309 h314 h319 h324 h328 h333 r337 r338
   obtain rfl := sm hf138
   replace hB := (hB.st S285).st S341
   replace h265 := (h265.st S285).st S341
   exact show Exists _ from ⟨_, (x264.1, x264.2), hbrk140 _ rfl, ⟨rfl, rfl, rfl, trivial⟩, _, hB, h342, h265⟩
  replace hf138 := im' hf138 c339
  refine ewp_skip ?_
  obtain ⟨O345, S346, hz348, ha349, h347⟩ := Fnd.shut (x := q229.2.2) (l0 := 2) (l1 := 4) (l2 := 5) (l3 := 6) (l4 := 7) (l5 := 8) (by decide) h286 h289 h293 h297 h301 h305 h309 h314 h319 h324 h328 h333 r337 r338
  obtain rfl := sm hf138
  replace hB := (hB.st S285).st S346
  replace h87 := (h87.st S285).st S346
  replace h265 := (h265.st S285).st S346
  exact show Exists _ from ⟨_, (x264.1, x264.2), rfl, ⟨rfl, rfl, rfl, rfl, rfl, rfl, trivial⟩, _, hB, h347, h265, h87⟩
 replace hB := (hB.st S67).st S124
 rintro l350 w351 ⟨s354, x355, rfl, hs353, O352, hB, h148, h146⟩
 replace hm := fin_done hm
 refine ewp_sub _ hs353 ?_
 refine ewp_seq (ewp_seq (ewp_region (o_mv rfl rfl ?_)))
 obtain ⟨n356, e357, hm⟩ := bs hm
 have r358 := (chkI_rng e357)
 refine o_sbE (he := e357) rfl rfl rfl ?_
 refine o_as rfl rfl (o_z ?_)
 obtain ⟨res359, hL360, hm⟩ := bs hm
 refine ewp_join (aft res359 (fun (s361 : Int × Fnd) (x362 : Unit) => [(2, (.slice x355.1 s354.1.length x355.2))]) (fun s361 x362 w' => ∃ O' : Lab, Bm w O0 w' O' ∧ Rw 3 w' O' 43 (.slice x355.1 s354.1.length x355.2) s354.1 ∧ Ob 2 w' O' (.pointer (some ⟨p0, 0, none⟩)) s361.2 ∧ inI64 s361.1)) ?_ ?_
 ·
  refine ewp_block (ewp_lop (σ := Int × Fnd) (X := Unit) hL360 (fun (s361 : Int × Fnd) (x362 : Unit) => [(0, (.pointer (some ⟨p0, 0, none⟩))), (2, (.slice x355.1 s354.1.length x355.2)), (12, (.int .i64 s361.1))]) _ (fun s361 x362 w' => ∃ O' : Lab, Bm w O0 w' O' ∧ Ob 2 w' O' (.pointer (some ⟨p0, 0, none⟩)) s361.2 ∧ Rw 3 w' O' 43 (.slice x355.1 s354.1.length x355.2) s354.1 ∧ inI64 s361.1) _ () ⟨O352, hB, h148, h146, r358⟩ ⟨rfl, rfl, rfl, trivial⟩ ?_)
  rintro s361 x362 w365 cc367 ⟨O366, hB, h377, h146, r376⟩ hf369 hret370 hbrk371
  refine ewp_seq (ewp_seq (ewp_region (o_mv rfl rfl (o_geS rfl rfl rfl (fun c378 => ?_) fun c378 => ?_))))
  ·
   replace hf369 := ip hf369 c378
   refine o_z ?_
   refine ewp_true rfl (ewp_skip (ewp_seq ?_))
   obtain ⟨y379, hy380, hf369⟩ := bs hf369
   refine ewp_join (fun l' w' => ∃ (x382 : Unit) (O' : Lab), subs l' [(0, (.pointer (some ⟨p0, 0, none⟩))), (2, (.slice x355.1 s354.1.length x355.2)), (12, (.int .i64 s361.1))] ∧ Bm w O0 w' O' ∧ Ob 2 w' O' (.pointer (some ⟨p0, 0, none⟩)) y379 ∧ Rw 3 w' O' 43 (.slice x355.1 s354.1.length x355.2) s354.1) ?_ ?_
   ·
    refine ewp_block (ewp_seq (ewp_region (o_mv rfl rfl (o_nc rfl rfl ?_))))
    obtain ⟨O384, v388, v392, v396, v400, v404, v408, v413, v418, v423, v427, v432, S385, ha387, h386, h389, h393, h397, h401, h405, h409, h414, h419, h424, h428, h433, r437, r438⟩ := Fnd.opn h377 2 4 5 6 7 8 (by decide)
    obtain ⟨A390, c391, rfl⟩ := h389.form
    obtain ⟨A394, c395, rfl⟩ := h393.form
    obtain ⟨A398, c399, rfl⟩ := h397.form
    obtain ⟨A402, c403, rfl⟩ := h401.form
    obtain ⟨A406, c407, rfl⟩ := h405.form
    obtain ⟨A410, c411, rfl⟩ := h409.form
    obtain ⟨A415, c416, rfl⟩ := h414.form
    obtain ⟨A420, c421, rfl⟩ := h419.form
    obtain ⟨A425, c426, rfl⟩ := h424.form
    obtain ⟨A429, c430, rfl⟩ := h428.form
    obtain ⟨A434, c435, rfl⟩ := h433.form
    refine o_fa rfl rfl (o_ld (hc := Blk.cell (i := 4) (h386.1) rfl) rfl rfl ?_)
    refine o_mv rfl rfl ?_
    obtain ⟨a439, e440, hy380⟩ := bs hy380
    obtain ⟨p442, x441⟩ := atI_some' e440
    obtain ⟨b443, o444, ce445, hA446, hl447, hd448, rfl, r450, r451⟩ := h405.elem' x441
    refine o_iaE (hA := hA446) (hj := (Int.toNat_of_nonneg p442).symm) (hlt := hl447) rfl rfl rfl ?_
    refine o_la (hl := rfl) (hc := hd448) rfl rfl ?_
    refine l_alloc 12 O384 rfl fun g452 w453 O454 S455 h456 => ?_
    refine l_store h456 rfl rfl rfl (nle_b rfl) (allOne rfl) fun w457 S458 h456 => ?_
    replace h456 : Lc 12 w457 O454 g452 26 [(.int .i64 a439.var), (.int .i64 a439.val)] := h456
    refine o_z ?_
    refine ewp_region (o_mv rfl rfl (o_la (hl := rfl) (hc := (h456.1).cellsAt) rfl rfl ?_))
    refine o_la (hl := rfl) (hc := (h456.1).cellsAt) rfl rfl ?_
    refine o_fa rfl rfl (o_ld (hc := Blk.cell (i := 1) (h456.1) rfl) rfl rfl ?_)
    refine o_eeS rfl rfl rfl (fun c459 => ?_) fun c459 => ?_
    ·
     replace hy380 := ip hy380 c459
     replace h386 := (h386.st S455).st S458
     replace h389 := (h389.st S455).st S458
     replace h393 := (h393.st S455).st S458
     replace h397 := (h397.st S455).st S458
     replace h401 := (h401.st S455).st S458
     replace h405 := (h405.st S455).st S458
     replace h409 := (h409.st S455).st S458
     replace h414 := (h414.st S455).st S458
     replace h419 := (h419.st S455).st S458
     replace h424 := (h424.st S455).st S458
     replace h428 := (h428.st S455).st S458
     replace h433 := (h433.st S455).st S458
     obtain ⟨O460, S461, hz463, ha464, h462⟩ := Fnd.shut (x := s361.2) (l0 := 2) (l1 := 4) (l2 := 5) (l3 := 6) (l4 := 7) (l5 := 8) (by decide) h386 h389 h393 h397 h401 h405 h409 h414 h419 h424 h428 h433 r437 r438
     obtain ⟨q465, e466, hy380⟩ := bs hy380
     refine l_callM (O := O460) (c_symmetry_finder_undo h462 (Vb.ofAgg (cs := [(.int .i64 a439.var), (.int .i64 a439.val)]) (x := a439) rfl ⟨rfl, r450, r451⟩) (Vb.ofAgg (cs := [(.int .i64 a439.var), (.int .i64 a439.val)]) (x := a439) rfl ⟨rfl, r450, r451⟩) e466) rfl rfl fun v471 w467 O468 S469 h472 => ?_
     refine o_z ?_
     obtain rfl := sm hy380
     replace hB := ((((hB.st S385).st S455).st S458).st S461).st S469
     replace h146 := ((((h146.st S385).st S455).st S458).st S461).st S469
     exact ⟨(), _, ⟨rfl, rfl, rfl, trivial⟩, hB, h472, h146⟩
    replace hy380 := im hy380 c459
    replace h386 := (h386.st S455).st S458
    replace h389 := (h389.st S455).st S458
    replace h393 := (h393.st S455).st S458
    replace h397 := (h397.st S455).st S458
    replace h401 := (h401.st S455).st S458
    replace h405 := (h405.st S455).st S458
    replace h409 := (h409.st S455).st S458
    replace h414 := (h414.st S455).st S458
    replace h419 := (h419.st S455).st S458
    replace h424 := (h424.st S455).st S458
    replace h428 := (h428.st S455).st S458
    replace h433 := (h433.st S455).st S458
    obtain ⟨O473, S474, hz476, ha477, h475⟩ := Fnd.shut (x := s361.2) (l0 := 2) (l1 := 4) (l2 := 5) (l3 := 6) (l4 := 7) (l5 := 8) (by decide) h386 h389 h393 h397 h401 h405 h409 h414 h419 h424 h428 h433 r437 r438
    obtain ⟨q478, e479, hy380⟩ := bs hy380
    refine l_callM (O := O473) (c_symmetry_finder_undo h475 (Vb.ofAgg (cs := [(.int .i64 a439.var), (.int .i64 a439.val)]) (x := a439) rfl ⟨rfl, r450, r451⟩) (Vb.ofAgg (cs := [(.int .i64 a439.var), (.int .i64 a439.val)]) (x := a439) rfl ⟨rfl, r450, r451⟩) e479) rfl rfl fun v484 w480 O481 S482 h485 => ?_
    refine o_z ?_
    obtain rfl := sm hy380
    replace hB := ((((hB.st S385).st S455).st S458).st S474).st S482
    replace h146 := ((((h146.st S385).st S455).st S458).st S474).st S482
    exact ⟨(), _, ⟨rfl, rfl, rfl, trivial⟩, hB, h485, h146⟩
   rintro l486 w487 ⟨x382, O488, hs489, hB, h383, h146⟩
   refine ewp_sub _ hs489 ?_
   refine ewp_region (o_mv rfl rfl ?_)
   obtain ⟨n490, e491, hf369⟩ := bs hf369
   have r492 := (chkI_rng e491)
   refine o_sbE (he := e491) rfl rfl rfl ?_
   refine o_as rfl rfl (o_z ?_)
   obtain rfl := sm hf369
   exact show Exists _ from ⟨_, (), rfl, ⟨rfl, rfl, rfl, trivial⟩, _, hB, h383, h146, r492⟩
  replace hf369 := im hf369 c378
  refine o_z ?_
  refine ewp_false rfl (ewp_exit ?_)
  obtain rfl := sm hf369
  exact show Exists _ from ⟨_, (), hbrk371 _ rfl, ⟨rfl, trivial⟩, _, hB, h146, h377, r376⟩
 rintro l493 w494 ⟨s497, x498, rfl, hs496, O495, hB, h146, h377, r376⟩
 replace hm := fin_done hm
 refine ewp_sub _ hs496 ?_
 refine ewp_seq (ewp_region (o_mv rfl rfl (o_as rfl rfl (o_z ?_))))
 refine ewp_ret ?_
 obtain rfl := sm hm
 obtain ⟨O', hS', hz, hl⟩ := hE.leave (fun q => if q = 2 then i0 else if q = 3 then i1 else 0) rfl hB
 exact ret1v rfl (res_tmp rfl) ⟨O', hS', (Ob.leave h377 hz (hl 2 (by decide) (by decide)) hx0.2), (Rw.leave h146 hz (hl 3 (by decide) (by decide)) hx2.2.2)⟩
end
section
open Go Go.RowKit
/-- The entries of a map from facts to numbers. -/
structure EnI (es : List MapEntry) (ck : Nat) (m : List (Fct × Int)) : Prop where
  keys : es.map (·.key) = m.map (fun p => encK p.1)
  nodup : (es.map (·.born)).Nodup
  old : ∀ e ∈ es, e.born < ck
  vals : es.map (·.val) = m.map (fun p => Value.int .i64 p.2)
  rng : ∀ p ∈ m, inI64 p.2
def IM (w : World) (q : Nat) (m : List (Fct × Int)) : Prop := ∃ es ck, w.heap[q]? = some (.map es.toArray ck) ∧ EnI es ck m
structure MapM where
  l : List (ByteArray × List (Fct × Int))
def mgetO : List (ByteArray × List (Fct × Int)) → ByteArray → Option (List (Fct × Int))
  | [], _ => none
  | p :: r, k => if p.1 = k then some p.2 else mgetO r k
def InA (w : World) (M : Nat → Prop) (L : Lab) (es : List MapEntry) (xs : List (ByteArray × List (Fct × Int))) : Prop := ∀ (j : Nat) (e : MapEntry) (p : ByteArray × List (Fct × Int)), es[j]? = some e → xs[j]? = some p → ∃ q, e.val = .map (some q) ∧ M q ∧ L q = j + 1 ∧ IM w q p.2
instance : Ow MapM where
  R w _ M v x := ∃ (r : Nat) (L : Lab) (es : List MapEntry) (ck : Nat), v = .map (some r) ∧ w.heap[r]? = some (.map es.toArray ck) ∧ M r ∧ L r = 0 ∧ es.map (·.key) = x.l.map (fun p => MKey.enc p.1) ∧ InA w M L es x.l
  agree := by
    rintro w w' F M v x ⟨r, L, es, ck, rfl, hb, hM, hL, hk, hv⟩ _ a2
    refine ⟨r, L, es, ck, rfl, (a2 r hM).trans hb, hM, hL, hk, fun j e p h1 h2 => ?_⟩
    obtain ⟨q, e1, e2, e3, es', ck', e4, e5⟩ := hv j e p h1 h2
    exact ⟨q, e1, e2, e3, es', ck', (a2 q e2).trans e4, e5⟩
  mono := by
    rintro w F M F' M' v x ⟨r, L, es, ck, rfl, hb, hM, hL, hk, hv⟩ _ a2 _
    refine ⟨r, L, es, ck, rfl, hb, a2 r hM, hL, hk, fun j e p h1 h2 => ?_⟩
    obtain ⟨q, e1, e2, e3, e4⟩ := hv j e p h1 h2
    exact ⟨q, e1, a2 q e2, e3, e4⟩
instance : OwM MapM := ⟨by rintro w F M v x ⟨r, L, es, ck, rfl, _⟩; exact ⟨r, rfl⟩⟩
/-- What a look-up in the outer map yields. -/
def InnV (i : Nat) (w : World) (O : Lab) (x : MapM) (a : ByteArray) (v : Value) : Prop := (mhas x.l a = false ∧ mgetO x.l a = none ∧ v = .map none) ∨ (mhas x.l a = true ∧ ∃ q m, v = .map (some q) ∧ Fr i w O q ∧ mgetO x.l a = some m ∧ IM w q m)
theorem mgetO_spec : ∀ (x : List (ByteArray × List (Fct × Int))) (a : ByteArray), (midx x a = none ∧ mhas x a = false ∧ mgetO x a = none) ∨ ∃ j p, midx x a = some j ∧ x[j]? = some p ∧ p.1 = a ∧ mhas x a = true ∧ mgetO x a = some p.2
  | [], _ => .inl ⟨rfl, rfl, rfl⟩
  | p :: r, a => by
    by_cases hp : p.1 = a
    · exact .inr ⟨0, p, by simp [midx, hp], rfl, hp, by simp [mhas, hp], by simp [mgetO, hp]⟩
    · rcases mgetO_spec r a with ⟨h1, h2, h3⟩ | ⟨j, q, h1, h2, h3, h4, h5⟩
      · exact .inl ⟨by simp [midx, hp, h1], by simp [mhas, hp, h2], by simp [mgetO, hp, h3]⟩
      · exact .inr ⟨j + 1, q, by simp [midx, hp, h1], by simpa using h2, h3, by simp [mhas, hp, h4], by simp [mgetO, hp, h5]⟩
section
variable {i j : Nat} {w w' : World} {O O' : Lab} {r : Nat} {x : MapM} {T : Nat → Prop}
theorem MapM.at (h : Ob i w O (.map (some r)) x) : Fr i w O r := by
  obtain ⟨⟨r', L, es, ck, hv, hb, hM, _⟩, _⟩ := h
  injection hv with hv
  injection hv with hv
  subst hv
  exact hM
theorem MapM.get (h : Ob i w O (.map (some r)) x) (a : ByteArray) : ∃ v, LkV (MKey.desc ByteArray) (.map none) w r (MKey.enc a) v (mhas x.l a) ∧ InnV i w O x a v := by
  obtain ⟨⟨r', L, es, ck, hv, hb, hM, hL, hk, hva⟩, _⟩ := h
  injection hv with hv
  injection hv with hv
  subst hv
  rcases mgetO_spec x.l a with ⟨k1, k2, k3⟩ | ⟨jj, pp, k1, k2, k3, k4, k5⟩
  · rcases find_spec a es x.l 0 hk with ⟨g0, g1, g2, g3, g4⟩ | ⟨q, e', p, g0, _⟩
    · exact ⟨.map none, ⟨_, ck, none, hb, by simpa using g1, rfl, g2⟩, .inl ⟨k2, k3, rfl⟩⟩
    · rw [k1] at g0; cases g0
  · rcases find_spec a es x.l 0 hk with ⟨g0, _⟩ | ⟨q, e', p, g0, g1, g2, g3, g4, g5, g6, g7⟩
    · rw [k1] at g0; cases g0
    · rw [k1] at g0
      injection g0 with g0
      subst g0
      rw [k2] at g2
      injection g2 with g2
      subst g2
      obtain ⟨b, e1, e2, e3, e4⟩ := hva jj e' pp g1 k2
      exact ⟨e'.val, ⟨_, ck, some (0 + jj, e'.val), hb, by simpa using g3, rfl, g5⟩, .inr ⟨k4, b, _, e1, e2, k5, e4⟩⟩
theorem InnV.some {a : ByteArray} {v : Value} {m : List (Fct × Int)} (h : InnV i w O x a v) (hm : mgetO x.l a = .some m) : ∃ q, v = .map (.some q) ∧ Fr i w O q ∧ IM w q m := by
  rcases h with ⟨_, h, _⟩ | ⟨_, q, m', h1, h2, h3, h4⟩
  · rw [h] at hm; cases hm
  · rw [h3] at hm
    injection hm with hm
    exact ⟨q, h1, h2, hm ▸ h4⟩
/-- What a look-up in an inner map yields. -/
theorem IM.get {q : Nat} {m : List (Fct × Int)} (h : IM w q m) (a : Fct) : LkF (.int .i64 0) w q a (.int .i64 (fget 0 m a)) (fhas m a) ∧ inI64 (fget 0 m a) := by
  obtain ⟨es, ck, hb, he⟩ := h
  rcases find_specF a es m 0 he.keys with ⟨g0, g1, g2, g3, g4⟩ | ⟨j, e', p, g0, g1, g2, g3, g4, g5, g6, g7⟩
  · rw [g3, g2]
    exact ⟨⟨_, ck, none, hb, by simpa using g1, rfl, rfl⟩, by decide⟩
  · rw [g6, g5]
    have hval : e'.val = .int .i64 p.2 := by
      have h1 : (es.map (·.val))[j]? = some e'.val := by rw [List.getElem?_map, g1]; rfl
      rw [he.vals, List.getElem?_map, g2] at h1
      injection h1 with h1
      exact h1.symm
    exact ⟨⟨_, ck, some (0 + j, e'.val), hb, by simpa using g3, hval.symm, rfl⟩, he.rng p (List.mem_of_getElem? g2)⟩
theorem IM.keep {q : Nat} {m : List (Fct × Int)} (h : IM w q m) (e : w'.heap[q]? = w.heap[q]?) : IM w' q m := by
  obtain ⟨es, ck, h1, h2⟩ := h
  exact ⟨es, ck, e.trans h1, h2⟩
theorem encK_inj {a b : Fct} (h : encK a = encK b) : a = b := by
  simp [encK] at h
  obtain ⟨h1, h2⟩ := h
  cases a; cases b
  simp_all
theorem sme {α : Type} {a b : α} (h : some a = some b) : a = b := by injection h
theorem fput_fput : ∀ (m : List (Fct × Int)) (k : Fct) (a b : Int), fput (fput m k a) k b = fput m k b
  | [], k, a, b => by simp [fput]
  | p :: r, k, a, b => by
    by_cases h : p.1 = k
    · simp [fput, h]
    · simp [fput, h, fput_fput r k a b]
theorem mput_mput : ∀ (x : List (ByteArray × List (Fct × Int))) (k : ByteArray) (a b : List (Fct × Int)), mput (mput x k a) k b = mput x k b
  | [], k, a, b => by simp [mput]
  | p :: r, k, a, b => by
    by_cases h : p.1 = k
    · simp [mput, h]
    · simp [mput, h, mput_mput r k a b]
theorem midx_put {K V : Type} [MKey K] : ∀ (x : List (K × V)) (a : K) (y : V), (midx x a = none ∧ mput x a y = x ++ [(a, y)]) ∨ ∃ j p, midx x a = some j ∧ x[j]? = some p ∧ p.1 = a ∧ mput x a y = x.set j (a, y)
  | [], _, _ => .inl ⟨rfl, rfl⟩
  | p :: r, a, y => by
    by_cases hp : p.1 = a
    · exact .inr ⟨0, p, by simp [midx, hp], rfl, hp, by simp [mput, hp]⟩
    · rcases midx_put r a y with ⟨h1, h2⟩ | ⟨j, q, h1, h2, h3, h4⟩
      · exact .inl ⟨by simp [midx, hp, h1], by simp [mput, hp, h2]⟩
      · exact .inr ⟨j + 1, q, by simp [midx, hp, h1], by simpa using h2, h3, by simp [mput, hp, h4]⟩
theorem mgetO_put : ∀ (x : List (ByteArray × List (Fct × Int))) (k : ByteArray) (a : List (Fct × Int)), mgetO (mput x k a) k = some a
  | [], k, a => by simp [mput, mgetO]
  | p :: r, k, a => by
    by_cases h : p.1 = k
    · simp [mput, mgetO, h]
    · simp [mput, mgetO, h, mgetO_put r k a]
/-- An inner map may turn. -/
theorem MapM.inner {a : ByteArray} {q : Nat} {b : Bool} (h : Ob i w O (.map (some r)) x) (hl : LkV (MKey.desc ByteArray) (.map none) w r (MKey.enc a) (.map (some q)) b) :
    ∃ m, mgetO x.l a = some m ∧ Fr i w O q ∧ q ≠ r ∧ IM w q m ∧ ∀ (w' : World) (m' : List (Fct × Int)), w'.heap.size = w.heap.size → (∀ p, p ≠ q → w'.heap[p]? = w.heap[p]?) → IM w' q m' → Ob i w' O (.map (some r)) (⟨mput x.l a m'⟩ : MapM) ∧ LkV (MKey.desc ByteArray) (.map none) w' r (MKey.enc a) (.map (some q)) b := by
  obtain ⟨⟨r', L, es, ck, hv, hb, hM, hL, hk, hva⟩, hi⟩ := h
  injection hv with hv
  injection hv with hv
  subst hv
  obtain ⟨es', ck', o, h1, h2, h3, h4⟩ := hl
  have hl0 : LkV (MKey.desc ByteArray) (.map none) w r (MKey.enc a) (.map (some q)) b := ⟨es', ck', o, h1, h2, h3, h4⟩
  rw [hb] at h1
  injection h1 with h1
  injection h1 with h1 h1'
  subst h1
  rw [List.toList_toArray] at h2
  rcases mgetO_spec x.l a with ⟨k1, k2, k3⟩ | ⟨jj, pp, k1, k2, k3, k4, k5⟩
  · rcases find_spec a es x.l 0 hk with ⟨g0, g1, g2, g3, g4⟩ | ⟨_, e', p, g0, _⟩
    · rw [g1] at h2
      have := sme h2
      subst this
      cases h3
    · rw [k1] at g0; cases g0
  · rcases find_spec a es x.l 0 hk with ⟨g0, _⟩ | ⟨_, e', p, g0, g1, g2, g3, g4, g5, g6, g7⟩
    · rw [k1] at g0; cases g0
    · rw [k1] at g0
      injection g0 with g0
      subst g0
      rw [k2] at g2
      injection g2 with g2
      subst g2
      rw [g3] at h2
      have := sme h2
      subst this
      obtain ⟨q', e1, e2, e3, e4⟩ := hva jj e' pp g1 k2
      have hqq : q = q' := by
        have : Value.map (some q) = .map (some q') := h3.trans e1
        injection this with this
        injection this
      subst hqq
      have hqr : q ≠ r := fun e => by rw [e, hL] at e3; omega
      refine ⟨_, k5, e2, hqr, e4, fun w' m' hs hp hI => ⟨⟨⟨r, L, es, ck, rfl, (hp r (Ne.symm hqr)).trans hb, ⟨by rw [hs]; exact hM.1, hM.2⟩, hL, ?_, ?_⟩, hi⟩, hl0.keep (hp r (Ne.symm hqr))⟩⟩
      · show es.map (·.key) = (mput x.l a m').map _
        rw [g7, List.map_set, hk]
        apply List.ext_getElem?
        intro z
        rw [List.getElem?_set]
        by_cases hz : jj = z
        · subst hz
          have hlt := lt_of_get k2
          have hx : x.l[jj] = pp := by rw [List.getElem?_eq_getElem hlt] at k2; injection k2
          simp [hx, k3, hlt]
        · simp [hz]
      · show InA w' _ L es (mput x.l a m')
        rw [g7]
        intro p e pr h1 h2
        rw [List.getElem?_set] at h2
        by_cases hz : jj = p
        · subst hz
          have hlt := lt_of_get k2
          simp [hlt] at h2
          subst h2
          rw [g1] at h1
          injection h1 with h1
          subst h1
          exact ⟨q, e1, ⟨by rw [hs]; exact e2.1, e2.2⟩, e3, hI⟩
        · simp [hz] at h2
          obtain ⟨b', f1, f2, f3, f4⟩ := hva p e pr h1 h2
          have hbq : b' ≠ q := fun e => by rw [e, e3] at f3; omega
          exact ⟨b', f1, ⟨by rw [hs]; exact f2.1, f2.2⟩, f3, f4.keep (hp b' hbq)⟩
/-- A map of which an inner one has an entry that is not written yet. -/
def MapE (i : Nat) (w : World) (O : Lab) (r : Nat) (x : MapM) (a : ByteArray) (m : List (Fct × Int)) (q : Nat) (k : Fct) (s : Nat) : Prop :=
  Ob i w O (.map (some r)) (⟨mput x.l a (fput m k (fget 0 m k))⟩ : MapM) ∧ (∃ b, LkV (MKey.desc ByteArray) (.map none) w r (MKey.enc a) (.map (some q)) b) ∧ Fr i w O q ∧ ∃ es ck, w.heap[q]? = some (.map es.toArray ck) ∧ EnI es ck (fput m k (fget 0 m k)) ∧ ∃ (j : Nat) (e : MapEntry), es[j]? = some e ∧ fidx (fput m k (fget 0 m k)) k = some j ∧ e.born = s
theorem fidx_put : ∀ (m : List (Fct × Int)) (k : Fct) (b : Int), (fidx m k = none → fidx (fput m k b) k = some m.length) ∧ ∀ j, fidx m k = some j → fidx (fput m k b) k = some j
  | [], k, b => ⟨fun _ => by simp [fput, fidx], fun j h => by simp [fidx] at h⟩
  | p :: r, k, b => by
    obtain ⟨h1, h2⟩ := fidx_put r k b
    by_cases h : p.1 = k
    · exact ⟨fun e => by simp [fidx, h] at e, fun j e => by simp [fidx, h] at e; subst e; simp [fput, fidx, h]⟩
    · refine ⟨fun e => ?_, fun j e => ?_⟩
      · simp [fidx, h] at e
        simp [fput, fidx, h, h1 e]
      · simp [fidx, h] at e
        obtain ⟨j', e1, e2⟩ := e
        subst e2
        simp [fput, fidx, h, h2 j' e1]
theorem fget_put (z : Int) : ∀ (m : List (Fct × Int)) (k : Fct) (b : Int), fget z (fput m k b) k = b
  | [], k, b => by simp [fput, fget]
  | p :: r, k, b => by
    by_cases h : p.1 = k
    · simp [fput, fget, h]
    · simp [fput, fget, h, fget_put z r k b]
theorem MapE.get {a : ByteArray} {m : List (Fct × Int)} {q : Nat} {k : Fct} {s : Nat} (h : MapE i w O r x a m q k s) : ∃ b, LkF (.int .i64 0) w q k (.int .i64 (fget 0 m k)) b ∧ inI64 (fget 0 m k) := by
  obtain ⟨_, _, _, es, ck, h4, h5, _⟩ := h
  have := IM.get (⟨es, ck, h4, h5⟩ : IM w q _) k
  rw [fget_put] at this
  exact ⟨_, this⟩
end
section
variable {n : Nat} {ops : Array Oper} {Q : Post} {rest : List Oper} {l : Env} {w : World} {d : Tmp} {ty : TypeId} {pos : String} {aft : Array Edge} {i j : Nat} {O : Lab} {r q : Nat}
theorem l_mkmapM {t : TypeId} (i : Nat) (hi : i ≠ 0) (O : Lab) (hd : Nat.blt d n = true) (h : ∀ g w' O', St nT w O w' O' → Ob i w' O' (.map (some g)) (⟨[]⟩ : MapM) → owp Tryz.prog n ops Q rest ((d, .map (some g)) :: l) w') : owp Tryz.prog n ops Q (⟨some d, .makeMap t none, ty, pos, aft, none⟩ :: rest) l w :=
  owp_mkmap hd fun w' hE hs hb => h _ w' _ (hE.st O fun _ => i) ⟨⟨w.heap.size, fun _ => 0, [], 0, rfl, hb, ⟨by omega, upO_new (Nat.le_refl _)⟩, rfl, rfl, fun j e p h1 _ => by simp at h1⟩, hi⟩
/-- A new empty map is put into the outer map. -/
theorem l_mputM {x : MapM} {t k e : TypeId} [TMap Tryz.prog t k e] [TKey Tryz.prog k ByteArray] {m y u : Operand} {a : ByteArray} (hM : Ob i w O (.map (some r)) x) (hv : Ob j w O (.map (some q)) (⟨[]⟩ : MapF Int)) (hij : j ≠ i) (hx : opv l m = some (.map (some r))) (hy : opv l y = some (MKey.enc a)) (hu : opv l u = some (.map (some q)))
    (h : ∀ w' O', St (fun q => q = i ∨ q = j) w O w' O' → Ob i w' O' (.map (some r)) (⟨mput x.l a []⟩ : MapM) → owp Tryz.prog n ops Q rest l w') : owp Tryz.prog n ops Q (⟨none, .mapUpdate t m y u, ty, pos, aft, none⟩ :: rest) l w := by
  obtain ⟨⟨r', L, es, ck, hv', hb, hM', hL, hk, hva⟩, hi⟩ := hM
  injection hv' with hv'
  injection hv' with hv'
  subst hv'
  obtain ⟨⟨q', es2, ck2, hq', hb2, hM2, hk2, _⟩, hj⟩ := hv
  injection hq' with hq'
  injection hq' with hq'
  subst hq'
  have hes : es2 = [] := by
    have := congrArg List.length hk2
    simpa using this
  subst hes
  have hqr : q ≠ r := fun e => hij (by rw [← hM2.2, e, hM'.2])
  refine owp_mput hb hk hx hy hu fun w' ck' _ e1 e2 e3 e4 e5 e6 => ?_
  have hlen : es.length = x.l.length := by have := congrArg List.length hk; simpa using this
  have hS : St (fun q => q = i ∨ q = j) w O w' (fun k => if O k = j then i else O k) := ⟨e1, e2, e3, by omega, fun p hp hT => ⟨e6 p fun e => hT (by rw [e]; exact .inl hM'.2), if_neg fun e => hT (.inr e)⟩⟩
  refine h w' _ hS ⟨⟨r, fun k => if k = q then (match midx x.l a with | some jj => jj | none => x.l.length) + 1 else L k, _, ck', rfl, e5, ⟨by rw [e4]; exact hM'.1, ?_⟩, ?_, putEs_keys ck a (.map (some q)) [] hk, ?_⟩, hi⟩
  · show (if _ then _ else _) = _
    split
    · rfl
    · exact hM'.2
  · show (if _ then _ else _) = _
    rw [if_neg (Ne.symm hqr)]; exact hL
  · have hq : IM w' q [] := ⟨[], ck2, (e6 q hqr).trans hb2, rfl, by simp, by simp, rfl, by simp⟩
    have hqm : Fr i w' (fun k => if O k = j then i else O k) q := ⟨by rw [e4]; exact hM2.1, by show (if _ then _ else _) = _; rw [if_pos hM2.2]⟩
    have hold : ∀ (jj : Nat) (e : MapEntry) (p : ByteArray × List (Fct × Int)), es[jj]? = some e → x.l[jj]? = some p → ∃ b, b ≠ q ∧ e.val = .map (some b) ∧ Fr i w' (fun k => if O k = j then i else O k) b ∧ L b = jj + 1 ∧ IM w' b p.2 := fun jj e p h1 h2 => by
      obtain ⟨b, g1, g2, g3, g4⟩ := hva jj e p h1 h2
      have hbq : b ≠ q := fun e => hij (by rw [← hM2.2, ← e, g2.2])
      have hbr : b ≠ r := fun e => by rw [e, hL] at g3; omega
      refine ⟨b, hbq, g1, ⟨by rw [e4]; exact g2.1, ?_⟩, g3, g4.keep (e6 b hbr)⟩
      show (if _ then _ else _) = _
      split
      · rfl
      · exact g2.2
    rcases midx_put x.l a ([] : List (Fct × Int)) with ⟨m1, m2⟩ | ⟨jj, p0, m1, m2, m3, m4⟩
    · rw [m1, m2]
      intro p e pr h1 h2
      simp only [putEs] at h1
      by_cases hp : p < es.length
      · rw [List.getElem?_append_left hp] at h1
        rw [List.getElem?_append_left (by omega)] at h2
        obtain ⟨b, b0, b1, b2, b3, b4⟩ := hold p e pr h1 h2
        exact ⟨b, b1, b2, (if_neg b0).trans b3, b4⟩
      · rw [List.getElem?_append_right (by omega)] at h1
        rw [List.getElem?_append_right (by omega)] at h2
        cases hz : p - es.length with
        | zero =>
          rw [hz] at h1
          rw [show p - x.l.length = 0 from by omega] at h2
          simp at h1 h2
          subst h1; subst h2
          exact ⟨q, rfl, hqm, (if_pos rfl).trans (by simp; omega), hq⟩
        | succ z => rw [hz] at h1; simp at h1
    · rw [m1, m4]
      intro p e pr h1 h2
      simp only [putEs] at h1
      rw [List.getElem?_modify] at h1
      rw [List.getElem?_set] at h2
      by_cases hp : jj = p
      · subst hp
        have hlt : jj < x.l.length := lt_of_get m2
        have hlt2 : jj < es.length := by omega
        rw [List.getElem?_eq_getElem hlt2] at h1
        simp [hlt] at h1 h2
        subst h1; subst h2
        exact ⟨q, rfl, hqm, if_pos rfl, hq⟩
      · simp [hp] at h1 h2
        obtain ⟨b, b0, b1, b2, b3, b4⟩ := hold p e pr h1 h2
        exact ⟨b, b1, b2, (if_neg b0).trans b3, b4⟩
theorem EnI.val {es : List MapEntry} {ck : Nat} {m : List (Fct × Int)} (h : EnI es ck m) {j : Nat} {e : MapEntry} {p : Fct × Int} (h1 : es[j]? = some e) (h2 : m[j]? = some p) : e.key = encK p.1 ∧ e.val = .int .i64 p.2 := by
  constructor
  · have h3 : (es.map (·.key))[j]? = some e.key := by rw [List.getElem?_map, h1]; rfl
    rw [h.keys, List.getElem?_map, h2] at h3
    injection h3 with h3
    exact h3.symm
  · have h3 : (es.map (·.val))[j]? = some e.val := by rw [List.getElem?_map, h1]; rfl
    rw [h.vals, List.getElem?_map, h2] at h3
    injection h3 with h3
    exact h3.symm
set_option maxRecDepth 100000 in
/-- An entry of an inner map is made ready. -/
theorem l_ment {x : MapM} {t e : TypeId} [ht : TMap Tryz.prog t 26 e] {size bytes : Nat} [TInfo Tryz.prog e (.int .i64 0) size bytes] {mo ko : Operand} {a : ByteArray} {m : List (Fct × Int)} {k : Fct} {b : Bool}
    (hM : Ob i w O (.map (some r)) x) (hl : LkV (MKey.desc ByteArray) (.map none) w r (MKey.enc a) (.map (some q)) b) (hm : mgetO x.l a = some m) (hx : opv l mo = some (.map (some q))) (hy : opv l ko = some (encK k)) (hd : Nat.blt d n = true)
    (h : ∀ w' s v, St (eT i) w O w' O → MapE i w' O r x a m q k s → owp Tryz.prog n ops Q rest ((d, .tuple #[v, .int .i64 (s : Int)]) :: l) w') : owp Tryz.prog n ops Q (⟨some d, .mapEntry t mo ko, ty, pos, aft, none⟩ :: rest) l w := by
  obtain ⟨m0, h1, h2, h3, ⟨es, ck, hb, he⟩, h4⟩ := MapM.inner hM hl
  rw [hm] at h1
  injection h1 with h1
  subst h1
  have hi := hM.2
  have fin : ∀ (es' : List MapEntry) (ck' s : Nat), EnI es' ck' (fput m k (fget 0 m k)) → (∃ (j : Nat) (e : MapEntry), es'[j]? = some e ∧ fidx (fput m k (fget 0 m k)) k = some j ∧ e.born = s) →
      St (eT i) w O { w with heap := w.heap.setIfInBounds q (.map es'.toArray ck') } O ∧ MapE i { w with heap := w.heap.setIfInBounds q (.map es'.toArray ck') } O r x a m q k s := fun es' ck' s hE hs => by
    have hw := MapKept.heap_set (o' := .map es'.toArray ck') hb
    have hI : IM { w with heap := w.heap.setIfInBounds q (.map es'.toArray ck') } q (fput m k (fget 0 m k)) := ⟨es', ck', hw.1, hE⟩
    obtain ⟨g1, g2⟩ := h4 { w with heap := w.heap.setIfInBounds q (.map es'.toArray ck') } _ (by simp) (fun p hp => hw.2 p hp) hI
    exact ⟨⟨rfl, rfl, rfl, by simp, fun p hp hT => ⟨hw.2 p fun e => hT (by rw [e]; exact h2.2), rfl⟩⟩, g1, ⟨b, g2⟩, ⟨by simpa using h2.1, h2.2⟩, es', ck', hw.1, hE, hs⟩
  rcases find_specF k es m 0 he.keys with ⟨g0, g1, g2, g3, g4⟩ | ⟨j, e', p, g0, g1, g2, g3, g4, g5, g6, g7⟩
  · have hE : EnI (es ++ [(⟨encK k, .int .i64 0, ck⟩ : MapEntry)]) (ck + 1) (fput m k (fget 0 m k)) := by
      rw [g4, g3]
      refine ⟨by simp [he.keys], ?_, ?_, by simp [he.vals], ?_⟩
      · rw [List.map_append, List.nodup_append]
        refine ⟨he.nodup, by simp, fun u hu v hv e => ?_⟩
        simp at hv
        obtain ⟨e0, he0, rfl⟩ := List.mem_map.1 hu
        have := he.old e0 he0
        omega
      · intro e0 h0
        rw [List.mem_append] at h0
        rcases h0 with h0 | h0
        · have := he.old e0 h0; omega
        · simp at h0; subst h0; simp
      · intro p hp
        rw [List.mem_append] at hp
        rcases hp with hp | hp
        · exact he.rng p hp
        · simp at hp; subst hp; exact (show inI64 0 from by decide)
    obtain ⟨f1, f2⟩ := fin _ _ ck hE ⟨es.length, _, by simp; rfl, by rw [show es.length = m.length from by have := congrArg List.length he.keys; simpa using this]; exact (fidx_put m k _).1 g0, rfl⟩
    refine owp_eff (w' := ({ w with heap := w.heap.setIfInBounds q (.map (es ++ [(⟨encK k, .int .i64 0, ck⟩ : MapEntry)]).toArray (ck + 1)) } : World)) (fun ac z ha => .inl ⟨.tuple #[.int .i64 0, .int .i64 (ck : Int)], z, ?_, ha.put hd _⟩) (h _ ck _ f1 f2)
    have hbd : (dr w z).heap[q]? = some (.map es.toArray ck) := hb
    simp [execOp, ha.eval hx, ha.eval hy, Instr.mapEntry, run_underlying ht.eq, MapKept.run_getObj_map hbd, run_checkKeyF, g1.find, run_zero (P := Tryz.prog) (t := e), MapKept.run_setObj_map _ hbd, Result.andThen, goInt]
    rfl
  · have hek := (he.val g1 g2).1
    have hpk : encK p.1 = encK k := hek.symm.trans g4
    have hset : es.modify j (fun e => { e with key := encK k }) = es := by
      apply List.ext_getElem?
      intro z
      rw [List.getElem?_modify]
      by_cases hz : j = z
      · subst hz
        rw [g1]
        simp
        cases e'
        simp at g4
        simp [g4]
      · simp [hz]
    have hfe : fput m k (fget 0 m k) = m := by
      rw [g7, g6]
      apply List.ext_getElem?
      intro z
      rw [List.getElem?_set]
      by_cases hz : j = z
      · subst hz
        have hlt := lt_of_get g2
        rw [g2]
        simp [hlt]
        have : p.1 = k := encK_inj hpk
        rw [← this]
      · simp [hz]
    obtain ⟨f1, f2⟩ := fin es ck e'.born (by rw [hfe]; exact he) ⟨j, e', g1, (fidx_put m k _).2 j g0, rfl⟩
    refine owp_eff (w' := ({ w with heap := w.heap.setIfInBounds q (.map es.toArray ck) } : World)) (fun ac z ha => .inl ⟨.tuple #[e'.val, .int .i64 (e'.born : Int)], z, ?_, ha.put hd _⟩) (h _ e'.born _ f1 f2)
    have hbd : (dr w z).heap[q]? = some (.map es.toArray ck) := hb
    rw [Nat.zero_add] at g3
    simp [execOp, ha.eval hx, ha.eval hy, Instr.mapEntry, run_underlying ht.eq, MapKept.run_getObj_map hbd, run_checkKeyF, g3.find, g1, g4, run_staysF, MapKept.run_setObj_map _ hbd, Result.andThen, goInt, hset]
    rfl
/-- The entry that was made ready is written. -/
theorem l_est {x : MapM} {t : TypeId} {mo so vo : Operand} {a : ByteArray} {m : List (Fct × Int)} {k : Fct} {s : Nat} {b : Int}
    (hE : MapE i w O r x a m q k s) (hx : opv l mo = some (.map (some q))) (hs : opv l so = some (.int .i64 (s : Int))) (hv : opv l vo = some (.int .i64 b)) (hb : inI64 b)
    (h : ∀ w', St (eT i) w O w' O → Ob i w' O (.map (some r)) (⟨mput x.l a (fput m k b)⟩ : MapM) → owp Tryz.prog n ops Q rest l w') : owp Tryz.prog n ops Q (⟨none, .entryStore t mo so vo, ty, pos, aft, none⟩ :: rest) l w := by
  obtain ⟨h1, ⟨b0, h2⟩, h3, es, ck, h4, h5, j, e, h6, h7, h8⟩ := hE
  obtain ⟨m0, g1, g2, g3, g4, g5⟩ := MapM.inner h1 h2
  rw [mgetO_put] at g1
  injection g1 with g1
  subst g1
  have hfi : es.toArray.findIdx? (fun e => (e.born : Int) == (s : Int)) = some j := by
    rw [List.findIdx?_toArray, List.findIdx?_eq_some_iff_getElem]
    have hlt := lt_of_get h6
    have hej : es[j] = e := by rw [List.getElem?_eq_getElem hlt] at h6; injection h6
    refine ⟨hlt, by simp [hej, h8], fun j' hj' => ?_⟩
    have hlt' : j' < es.length := by omega
    simp
    intro hbb
    have hbb : es[j'].born = s := by omega
    have := (List.pairwise_iff_getElem.1 h5.nodup) j' j (by simpa using hlt') (by simpa using hlt) hj'
    simp [hej, h8] at this
    omega
  have hw := MapKept.heap_set (o' := .map (es.toArray.modify j fun e => { e with val := .int .i64 b }) ck) h4
  have hI : IM { w with heap := w.heap.setIfInBounds q (.map (es.toArray.modify j fun e => { e with val := .int .i64 b }) ck) } q (fput m k b) := by
    refine ⟨es.modify j (fun e => { e with val := .int .i64 b }), ck, by rw [hw.1]; congr 2; apply Array.toList_inj.1; rw [Array.toList_modify], ?_⟩
    rcases find_specF k es (fput m k (fget 0 m k)) 0 h5.keys with ⟨z0, _⟩ | ⟨j2, e2, p2, z0, z1, z2, _, z4, _, _, z7⟩
    · rw [h7] at z0; cases z0
    · rw [h7] at z0
      injection z0 with z0
      subst z0
      rw [h6] at z1
      injection z1 with z1
      subst z1
      have hp2 : encK p2.1 = encK k := (h5.val h6 z2).1.symm.trans z4
      rw [show fput m k b = (fput m k (fget 0 m k)).set j (k, b) from by rw [← z7 b, fput_fput]]
      refine ⟨?_, ?_, ?_, ?_, ?_⟩
      · rw [List.map_set, ← h5.keys]
        apply List.ext_getElem?
        intro z
        rw [List.getElem?_map, List.getElem?_modify, List.getElem?_set]
        by_cases hz : j = z
        · subst hz
          have hlt := lt_of_get h6
          have hej : es[j] = e := by rw [List.getElem?_eq_getElem hlt] at h6; injection h6
          simp [hlt, hej, z4]
        · simp [hz]
      · rw [show (es.modify j fun e => { e with val := .int .i64 b }).map (·.born) = es.map (·.born) from by
          apply List.ext_getElem?
          intro z
          rw [List.getElem?_map, List.getElem?_modify, List.getElem?_map]
          by_cases hz : j = z <;> cases es[z]? <;> simp [hz]]
        exact h5.nodup
      · intro e0 h0
        obtain ⟨z, hz⟩ := List.getElem?_of_mem h0
        rw [List.getElem?_modify] at hz
        cases hy : es[z]? with
        | none => rw [hy] at hz; simp at hz
        | some e1 =>
          rw [hy] at hz
          have := h5.old e1 (List.mem_of_getElem? hy)
          simp at hz
          subst hz
          by_cases hz : j = z <;> simp [hz, this]
      · rw [List.map_set, ← h5.vals]
        apply List.ext_getElem?
        intro z
        rw [List.getElem?_map, List.getElem?_modify, List.getElem?_set]
        by_cases hz : j = z
        · subst hz
          have hlt := lt_of_get h6
          simp [h6, hlt]
        · simp [hz]
      · intro p0 hp0
        rcases List.mem_or_eq_of_mem_set hp0 with h0 | h0
        · exact h5.rng _ h0
        · subst h0; exact hb
  obtain ⟨f1, f2⟩ := g5 _ _ (by simp) (fun p hp => hw.2 p hp) hI
  rw [mput_mput] at f1
  refine owp_eff (w' := ({ w with heap := w.heap.setIfInBounds q (.map (es.toArray.modify j fun e => { e with val := .int .i64 b }) ck) } : World)) (fun ac z ha => .inr ⟨z, ?_, ha⟩) (h _ ⟨rfl, rfl, rfl, by simp, fun p hp hT => ⟨hw.2 p fun e => hT (by rw [e]; exact h3.2), rfl⟩⟩ f1)
  have hbd : (dr w z).heap[q]? = some (.map es.toArray ck) := h4
  simp [execOp, ha.eval hx, ha.eval hs, ha.eval hv, Instr.entryStore, MapKept.run_getObj_map hbd, MapKept.run_setObj_map _ hbd, hfi, Result.andThen, asInt, asIntOf]
  rfl
theorem run_equal_mnil {t k e : TypeId} [h : TMap Tryz.prog t k e] (r : Option Nat) (w : World) : (Op.equal t (.map r) (.map none)).run Tryz.prog w = .ok r.isNone w := by
  have hm := h.eq
  have hd : ∀ d : Nat, (Op.equalIn (d + 1) t (.map r) (.map none)).run Tryz.prog w = .ok r.isNone w := fun d => by
    cases r <;> simp [Op.equalIn, run_underlying hm]
  exact hd 9999
/-- A map compared with nil. -/
theorem ev_mn {t k e u : TypeId} [TMap Tryz.prog t k e] {x : Operand} {a : ByteArray} {v : Value} {X : MapM} {dst : Option Tmp} {w0 : World} (hv : InnV i w0 O X a v) (hx : opv l x = some v) : Ev Tryz.prog ⟨dst, .binOp .eql t x (.const (.map none)) u, ty, pos, aft, none⟩ l w (.bool (!mhas X.l a)) := fun _ _ e ha => by
  have hy := ha.eval (x := .const (.map none)) (v := .map none) rfl
  rcases hv with ⟨h1, _, rfl⟩ | ⟨h1, q, m, rfl, _⟩ <;> simp [execOp, ha.eval hx, hy, eqGuard, binOp, run_equal_mnil (t := t), h1]
theorem o_mn {t k e u : TypeId} [TMap Tryz.prog t k e] {x : Operand} {a : ByteArray} {v : Value} {X : MapM} {w0 : World} (hv : InnV i w0 O X a v) (hx : opv l x = some v) (hd : Nat.blt d n = true) (h : owp Tryz.prog n ops Q rest ((d, .bool (!mhas X.l a)) :: l) w) : owp Tryz.prog n ops Q (⟨some d, .binOp .eql t x (.const (.map none)) u, ty, pos, aft, none⟩ :: rest) l w := owp_ev (ev_mn hv hx) hd h
end
/-- A variable that holds a map of maps. -/
structure BxM where
  l : MapM
instance : Ow BxM where
  R w F M v x := ∃ (g : Nat) (L : Lab) (c0 : Value), v = .pointer (some ⟨g, 0, none⟩) ∧ Blk w g 108 [c0] ∧ M g ∧ L g = 0 ∧ Ow.R w F (fun k => M k ∧ L k = 1) c0 x.l
  agree := by rintro w w' F M v x ⟨g, L, c0, rfl, hb, hM, hL, h0⟩ a1 a2; exact ⟨g, L, c0, rfl, hb.keep (a2 g hM), hM, hL, Ow.agree h0 a1 fun k hk => a2 k hk.1⟩
  mono := by rintro w F M F' M' v x ⟨g, L, c0, rfl, hb, hM, hL, h0⟩ a1 a2 a3; exact ⟨g, L, c0, rfl, hb, a2 g hM, hL, Ow.mono h0 a1 (fun k hk => ⟨a2 k hk.1, hk.2⟩) fun k hf hm => a3 k hf hm.1⟩
theorem BxM.opn {i : Nat} {w : World} {O : Lab} {p : Nat} {x : BxM} (h : Ob i w O (.pointer (some ⟨p, 0, none⟩)) x) (l0 l1 : Nat) (hl : l0 ≠ 0 ∧ l1 ≠ 0) : ∃ (O' : Lab) (c0 : Value), St (eT i) w O w O' ∧ (∀ k, Fr i w O k → ∃ q, q ∈ [l0, l1] ∧ Fr q w O' k) ∧ Lc l0 w O' p 108 [c0] ∧ Ob l1 w O' c0 x.l := by
  obtain ⟨⟨g, L, c0, hv, hb, hM, hL, h0⟩, hi⟩ := h
  obtain rfl : p = g := by injection hv with hv; injection hv with hv; injection hv
  exact ⟨part O i L [l0, l1], c0, part_st hi, part_all (by simp), ⟨hb, (part_fr (j := 0) rfl p ⟨hM, hL⟩).2⟩, Ow.mono h0 (part_fr0 hi) (part_fr (j := 1) rfl) (frNe0 hl.2), hl.2⟩
theorem BxM.shut {w : World} {O : Lab} {p : Nat} {x : BxM} {l0 l1 : Nat} {c0 : Value} (hd : ¬ 0 ∈ [l0, l1] ∧ [l0, l1].idxOf l0 = 0 ∧ [l0, l1].idxOf l1 = 1) (hb : Lc l0 w O p 108 [c0]) (h0 : Ob l1 w O c0 x.l) : ∃ O', St (· ∈ [l0, l1]) w O w O' ∧ (∀ k, Fr 0 w O k → Fr 0 w O' k) ∧ (∀ q, q ∈ [l0, l1] → ∀ k, Fr q w O k → Fr l0 w O' k) ∧ Ob l0 w O' (.pointer (some ⟨p, 0, none⟩)) x := by
  have hb1 : l0 ≠ 0 := fun e => hd.1 (by simp [e])
  have hg := whole_fr (i := l0) hd.2.1 (by simp) p ⟨hb.1.lt, hb.2⟩
  exact ⟨whole O l0 [l0, l1], whole_st, whole_fr0 hd.1, whole_all, ⟨p, fun k => [l0, l1].idxOf (O k), c0, rfl, hb.1, hg.1, hg.2, Ow.mono h0.1 (whole_fr0 hd.1) (whole_fr hd.2.2 (by simp)) (fun k a b => frNe0 hb1 k a b.1)⟩, hb1⟩
end
section
open Go Go.RowKit
theorem chunks_int_eq {w : World} {F : Nat → Prop} : ∀ {xs : List Int} {cells : List Value}, Chunks w F cells xs → cells = xs.map (Value.int .i64) ∧ ∀ x ∈ xs, inI64 x
  | [], _, h => ⟨h, fun _ hx => by simp at hx⟩
  | x :: xs, cells, ⟨cs, rest, he, hr, hc⟩ => by
    obtain ⟨h1, h2⟩ := chunks_int_eq hc
    obtain ⟨h3, h4⟩ := hr
    refine ⟨by rw [he, h3, h1]; rfl, fun y hy => ?_⟩
    rcases List.mem_cons.1 hy with rfl | hy
    · exact h4
    · exact h2 y hy
theorem chunks_int_mk {w : World} {F : Nat → Prop} : ∀ {xs : List Int}, (∀ x ∈ xs, inI64 x) → Chunks w F (xs.map (Value.int .i64)) xs
  | [], _ => rfl
  | x :: xs, h => ⟨[.int .i64 x], xs.map (Value.int .i64), rfl, ⟨rfl, h x (by simp)⟩, chunks_int_mk fun y hy => h y (by simp [hy])⟩
def cpyL {α : Type} (a b : List α) : List α := b.take a.length ++ a.drop b.length
def cpn {α : Type} (a b : List α) : Nat := min b.length a.length
/-- How many elements copy has copied; both rows have some. -/
def ckN (xs ys : List Int) : Option Int := if 0 < xs.length ∧ 0 < ys.length ∧ xs.length ≤ 9223372036854775807 then some (cpn xs ys : Int) else none
theorem ckN_rng {xs ys : List Int} {q : Int} (h : ckN xs ys = some q) : inI64 q := by
  obtain ⟨⟨_, _, h3⟩, rfl⟩ := ite_some h
  refine rngNat ?_
  unfold cpn
  omega
/-- A row's first k elements are copied behind them. -/
def cpyR (xs : List Int) (k : Int) : Option (List Int × Int) :=
  if 0 < k ∧ k < xs.length ∧ xs.length ≤ 9223372036854775807 then some (xs.take k.toNat ++ ((xs.take k.toNat).take (xs.length - k.toNat) ++ xs.drop (k.toNat + ((xs.take k.toNat).take (xs.length - k.toNat)).length)), (((xs.take k.toNat).take (xs.length - k.toNat)).length : Int)) else none
section
variable {P : Program} {n : Nat} {ops : Array Oper} {Q : Post} {rest : List Oper} {l : Env} {w : World} {d : Tmp} {ty : TypeId} {pos : String} {aft : Array Edge}
theorem cpyR_L {i : Nat} {O : Lab} {e : TypeId} {A : Option Addr} {m c : Nat} {xs : List Int} {k : Int} {q : List Int × Int} (hR : Rw i w O e (.slice A m c) xs) (h : cpyR xs k = some q) : ∃ A' c', CutB 1 A m c k (m : Int) A' (m - k.toNat) c' := by
  obtain ⟨⟨h1, h2, _⟩, rfl⟩ := ite_some h
  obtain ⟨a, b, _⟩ := hR.len
  subst a
  exact ⟨_, _, k.toNat, xs.length, by omega, rfl, by omega, Nat.le_refl _, by omega, rfl⟩
theorem cpyR_H {i : Nat} {O : Lab} {e : TypeId} {A : Option Addr} {m c : Nat} {xs : List Int} {k : Int} {q : List Int × Int} (hR : Rw i w O e (.slice A m c) xs) (h : cpyR xs k = some q) : ∃ A' c', CutB 1 A m c 0 k A' k.toNat c' := by
  obtain ⟨⟨h1, h2, _⟩, rfl⟩ := ite_some h
  obtain ⟨a, b, _⟩ := hR.len
  subst a
  exact ⟨_, _, 0, k.toNat, rfl, by omega, by omega, by omega, by omega, rfl⟩
/-- Cells of a row are written, those of numbers that can be read. -/
theorem copy_at {i : Nat} {O : Lab} {t1 t2 e : TypeId} [ht : TSlice P t1 e] {z : Value} {bytes : Nat} [hi : TInfo P e z 1 bytes] {x y : Operand} {g c off dl dc sl sc : Nat} {a : Addr} {xs ys : List Int} (hR : Rw i w O e (.slice (some ⟨g, 0, none⟩) xs.length c) xs)
    (hx : opv l x = some (.slice (some ⟨g, off, none⟩) dl dc)) (hy : opv l y = some (.slice (some a) sl sc)) (hys : ys.length = Nat.min sl dl) (hin2 : ∀ y ∈ ys, inI64 y) (hsrc : ∀ j (v : Int), ys[j]? = some v → w.cell? (a.add j) = some (.int .i64 v)) (hof : off + ys.length ≤ xs.length) (hp : 0 < xs.length) (hd : Nat.blt d n = true)
    (h : ∀ w', St (eT i) w O w' O → Rw i w' O e (.slice (some ⟨g, 0, none⟩) xs.length c) (xs.take off ++ (ys ++ xs.drop (off + ys.length))) → owp P n ops Q rest ((d, .int .i64 (ys.length : Int)) :: l) w') : owp P n ops Q (⟨some d, .call { callee := .builtin .copy, args := #[x, y], argTypes := #[t1, t2] }, ty, pos, aft, none⟩ :: rest) l w := by
  have hsz : ((P.info? e).map (·.size)) = some 1 := by obtain ⟨inf, e1, _, e3, _⟩ := hi.eq; rw [e1]; simp [e3]
  obtain ⟨g', cap, cells2, sp, hv2, hg, hF, hblk, hch, hl2, hn2, hm2, ht2⟩ := hR.1.open hp
  injection hv2 with e1 e2 e3
  injection e1 with e1
  injection e1 with e1 _ _
  subst e1; subst e3
  obtain ⟨rfl, hin⟩ := chunks_int_eq hch
  have hbl : w.heap[g]? = some (.cells (xs.map (Value.int .i64) ++ sp).toArray e (0, 0)) := hblk
  let cs := ys.map (Value.int .i64)
  have hcl : cs.length = ys.length := by simp [cs]
  let new := ((xs.map (Value.int .i64) ++ sp).take off ++ cs ++ (xs.map (Value.int .i64) ++ sp).drop (off + cs.length)).toArray
  have hrun : ∀ z, (Builtin.copy_ #[t1, t2] ty #[.slice (some ⟨g, off, none⟩) dl dc, .slice (some a) sl sc]).run P (dr w z) = .ok (goInt cs.length) (dr (w.setRow g new) z) := fun z => by
    have hbl' : (dr w z).heap[g]? = some (.cells (xs.map (Value.int .i64) ++ sp).toArray e (0, 0)) := hbl
    have := run_copy_row (P := P) (dr w z) t1 t2 ty e g off dl dc a sl sc _ e cs ht.eq hsz hbl' (by rw [hcl]; exact hys) (fun j v hj => by
      simp only [cs, List.getElem?_map] at hj
      cases hq : ys[j]? with
      | none => rw [hq] at hj; simp at hj
      | some q => rw [hq] at hj; simp at hj; subst hj; exact hsrc j q hq) (by simp [hcl]; omega) (fun v hv => by
      obtain ⟨a, _, rfl⟩ := List.mem_map.1 hv
      rfl)
    rw [this]
    rfl
  have hcp : new = ((xs.take off ++ (ys ++ xs.drop (off + ys.length))).map (Value.int .i64) ++ sp).toArray := by
    simp only [new, hcl, cs]
    congr 1
    rw [List.take_append_of_le_length (by simp; omega), List.drop_append_of_le_length (by simp; omega)]
    simp only [List.map_append, List.append_assoc, List.map_drop, List.map_take]
  refine owp_eff (w' := w.setRow g new) (fun ac z ha => .inl ⟨goInt cs.length, z, ?_, ha.put hd _⟩) ?_
  · simp [execOp, resolve, invoke, builtin, ha.eval hx, ha.eval hy, hrun z]
  · have hK : ∀ cs, St (eT i) w O (w.setRow g cs) O := fun cs => ⟨rfl, rfl, rfl, by simp, fun k hk hT => ⟨setRow_other w g k cs fun e => hT (by rw [e]; exact hR.2.1 g rfl), rfl⟩⟩
    have hlen : (xs.take off ++ (ys ++ xs.drop (off + ys.length))).length = xs.length := by simp; omega
    have hgo : goInt cs.length = .int .i64 (ys.length : Int) := by rw [hcl]; rfl
    rw [hgo]
    refine h _ (hK _) ?_
    have hb2 : Blk (w.setRow g new) g e ((xs.take off ++ (ys ++ xs.drop (off + ys.length))).map (Value.int .i64) ++ sp) := by
      rw [hcp]; exact setRow_heap w g _ _ e (0, 0) hbl
    have hall : ∀ a ∈ xs.take off ++ (ys ++ xs.drop (off + ys.length)), inI64 a := fun a ha => by
      rcases List.mem_append.1 ha with h | h
      · exact hin a (List.mem_of_mem_take h)
      · rcases List.mem_append.1 h with h | h
        · exact hin2 a h
        · exact hin a (List.mem_of_mem_drop h)
    have := Own.close (base := 0) (cap := c) (F := Fr 0 (w.setRow g new) O) (Nat.zero_le g) (fun hq => hR.2.2 ((hR.2.1 g rfl).symm.trans hq.2)) hb2 (chunks_int_mk hall) (by rw [hlen]; exact hn2) hm2 (by
      have := ht2
      simp only [List.length_append, List.length_map] at this hlen ⊢
      rw [hlen]
      exact this)
    rw [hlen] at this
    exact ⟨this, hR.2.1, hR.2.2⟩
/-- A row is copied to the beginning of another one. -/
theorem l_copyK {i : Nat} {O : Lab} {t1 t2 e : TypeId} [ht : TSlice P t1 e] {z : Value} {bytes : Nat} [hi : TInfo P e z 1 bytes] {x y : Operand} {A : Option Addr} {m c : Nat} {v : Value} {xs ys : List Int} (hR : Rw i w O e (.slice A m c) xs) (hv : Vb w (Fr 0 w O) v ys) {q : Int} (he : ckN xs ys = some q) (hx : opv l x = some (.slice A m c)) (hy : opv l y = some v) (hd : Nat.blt d n = true)
    (h : ∀ w', St (eT i) w O w' O → Rw i w' O e (.slice A m c) (cpyL xs ys) → owp P n ops Q rest ((d, .int .i64 q) :: l) w') : owp P n ops Q (⟨some d, .call { callee := .builtin .copy, args := #[x, y], argTypes := #[t1, t2] }, ty, pos, aft, none⟩ :: rest) l w := by
  obtain ⟨⟨n1, n2, _⟩, rfl⟩ := ite_some he
  have hne : 0 < xs.length ∧ 0 < ys.length := ⟨n1, n2⟩
  obtain rfl := hR.len.1
  obtain ⟨A', c', cells, rfl, h1, h2, h3, h4⟩ := hv.rd
  obtain ⟨rfl, hin⟩ := chunks_int_eq h3
  obtain ⟨b, o, rfl, hat⟩ := h4 hne.2
  obtain ⟨g, cap, cells2, sp, hv2, _⟩ := hR.1.open hne.1
  injection hv2 with e1 e2 e3
  subst e1; subst e3
  have hlen : (ys.take xs.length).length = cpn xs ys := by simp [cpn, Nat.min_comm]
  refine copy_at (ys := ys.take xs.length) (off := 0) hR hx hy (by simp [Nat.min_comm]) (fun y hy => hin y (List.mem_of_mem_take hy)) (fun j v hj => ?_) (by simp; omega) hne.1 hd fun w' hS hR' => ?_
  · rw [add_mk]
    refine cellsAt_get hat j _ ?_
    rw [List.getElem?_take] at hj
    split at hj
    · rw [List.getElem?_map, hj]; rfl
    · simp at hj
  · rw [hlen]
    refine h w' hS ?_
    have : xs.take 0 ++ (ys.take xs.length ++ xs.drop (0 + (ys.take xs.length).length)) = cpyL xs ys := by
      unfold cpyL
      rw [List.take_zero, List.nil_append, Nat.zero_add]
      congr 1
      by_cases hx2 : xs.length ≤ ys.length
      · rw [List.drop_of_length_le (by rw [List.length_take]; omega), List.drop_of_length_le hx2]
      · rw [List.length_take, Nat.min_eq_right (by omega)]
    rwa [this] at hR'
/-- Inside a row. -/
theorem l_copyR {i : Nat} {O : Lab} {t1 t2 e : TypeId} [ht : TSlice P t1 e] {z : Value} {bytes : Nat} [hi : TInfo P e z 1 bytes] {x y : Operand} {A A1 A2 : Option Addr} {m c c1 c2 : Nat} {xs : List Int} {k : Int} {q : List Int × Int} (hR : Rw i w O e (.slice A m c) xs) (hq : cpyR xs k = some q)
    (hc1 : CutB 1 A m c k (m : Int) A1 (m - k.toNat) c1) (hc2 : CutB 1 A m c 0 k A2 k.toNat c2) (hx : opv l x = some (.slice A1 (m - k.toNat) c1)) (hy : opv l y = some (.slice A2 k.toNat c2)) (hd : Nat.blt d n = true)
    (h : ∀ w', St (eT i) w O w' O → Rw i w' O e (.slice A m c) q.1 → owp P n ops Q rest ((d, .int .i64 q.2) :: l) w') : owp P n ops Q (⟨some d, .call { callee := .builtin .copy, args := #[x, y], argTypes := #[t1, t2] }, ty, pos, aft, none⟩ :: rest) l w := by
  obtain ⟨⟨h1, h2, _⟩, rfl⟩ := ite_some hq
  obtain rfl := hR.len.1
  have hcc := hR.len.2.1
  obtain ⟨g, cap, cells2, sp, hv2, _, _, hblk, hch, _⟩ := hR.1.open (by omega)
  injection hv2 with e1 e2 e3
  subst e1; subst e3
  obtain ⟨rfl, hin⟩ := chunks_int_eq hch
  obtain ⟨k', rfl⟩ : ∃ k' : Nat, k = (k' : Int) := ⟨k.toNat, by omega⟩
  simp only [Int.toNat_natCast] at *
  obtain ⟨lo1, hi1, a1, a2, a3, a4, a5, a6⟩ := hc1
  obtain ⟨lo2, hi2, b1, b2, b3, b4, b5, b6⟩ := hc2
  obtain rfl : lo1 = k' := by omega
  obtain rfl : hi2 = lo1 := by omega
  obtain rfl : lo2 = 0 := by omega
  rw [if_neg (by omega)] at a6 b6
  injection a6 with a6 a7 a8
  injection b6 with b6 b7 b8
  subst a6; subst b6
  have hx' : opv l x = some (.slice (some ⟨g, hi2, none⟩) (xs.length - hi2) c1) := by rw [hx]; simp [add_mk]
  have hy' : opv l y = some (.slice (some ⟨g, 0, none⟩) hi2 c2) := by rw [hy]; simp [add_mk]
  refine copy_at (ys := (xs.take hi2).take (xs.length - hi2)) (off := hi2) hR hx' hy' (by show _ = min _ _; simp; omega) (fun y hy => hin y (List.mem_of_mem_take (List.mem_of_mem_take hy))) (fun j v hj => ?_) (by simp; omega) (by omega) hd h
  rw [List.getElem?_take] at hj
  split at hj
  · rw [List.getElem?_take] at hj
    split at hj
    · have := hblk.cell (i := j) (v := .int .i64 v) (by rw [List.getElem?_append_left (by simp; exact lt_of_get hj), List.getElem?_map, hj]; rfl)
      rw [add_mk]; simpa using this
    · simp at hj
  · simp at hj
end
end
section
open Go.Shelf
def Tryz.laysM171_ren : Go.Shelf.Ren := ⟨fun | 171 => 66 | 243 => 81 | 246 => 90 | 283 => 112 | 284 => 113 | 285 => 114 | 286 => 115 | 129 => 101 | 317 => 126 | 318 => 127 | 319 => 128 | 320 => 129 | 337 => 132 | 338 => 133 | n => n, fun | 3 => 3 | 9 => 9 | 2 => 2 | 4 => 4 | 171 => 157 | 0 => 0 | 53 => 125 | 37 => 159 | 5 => 5 | 173 => 160 | 212 => 172 | 51 => 122 | 20 => 20 | 213 => 173 | 46 => 100 | 232 => 178 | 233 => 179 | n => n, fun | 17 => 0 | 18 => 1 | 19 => 2 | n => n⟩
theorem Tryz.laysM171 : Go.Proofs.LaysM.n171 Tryz.prog Tryz.laysM171_ren := {
  mixed := by kernel_rfl
  f129 := Tryz.func101.trans (congrArg some (by kernel_rfl))
  f171 := Tryz.func66.trans (congrArg some (by kernel_rfl))
  f243 := Tryz.func81.trans (congrArg some (by kernel_rfl))
  f246 := Tryz.func90.trans (congrArg some (by kernel_rfl))
  f283 := Tryz.func112.trans (congrArg some (by kernel_rfl))
  f284 := Tryz.func113.trans (congrArg some (by kernel_rfl))
  f285 := Tryz.func114.trans (congrArg some (by kernel_rfl))
  f286 := Tryz.func115.trans (congrArg some (by kernel_rfl))
  f317 := Tryz.func126.trans (congrArg some (by kernel_rfl))
  f318 := Tryz.func127.trans (congrArg some (by kernel_rfl))
  f319 := Tryz.func128.trans (congrArg some (by kernel_rfl))
  f320 := Tryz.func129.trans (congrArg some (by kernel_rfl))
  f337 := Tryz.func132.trans (congrArg some (by kernel_rfl))
  f338 := Tryz.func133.trans (congrArg some (by kernel_rfl))
  t0 := Tryz.underlying0
  a0 := Tryz.isAgg0
  z0 := Tryz.sizeOf0
  v0 := Tryz.zeroValue0
  t2 := Tryz.underlying2
  a2 := Tryz.isAgg2
  z2 := Tryz.sizeOf2
  v2 := Tryz.zeroValue2
  t3 := Tryz.underlying3
  a3 := Tryz.isAgg3
  z3 := Tryz.sizeOf3
  v3 := Tryz.zeroValue3
  t4 := Tryz.underlying4
  a4 := Tryz.isAgg4
  z4 := Tryz.sizeOf4
  v4 := Tryz.zeroValue4
  t5 := Tryz.underlying5
  a5 := Tryz.isAgg5
  z5 := Tryz.sizeOf5
  v5 := Tryz.zeroValue5
  t9 := Tryz.underlying9
  a9 := Tryz.isAgg9
  z9 := Tryz.sizeOf9
  v9 := Tryz.zeroValue9
  t20 := Tryz.underlying20
  a20 := Tryz.isAgg20
  z20 := Tryz.sizeOf20
  v20 := Tryz.zeroValue20
  t37 := Tryz.underlying159
  a37 := Tryz.isAgg159
  z37 := Tryz.sizeOf159
  v37 := Tryz.zeroValue159
  t46 := Tryz.underlying100
  a46 := Tryz.isAgg100
  z46 := Tryz.sizeOf100
  v46 := Tryz.zeroValue100
  t51 := Tryz.underlying122
  a51 := Tryz.isAgg122
  z51 := Tryz.sizeOf122
  v51 := Tryz.zeroValue122
  t53 := Tryz.underlying125
  a53 := Tryz.isAgg125
  z53 := Tryz.sizeOf125
  v53 := Tryz.zeroValue125
  t171 := Tryz.underlying157
  a171 := Tryz.isAgg157
  z171 := Tryz.sizeOf157
  v171 := Tryz.zeroValue157
  t173 := Tryz.underlying160
  a173 := Tryz.isAgg160
  z173 := Tryz.sizeOf160
  v173 := Tryz.zeroValue160
  t212 := Tryz.underlying172
  a212 := Tryz.isAgg172
  z212 := Tryz.sizeOf172
  v212 := Tryz.zeroValue172
  t213 := Tryz.underlying173
  a213 := Tryz.isAgg173
  z213 := Tryz.sizeOf173
  t232 := Tryz.underlying178
  a232 := Tryz.isAgg178
  z232 := Tryz.sizeOf178
  v232 := Tryz.zeroValue178
  t233 := Tryz.underlying179
  a233 := Tryz.isAgg179
  z233 := Tryz.sizeOf179
  v233 := Tryz.zeroValue179
  g17 := by kernel_rfl
  g18 := by kernel_rfl
  g19 := by kernel_rfl
  i0 := by kernel_rfl
  i2 := by kernel_rfl
  i3 := by kernel_rfl
  i4 := by kernel_rfl
  i5 := by kernel_rfl
  i9 := by kernel_rfl
  i20 := by kernel_rfl
  i37 := by kernel_rfl
  i46 := by kernel_rfl
  i51 := by kernel_rfl
  i53 := by kernel_rfl
  i171 := by kernel_rfl
  i173 := by kernel_rfl
  i212 := by kernel_rfl
  i232 := by kernel_rfl
  i233 := by kernel_rfl
  m17 := by kernel_rfl
  m18 := by kernel_rfl
  m19 := by kernel_rfl }
open Go.RowKit Go.Sort Go.Lib in
/-- strconv.Itoa: "Itoa is equivalent to FormatInt(int64(i), 10).": i's DECIMAL NUMERAL ('Lib.itoa': a '-' where i is negative, then the digits), FOR EVERY int. The world behind the call: the world before it, new blocks behind the heap (the library's 'var a [24]byte'), draws. (LAID: no walk: one application.) -/
theorem Tryz.strconv_Itoa (n : Int) (h0 : -9223372036854775808 ≤ n) (h1 : n ≤ 9223372036854775807) (w : World) (htab : Lib.TabIs Tryz.prog w "internal/strconv.uint64pow10" .u64 Lib.pow10Tab) :
    Calls Tryz.prog 66 #[.int .i64 n] w fun e w' => e = .returned (.string ⟨(Lib.itoa n).toArray⟩) ∧ ∃ k os, w' = grow (w.drewN k) os := Any.strconv_Itoa Tryz.laysM171 n h0 h1 w htab
open Go.RowKit Go.Sort Go.Lib in
def Tryz.lays190_ren : Go.Shelf.Ren := ⟨fun | 190 => 67 | 125 => 83 | 258 => 82 | 128 => 100 | 129 => 101 | 302 => 91 | 303 => 92 | 304 => 93 | 305 => 94 | 306 => 95 | 307 => 96 | 308 => 97 | 309 => 98 | 310 => 99 | 333 => 116 | 329 => 117 | 330 => 118 | 334 => 119 | 335 => 120 | 336 => 121 | 344 => 130 | n => n, fun | 31 => 80 | 9 => 9 | 3 => 3 | 46 => 100 | 0 => 0 | 51 => 122 | 53 => 125 | 4 => 4 | 183 => 142 | 182 => 141 | 131 => 147 | 5 => 5 | 218 => 162 | 222 => 166 | 228 => 174 | 229 => 175 | n => n, fun | n => n⟩
theorem Tryz.lays190 : Go.Proofs.Lays.n190 Tryz.prog Tryz.lays190_ren := {
  mixed := by kernel_rfl
  f125 := Tryz.func83.trans (congrArg some (by kernel_rfl))
  f128 := Tryz.func100.trans (congrArg some (by kernel_rfl))
  f129 := Tryz.func101.trans (congrArg some (by kernel_rfl))
  f190 := Tryz.func67.trans (congrArg some (by kernel_rfl))
  f258 := Tryz.func82.trans (congrArg some (by kernel_rfl))
  f302 := Tryz.func91.trans (congrArg some (by kernel_rfl))
  f303 := Tryz.func92.trans (congrArg some (by kernel_rfl))
  f304 := Tryz.func93.trans (congrArg some (by kernel_rfl))
  f305 := Tryz.func94.trans (congrArg some (by kernel_rfl))
  f306 := Tryz.func95.trans (congrArg some (by kernel_rfl))
  f307 := Tryz.func96.trans (congrArg some (by kernel_rfl))
  f308 := Tryz.func97.trans (congrArg some (by kernel_rfl))
  f309 := Tryz.func98.trans (congrArg some (by kernel_rfl))
  f310 := Tryz.func99.trans (congrArg some (by kernel_rfl))
  f329 := Tryz.func117.trans (congrArg some (by kernel_rfl))
  f330 := Tryz.func118.trans (congrArg some (by kernel_rfl))
  f333 := Tryz.func116.trans (congrArg some (by kernel_rfl))
  f334 := Tryz.func119.trans (congrArg some (by kernel_rfl))
  f335 := Tryz.func120.trans (congrArg some (by kernel_rfl))
  f336 := Tryz.func121.trans (congrArg some (by kernel_rfl))
  f344 := Tryz.func130.trans (congrArg some (by kernel_rfl))
  t0 := Tryz.underlying0
  a0 := Tryz.isAgg0
  z0 := Tryz.sizeOf0
  v0 := Tryz.zeroValue0
  t3 := Tryz.underlying3
  a3 := Tryz.isAgg3
  z3 := Tryz.sizeOf3
  v3 := Tryz.zeroValue3
  t4 := Tryz.underlying4
  a4 := Tryz.isAgg4
  z4 := Tryz.sizeOf4
  v4 := Tryz.zeroValue4
  t5 := Tryz.underlying5
  a5 := Tryz.isAgg5
  z5 := Tryz.sizeOf5
  v5 := Tryz.zeroValue5
  t9 := Tryz.underlying9
  a9 := Tryz.isAgg9
  z9 := Tryz.sizeOf9
  v9 := Tryz.zeroValue9
  t31 := Tryz.underlying80
  a31 := Tryz.isAgg80
  z31 := Tryz.sizeOf80
  v31 := Tryz.zeroValue80
  t46 := Tryz.underlying100
  a46 := Tryz.isAgg100
  z46 := Tryz.sizeOf100
  v46 := Tryz.zeroValue100
  t51 := Tryz.underlying122
  a51 := Tryz.isAgg122
  z51 := Tryz.sizeOf122
  v51 := Tryz.zeroValue122
  t53 := Tryz.underlying125
  a53 := Tryz.isAgg125
  z53 := Tryz.sizeOf125
  v53 := Tryz.zeroValue125
  t131 := Tryz.underlying147
  a131 := Tryz.isAgg147
  z131 := Tryz.sizeOf147
  v131 := Tryz.zeroValue147
  t182 := Tryz.underlying141
  a182 := Tryz.isAgg141
  z182 := Tryz.sizeOf141
  v182 := Tryz.zeroValue141
  t183 := Tryz.underlying142
  a183 := Tryz.isAgg142
  z183 := Tryz.sizeOf142
  v183 := Tryz.zeroValue142
  t218 := Tryz.underlying162
  a218 := Tryz.isAgg162
  z218 := Tryz.sizeOf162
  v218 := Tryz.zeroValue162
  t222 := Tryz.underlying166
  a222 := Tryz.isAgg166
  z222 := Tryz.sizeOf166
  v222 := Tryz.zeroValue166
  t228 := Tryz.underlying174
  a228 := Tryz.isAgg174
  z228 := Tryz.sizeOf174
  v228 := Tryz.zeroValue174
  t229 := Tryz.underlying175
  a229 := Tryz.isAgg175
  z229 := Tryz.sizeOf175
  v229 := Tryz.zeroValue175 }
open Go.Sort Go.RowKit in
theorem Tryz.slices_Sort_string (blk off cap : Nat) (ss : List (List UInt8)) (w : World) (hH : Holds encStr w blk off ss.toArray) (hblk : blk < w.heap.size) (hsz : ss.length < 4611686018427387904) :
    Calls Tryz.prog 67 #[.slice (some ⟨blk, off, none⟩) ss.length cap] w fun e w' =>
      e = .returned (.tuple #[]) ∧ ∃ n os, w' = grow (putRow encStr (Sort.ahead w n) blk off (ss.mergeSort fun x y => decide (x ≤ y)).toArray) os := Any.slices_Sort_string Tryz.lays190 blk off cap ss w hH hblk hsz
def Tryz.lays212_ren : Go.Shelf.Ren := ⟨fun | 212 => 59 | 263 => 77 | 264 => 78 | n => n, fun | 46 => 100 | 51 => 122 | 146 => 123 | 53 => 125 | 148 => 126 | n => n, fun | n => n⟩
theorem Tryz.lays212 : Go.Proofs.Lays.n212 Tryz.prog Tryz.lays212_ren := {
  mixed := by kernel_rfl
  f212 := Tryz.func59.trans (congrArg some (by kernel_rfl))
  f263 := Tryz.func77.trans (congrArg some (by kernel_rfl))
  f264 := Tryz.func78.trans (congrArg some (by kernel_rfl))
  t46 := Tryz.underlying100
  a46 := Tryz.isAgg100
  z46 := Tryz.sizeOf100
  v46 := Tryz.zeroValue100
  t51 := Tryz.underlying122
  a51 := Tryz.isAgg122
  z51 := Tryz.sizeOf122
  v51 := Tryz.zeroValue122
  t53 := Tryz.underlying125
  a53 := Tryz.isAgg125
  z53 := Tryz.sizeOf125
  v53 := Tryz.zeroValue125
  t146 := Tryz.underlying123
  a146 := Tryz.isAgg123
  z146 := Tryz.sizeOf123
  v146 := Tryz.zeroValue123
  t148 := Tryz.underlying126
  a148 := Tryz.isAgg126
  z148 := Tryz.sizeOf126
  v148 := Tryz.zeroValue126 }
open Go.RowKit Go.Lib in
/-- math/bits.Mul: "Mul returns the full-width product of x and y": on a machine of 64 bits: Mul64's. (LAID: no walk: one application.) -/
theorem Tryz.bits_Mul (x y : Nat) (hx : x < 18446744073709551616) (hy : y < 18446744073709551616) (w : World) :
    Calls Tryz.prog 59 #[.int .u64 x, .int .u64 y] w fun e w' => e = .returned (.tuple #[.int .u64 ((x * y / 18446744073709551616 : Nat) : Int), .int .u64 ((x * y % 18446744073709551616 : Nat) : Int)]) ∧ w' = w := Any.bits_Mul Tryz.lays212 x y hx hy w
open Go.RowKit Go.Sort in
/-- .. and plain. (LAID: no walk: one application.) -/
theorem Tryz.slices_Sort_string_none (p : Option Addr) (cap : Nat) (w : World) :
    Calls Tryz.prog 67 #[.slice p 0 cap] w fun e w' => e = .returned (.tuple #[]) ∧ w' = w := Any.slices_Sort_string_none Tryz.lays190 p cap w
end
end Go.Proofs.YtdhaelekmjgbmaaGreatDoor

/- Own text: what the proof of symmetryCanonical_holds uses, part 3: rules, models and their proofs, plain laws. -/
import Derived.Test.YtdhaelekmjgbmaaPCanB
namespace Go.Proofs.Ytdhaelekmjgbmaa
open Go Go.RowKit
section
open Go Go.RowKit
attribute [local irreducible] ewp owp hwp hwq Ev Evg Fn retPost Res1
structure Swp where
  vars : List Int
  vals : List (List Int)
  ops : List Int
instance : Rp Swp where
  isAgg := true
  size := 3
  R w F cs x := ∃ v0 v1 v2, cs = [v0, v1, v2] ∧ Vb w F v0 x.vars ∧ Vb w F v1 x.vals ∧ Vb w F v2 x.ops
  len := by rintro w F cs x ⟨v0, v1, v2, rfl, h0, h1, h2⟩; rfl
  one := by rintro w F cs x ⟨v0, v1, v2, rfl, h0, h1, h2⟩ u hu; simp at hu; rcases hu with rfl | rfl | rfl <;> first | rfl | exact Vb.one rfl (by assumption)
  agree := by rintro w w' F cs x ⟨v0, v1, v2, rfl, h0, h1, h2⟩ ha; exact ⟨v0, v1, v2, rfl, h0.agree ha, h1.agree ha, h2.agree ha⟩
  mono := by rintro w F G cs x ⟨v0, v1, v2, rfl, h0, h1, h2⟩ ha; exact ⟨v0, v1, v2, rfl, h0.mono ha, h1.mono ha, h2.mono ha⟩
noncomputable def m_slices_Equal_Lapi_Fact_api_Fact (x0 : List Fct) (x1 : List Fct) : Option Bool :=
  if (x0.length : Int) ≠ (x1.length : Int) then (some false) else (bnd (rng (ρ := Bool) (fun (k18 : Nat) (a19 : Fct) (s16 : Unit) => bnd (x1[k18]?) fun a38 => if ¬ (a19.var = a38.var ∧ a19.val = a38.val) then (some (.ret false)) else (some (.next ()))) x0 0 ()) fun res14 => fin res14 fun (s54 : Unit) => some true)
theorem c_slices_Equal_Lapi_Fact_api_Fact {w : World} {A : Nat → Prop} (hA : ∀ k, A k → k < w.heap.size) {vx0 : Value} {x0 : List Fct} (hx0 : Vb w A vx0 x0) {vx1 : Value} {x1 : List Fct} (hx1 : Vb w A vx1 x1) {r : Bool} (hm : m_slices_Equal_Lapi_Fact_api_Fact x0 x1 = some r) :
    Fn Try.prog 71 [vx0, vx1] w fun v w' => Ext w w' ∧ Vb w' (upA A w w') v r := by
 obtain ⟨O, hB, hA0⟩ := enter hA
 replace hx0 := hx0.mono hA0
 obtain ⟨A3, c4, rfl⟩ := hx0.form
 replace hx1 := hx1.mono hA0
 obtain ⟨A5, c6, rfl⟩ := hx1.form
 refine fn_enter Try.func71 rfl Try.ntmps71 rfl ?_
 unfold m_slices_Equal_Lapi_Fact_api_Fact at hm
 refine ewp_seq (ewp_region (o_as rfl rfl (o_z ?_)))
 refine ewp_seq (ewp_seq (ewp_region (o_mv rfl rfl (o_ln rfl rfl ?_))))
 have l8 : x0.length ≤ 9223372036854775807 := Nat.le_trans hx0.len.2.1 hx0.len.2.2
 have r7 : inI64 (x0.length : Int) := rngNat l8
 refine o_mv rfl rfl (o_ln rfl rfl ?_)
 have l10 : x1.length ≤ 9223372036854775807 := Nat.le_trans hx1.len.2.1 hx1.len.2.2
 have r9 : inI64 (x1.length : Int) := rngNat l10
 refine o_neS rfl rfl rfl (fun c11 => ?_) fun c11 => ?_
 ·
  replace hm := ip hm c11
  refine o_z ?_
  refine ewp_true rfl (ewp_seq (ewp_region (o_as rfl rfl (o_z ?_))))
  refine ewp_ret ?_
  obtain rfl := sm hm
  exact ret1v rfl (res_tmp rfl) ⟨hB.ext, vBool⟩
 ·
  replace hm := im hm c11
  refine o_z ?_
  refine ewp_false rfl (ewp_skip (ewp_seq (ewp_seq (ewp_region (o_mv rfl rfl (o_ln rfl rfl ?_))))))
  have l13 : x0.length ≤ 9223372036854775807 := Nat.le_trans hx0.len.2.1 hx0.len.2.2
  have r12 : inI64 (x0.length : Int) := rngNat l13
  refine o_mv rfl rfl (o_z ?_)
  obtain ⟨res14, hL15, hm⟩ := bs hm
  refine ewp_join (aft res14 (fun (s16 : Unit) (x17 : Unit) => []) (fun s16 x17 w' => ∃ O' : Lab, Bs w A w' O')) ?_ ?_
  ·
   refine ewp_block (ewp_rng (σ := Unit) (X := Unit) (x0.length) hL15 rfl l13 (fun (s16 : Unit) (x17 : Unit) => [(0, (.slice A3 x0.length c4)), (1, (.slice A5 x1.length c6))]) _ (fun s16 x17 w' => ∃ O' : Lab, Bs w A w' O' ∧ Vb w' (Fr 0 w' O') (.slice A3 x0.length c4) x0 ∧ Vb w' (Fr 0 w' O') (.slice A5 x1.length c6) x1) _ () ⟨O, hB, hx0, hx1⟩ ⟨rfl, rfl, rfl, rfl, trivial⟩ (fun _ _ => ⟨rfl, rfl⟩) (fun _ _ => trivial) (fun _ _ _ ⟨O', hB, hx0, hx1⟩ => ⟨O', hB⟩) ⟨rfl, rfl, rfl⟩ ⟨rfl, rfl⟩ ?_)
   rintro k18 a19 s16 x17 w20 cc22 hx23 ⟨O21, hB, hx0, hx1⟩ hf24 hret25 hbrk26
   have rk18 : inI64 (k18 : Int) := rngK hx23 l13
   refine ewp_seq (ewp_region (o_mv rfl rfl (o_as rfl rfl (o_z ?_))))
   refine ewp_seq (ewp_draw (· = w20) [(0, true), (1, true), (2, true), (3, true), (4, true), (5, true), (6, true), (7, true), (8, true)] (by kernel_rfl) rfl (by kernel_rfl) rfl ?_)
   refine h_mv rfl rfl rfl (h_mv rfl rfl rfl ?_)
   obtain ⟨b29, o30, ce31, hA32, hl33, hd34, rfl, r36, r37⟩ := hx0.elem' hx23
   refine h_iaE (hA := hA32) (hj := rfl) (hlt := hl33) rfl rfl rfl rfl ?_
   refine h_laA (hl := rfl) (hc := hd34) rfl rfl rfl ?_
   refine h_mv rfl rfl rfl (h_mv rfl rfl rfl ?_)
   obtain ⟨a38, e39, hf24⟩ := bs hf24
   obtain ⟨b40, o41, ce42, hA43, hl44, hd45, rfl, r47, r48⟩ := hx1.elem' e39
   refine h_iaE (hA := hA43) (hj := rfl) (hlt := hl44) rfl rfl rfl rfl ?_
   refine h_laA (hl := rfl) (hc := hd45) rfl rfl rfl ?_
   refine h_fnS rfl rfl rfl rfl (fun c49 => ?_) fun c49 => ?_
   ·
    replace hf24 := ip hf24 c49
    refine h_z ?_
    refine ewp_true rfl (ewp_seq (ewp_region (o_as rfl rfl (o_z ?_))))
    refine ewp_ret ?_
    obtain rfl := sm hf24
    obtain rfl := hret25 _ rfl
    obtain rfl := sm (fin_ret hm)
    exact ret1v rfl (res_tmp rfl) ⟨hB.ext, vBool⟩
   ·
    replace hf24 := im hf24 c49
    refine h_z ?_
    refine ewp_false rfl (ewp_skip ?_)
    obtain rfl := sm hf24
    refine (?_ : Exists _)
    exact ⟨_, (), rfl, ⟨rfl, rfl, rfl, rfl, trivial⟩, _, hB, hx0, hx1⟩
  rintro l50 w51 ⟨s54, x55, rfl, hs53, O52, hB⟩
  replace hm := fin_done hm
  refine ewp_sub _ hs53 ?_
  refine ewp_seq (ewp_region (o_as rfl rfl (o_z ?_)))
  refine ewp_ret ?_
  obtain rfl := sm hm
  exact ret1v rfl (res_tmp rfl) ⟨hB.ext, vBool⟩
noncomputable def m_symmetry_permutation (x0 : List Int) (x1 : Int) : Option Bool :=
  if (x0.length : Int) ≠ x1 then (some false) else (bnd (mkI 1 (false : Bool) x1) fun u8 => bnd (rng (ρ := Bool) (fun (k27 : Nat) (a28 : Int) (s25 : (List Bool)) => bnd (if a28 < 0 then (some true) else (if x1 ≤ a28 then (some true) else (bnd (atI s25 a28) fun a56 => some a56)) : Option Bool) fun y50 => if y50 = true then (some (.ret false)) else (bnd (atI s25 a28) fun a72 => some (.next (s25.set (a28 : Int).toNat true)))) x0 0 u8) fun res23 => fin res23 fun (s89 : (List Bool)) => some true)
theorem c_symmetry_permutation {w : World} {A : Nat → Prop} (hA : ∀ k, A k → k < w.heap.size) {vx0 : Value} {x0 : List Int} (hx0 : Vb w A vx0 x0) {x1 : Int} (rx1 : inI64 x1) {r : Bool} (hm : m_symmetry_permutation x0 x1 = some r) :
    Fn Try.prog 70 [vx0, (.int .i64 x1)] w fun v w' => Ext w w' ∧ Vb w' (upA A w w') v r := by
 obtain ⟨O, hB, hA0⟩ := enter hA
 replace hx0 := hx0.mono hA0
 obtain ⟨A3, c4, rfl⟩ := hx0.form
 refine fn_enter Try.func70 rfl Try.ntmps70 rfl ?_
 unfold m_symmetry_permutation at hm
 refine ewp_seq (ewp_region (o_as rfl rfl (o_z ?_)))
 refine ewp_seq (ewp_seq (ewp_region (o_mv rfl rfl (o_ln rfl rfl ?_))))
 have l6 : x0.length ≤ 9223372036854775807 := Nat.le_trans hx0.len.2.1 hx0.len.2.2
 have r5 : inI64 (x0.length : Int) := rngNat l6
 refine o_mv rfl rfl (o_neS rfl rfl rfl (fun c7 => ?_) fun c7 => ?_)
 ·
  replace hm := ip hm c7
  refine o_z ?_
  refine ewp_true rfl (ewp_seq (ewp_region (o_as rfl rfl (o_z ?_))))
  refine ewp_ret ?_
  obtain rfl := sm hm
  exact ret1v rfl (res_tmp rfl) ⟨hB.ext, vBool⟩
 ·
  replace hm := im hm c7
  refine o_z ?_
  refine ewp_false rfl (ewp_skip (ewp_seq (ewp_region (o_mv rfl rfl ?_))))
  obtain ⟨u8, e9, hm⟩ := bs hm
  obtain ⟨m10, e11, e12, e13, e14⟩ := mkI_some e9
  refine l_make 2 (by decide) O (z0 := (false : Bool)) rfl rfl rfl rfl rfl e11 vBool e12 e13 rfl fun g15 w16 O17 S18 h19 => ?_
  rw [← e14] at h19 ⊢
  refine o_as rfl rfl (o_z ?_)
  refine ewp_seq (ewp_seq (ewp_region (o_mv rfl rfl (o_ln rfl rfl ?_))))
  replace hx0 := hx0.st S18
  have l22 : x0.length ≤ 9223372036854775807 := Nat.le_trans hx0.len.2.1 hx0.len.2.2
  have r21 : inI64 (x0.length : Int) := rngNat l22
  refine o_mv rfl rfl (o_z ?_)
  obtain ⟨res23, hL24, hm⟩ := bs hm
  refine ewp_join (aft res23 (fun (s25 : (List Bool)) (x26 : Unit) => []) (fun s25 x26 w' => ∃ O' : Lab, Bs w A w' O')) ?_ ?_
  ·
   refine ewp_block ?_
   replace hB := hB.st S18
   refine ewp_rng (σ := (List Bool)) (X := Unit) (x0.length) hL24 rfl l22 (fun (s25 : (List Bool)) (x26 : Unit) => [(1, (.int .i64 x1)), (5, (.slice (some ⟨g15, 0, none⟩) u8.length m10)), (14, (.slice A3 x0.length c4))]) _ (fun s25 x26 w' => ∃ O' : Lab, Bs w A w' O' ∧ Rw 2 w' O' 4 (.slice (some ⟨g15, 0, none⟩) u8.length m10) s25 ∧ Vb w' (Fr 0 w' O') (.slice A3 x0.length c4) x0) _ () ⟨O17, hB, h19, hx0⟩ ⟨rfl, rfl, rfl, rfl, rfl, trivial⟩ (fun _ _ => ⟨rfl, rfl⟩) (fun _ _ => trivial) (fun _ _ _ ⟨O', hB, h40, hx0⟩ => ⟨O', hB⟩) ⟨rfl, rfl, rfl⟩ ⟨rfl, rfl⟩ ?_
   rintro k27 a28 s25 x26 w29 cc31 hx32 ⟨O30, hB, h40, hx0⟩ hf33 hret34 hbrk35
   have rk27 : inI64 (k27 : Int) := rngK hx32 l22
   refine ewp_seq (ewp_region ?_)
   obtain ⟨b42, o43, ce44, hA45, hl46, hd47, rfl, r49⟩ := hx0.elem' hx32
   refine o_iaE (hA := hA45) (hj := rfl) (hlt := hl46) rfl rfl rfl ?_
   refine o_ld (hc := cat0 hd47) rfl rfl ?_
   refine o_as rfl rfl (o_z ?_)
   refine ewp_seq (ewp_seq ?_)
   obtain ⟨y50, hy51, hf33⟩ := bs hf33
   refine ewp_join (fun l' w' => ∃ (x53 : Unit) (O' : Lab), subs l' [(1, (.int .i64 x1)), (5, (.slice (some ⟨g15, 0, none⟩) u8.length m10)), (7, (.int .i64 a28)), (14, (.slice A3 x0.length c4)), (15, (.int .i64 (x0.length : Int))), (16, (.int .i64 (k27 : Int))), (32, (.bool y50))] ∧ Bs w A w' O' ∧ Rw 2 w' O' 4 (.slice (some ⟨g15, 0, none⟩) u8.length m10) s25 ∧ Vb w' (Fr 0 w' O') (.slice A3 x0.length c4) x0) ?_ ?_
   ·
    refine ewp_region (o_mv rfl rfl (o_ltS rfl rfl rfl (fun c54 => ?_) fun c54 => ?_))
    ·
     replace hy51 := ip hy51 c54
     refine o_mv rfl rfl (owp_no rfl rfl rfl rfl (owp_no rfl rfl rfl rfl (owp_no rfl rfl rfl rfl (o_pt rfl rfl rfl (o_mv rfl rfl (owp_no rfl rfl rfl rfl (owp_no rfl rfl rfl rfl (owp_no rfl rfl rfl rfl (owp_no rfl rfl rfl rfl (o_pt rfl rfl rfl (o_z ?_)))))))))))
     obtain rfl := sm hy51
     exact ⟨(), _, ⟨rfl, rfl, rfl, rfl, rfl, rfl, rfl, trivial⟩, hB, h40, hx0⟩
    ·
     replace hy51 := im hy51 c54
     refine o_mv rfl rfl (owp_yes rfl rfl (o_mv rfl rfl (owp_yes rfl rfl (o_mv rfl rfl (owp_yes rfl rfl (o_geS rfl rfl rfl (fun c55 => ?_) fun c55 => ?_))))))
     ·
      replace hy51 := ip hy51 c55
      refine o_pf rfl rfl rfl (o_mv rfl rfl (owp_no rfl rfl rfl rfl (owp_no rfl rfl rfl rfl (owp_no rfl rfl rfl rfl (owp_no rfl rfl rfl rfl (o_pt rfl rfl rfl (o_z ?_)))))))
      obtain rfl := sm hy51
      exact ⟨(), _, ⟨rfl, rfl, rfl, rfl, rfl, rfl, rfl, trivial⟩, hB, h40, hx0⟩
     ·
      replace hy51 := im hy51 c55
      refine o_pf rfl rfl rfl (o_mv rfl rfl (owp_yes rfl rfl (o_mv rfl rfl (owp_yes rfl rfl (o_mv rfl rfl (owp_yes rfl rfl ?_))))))
      obtain ⟨a56, e57, hy51⟩ := bs hy51
      obtain ⟨p59, x58⟩ := atI_some' e57
      obtain ⟨b60, o61, ce62, hA63, hl64, hd65, rfl⟩ := h40.elem x58
      refine o_iaE (hA := hA63) (hj := (Int.toNat_of_nonneg p59).symm) (hlt := hl64) rfl rfl rfl ?_
      refine owp_yes rfl rfl (o_ld (hc := cat0 hd65) rfl rfl ?_)
      refine o_pf rfl rfl rfl (o_z ?_)
      obtain rfl := sm hy51
      exact ⟨(), _, ⟨rfl, rfl, rfl, rfl, rfl, rfl, rfl, trivial⟩, hB, h40, hx0⟩
   rintro l67 w68 ⟨x53, O69, hs70, hB, h40, hx0⟩
   refine ewp_sub _ hs70 ?_
   refine ewp_cond rfl (fun c71 => ?_) (fun c71 => ?_)
   ·
    replace hf33 := ip hf33 c71
    refine ewp_seq (ewp_region (o_as rfl rfl (o_z ?_)))
    refine ewp_ret ?_
    obtain rfl := sm hf33
    obtain rfl := hret34 _ rfl
    obtain rfl := sm (fin_ret hm)
    exact ret1v rfl (res_tmp rfl) ⟨hB.ext, vBool⟩
   ·
    replace hf33 := im' hf33 c71
    refine ewp_skip (ewp_region (o_mv rfl rfl (o_mv rfl rfl ?_)))
    obtain ⟨a72, e73, hf33⟩ := bs hf33
    obtain ⟨p75, x74⟩ := atI_some' e73
    obtain ⟨b76, o77, ce78, hA79, hl80, hd81, rfl⟩ := h40.elem x74
    refine o_iaE (hA := hA79) (hj := (Int.toNat_of_nonneg p75).symm) (hlt := hl80) rfl rfl rfl ?_
    refine l_setE rfl h40 (a := true) vBool hA79 rfl rfl (lt_of_get x74) fun w83 S84 h40 => ?_
    refine o_z ?_
    obtain rfl := sm hf33
    refine (?_ : Exists _)
    replace hx0 := hx0.st S84
    replace hB := hB.st S84
    exact ⟨_, (), rfl, ⟨rfl, rfl, rfl, rfl, rfl, trivial⟩, _, hB, h40, hx0⟩
  replace hB := hB.st S18
  rintro l85 w86 ⟨s89, x90, rfl, hs88, O87, hB⟩
  replace hm := fin_done hm
  refine ewp_sub _ hs88 ?_
  refine ewp_seq (ewp_region (o_as rfl rfl (o_z ?_)))
  refine ewp_ret ?_
  obtain rfl := sm hm
  exact ret1v rfl (res_tmp rfl) ⟨hB.ext, vBool⟩
noncomputable def m_symmetry_facts (x0 : Tsk) (x1 : Swp) : Option Bool :=
  bnd (bnd (m_symmetry_permutation x1.vars (x0.vars.length : Int)) fun q49 => if q49 = true then if (x1.vals.length : Int) ≠ (x0.vars.length : Int) then (some true) else (some false) else some true : Option Bool) fun y43 => if y43 = true then (some false) else (bnd (rng (ρ := Bool) (fun (k72 : Nat) (a73 : Int) (s70 : Unit) => bnd (bnd (x1.vars[k72]?) fun a95 => bnd (atI x0.vars a95) fun a105 => if a105 ≠ a73 then (some true) else (bnd (x1.vals[k72]?) fun a118 => bnd (m_symmetry_permutation a118 a73) fun q131 => if q131 = true then some false else some true) : Option Bool) fun y91 => if y91 = true then (some (.ret false)) else (some (.next ()))) x0.vars 0 ()) fun res68 => fin res68 fun (s147 : Unit) => some true)
theorem c_symmetry_facts {w : World} {A : Nat → Prop} (hA : ∀ k, A k → k < w.heap.size) {vx0 : Value} {x0 : Tsk} (hx0 : Vb w A vx0 x0) {vx1 : Value} {x1 : Swp} (hx1 : Vb w A vx1 x1) {r : Bool} (hm : m_symmetry_facts x0 x1 = some r) :
    Fn Try.prog 69 [vx0, vx1] w fun v w' => Ext w w' ∧ Vb w' (upA A w w') v r := by
 obtain ⟨O, hB, hA0⟩ := enter hA
 replace hx0 := hx0.mono hA0
 obtain ⟨cs3, rfl, v4, v5, v6, v7, rfl, h8, h11, h14, h17⟩ := hx0
 obtain ⟨A9, c10, rfl⟩ := h8.form
 obtain ⟨A12, c13, rfl⟩ := h11.form
 obtain ⟨A15, c16, rfl⟩ := h14.form
 obtain ⟨A18, c19, rfl⟩ := h17.form
 replace hx1 := hx1.mono hA0
 obtain ⟨cs20, rfl, v21, v22, v23, rfl, h24, h27, h30⟩ := hx1
 obtain ⟨A25, c26, rfl⟩ := h24.form
 obtain ⟨A28, c29, rfl⟩ := h27.form
 obtain ⟨A31, c32, rfl⟩ := h30.form
 refine fn_enter Try.func69 rfl Try.ntmps69 rfl ?_
 unfold m_symmetry_facts at hm
 refine ewp_seq (ewp_region (l_box 2 O rfl rfl fun g33 w34 O35 S36 h37 => ?_))
 replace h37 : Lc 2 w34 O35 g33 26 [(.slice A9 x0.vars.length c10), (.slice A12 x0.init.length c13), (.slice A15 x0.goal.length c16), (.slice A18 x0.ops.length c19)] := h37
 refine l_box 3 O35 rfl rfl fun g38 w39 O40 S41 h42 => ?_
 replace h42 : Lc 3 w39 O40 g38 29 [(.slice A25 x1.vars.length c26), (.slice A28 x1.vals.length c29), (.slice A31 x1.ops.length c32)] := h42
 refine o_as rfl rfl (o_z ?_)
 refine ewp_seq (ewp_seq ?_)
 obtain ⟨y43, hy44, hm⟩ := bs hm
 refine ewp_join (fun l' w' => ∃ (x46 : Unit) (O' : Lab), subs l' [(2, (.pointer (some ⟨g33, 0, none⟩))), (3, (.pointer (some ⟨g38, 0, none⟩))), (22, (.bool y43))] ∧ Bs w A w' O' ∧ Lc 2 w' O' g33 26 [(.slice A9 x0.vars.length c10), (.slice A12 x0.init.length c13), (.slice A15 x0.goal.length c16), (.slice A18 x0.ops.length c19)] ∧ Vb w' (Fr 0 w' O') (.slice A9 x0.vars.length c10) x0.vars ∧ Vb w' (Fr 0 w' O') (.slice A12 x0.init.length c13) x0.init ∧ Vb w' (Fr 0 w' O') (.slice A15 x0.goal.length c16) x0.goal ∧ Vb w' (Fr 0 w' O') (.slice A18 x0.ops.length c19) x0.ops ∧ Lc 3 w' O' g38 29 [(.slice A25 x1.vars.length c26), (.slice A28 x1.vals.length c29), (.slice A31 x1.ops.length c32)] ∧ Vb w' (Fr 0 w' O') (.slice A25 x1.vars.length c26) x1.vars ∧ Vb w' (Fr 0 w' O') (.slice A28 x1.vals.length c29) x1.vals ∧ Vb w' (Fr 0 w' O') (.slice A31 x1.ops.length c32) x1.ops) ?_ ?_
 ·
  refine ewp_region (o_fa rfl rfl (o_ld (hc := Blk.cell (i := 0) (h42.1) rfl) rfl rfl ?_))
  refine o_fa rfl rfl ?_
  replace h37 := h37.st S41
  refine o_ld (hc := Blk.cell (i := 0) (h37.1) rfl) rfl rfl ?_
  refine o_ln rfl rfl ?_
  replace h8 := (h8.st S36).st S41
  have l48 : x0.vars.length ≤ 9223372036854775807 := Nat.le_trans h8.len.2.1 h8.len.2.2
  have r47 : inI64 (x0.vars.length : Int) := rngNat l48
  obtain ⟨q49, e50, hy44⟩ := bs hy44
  replace h24 := (h24.st S36).st S41
  refine l_callA (O := O40) (A := All w39) (R := fun w' F v => Vb w' F v q49) (c_symmetry_permutation (fun _ h => h) (Vb.mono (F := Fr 0 w39 O40) h24 Fr.lt) r47 e50) rfl rfl fun v55 w51 O52 S53 h54 => ?_
  obtain rfl := h54.bool
  cases q49
  case false =>
   replace hy44 := iF hy44
   refine o_nf rfl rfl (o_mv rfl rfl (owp_no rfl rfl rfl rfl (owp_no rfl rfl rfl rfl (owp_no rfl rfl rfl rfl (owp_no rfl rfl rfl rfl (owp_no rfl rfl rfl rfl (owp_no rfl rfl rfl rfl (owp_no rfl rfl rfl rfl (o_pt rfl rfl rfl (o_z ?_))))))))))
   obtain rfl := sm hy44
   replace hB := ((hB.st S36).st S41).st S53
   replace h8 := h8.st S53
   replace h11 := ((h11.st S36).st S41).st S53
   replace h14 := ((h14.st S36).st S41).st S53
   replace h17 := ((h17.st S36).st S41).st S53
   replace h24 := h24.st S53
   replace h27 := ((h27.st S36).st S41).st S53
   replace h30 := ((h30.st S36).st S41).st S53
   replace h37 := h37.st S53
   replace h42 := h42.st S53
   exact ⟨(), _, ⟨rfl, rfl, rfl, trivial⟩, hB, h37, h8, h11, h14, h17, h42, h24, h27, h30⟩
  replace hy44 := iT hy44
  refine o_nt rfl rfl (o_mv rfl rfl (owp_yes rfl rfl (o_fa rfl rfl (owp_yes rfl rfl ?_))))
  replace h42 := h42.st S53
  refine o_ld (hc := Blk.cell (i := 1) (h42.1) rfl) rfl rfl ?_
  refine owp_yes rfl rfl (o_ln rfl rfl ?_)
  replace h27 := ((h27.st S36).st S41).st S53
  have l57 : x1.vals.length ≤ 9223372036854775807 := Nat.le_trans h27.len.2.1 h27.len.2.2
  have r56 : inI64 (x1.vals.length : Int) := rngNat l57
  refine owp_yes rfl rfl (o_fa rfl rfl (owp_yes rfl rfl ?_))
  replace h37 := h37.st S53
  refine o_ld (hc := Blk.cell (i := 0) (h37.1) rfl) rfl rfl ?_
  refine owp_yes rfl rfl (o_ln rfl rfl ?_)
  replace h8 := h8.st S53
  have l59 : x0.vars.length ≤ 9223372036854775807 := Nat.le_trans h8.len.2.1 h8.len.2.2
  have r58 : inI64 (x0.vars.length : Int) := rngNat l59
  refine owp_yes rfl rfl (o_neS rfl rfl rfl (fun c60 => ?_) fun c60 => ?_)
  ·
   replace hy44 := ip hy44 c60
   refine o_pf rfl rfl rfl (o_z ?_)
   obtain rfl := sm hy44
   replace hB := ((hB.st S36).st S41).st S53
   replace h11 := ((h11.st S36).st S41).st S53
   replace h14 := ((h14.st S36).st S41).st S53
   replace h17 := ((h17.st S36).st S41).st S53
   replace h24 := h24.st S53
   replace h30 := ((h30.st S36).st S41).st S53
   exact ⟨(), _, ⟨rfl, rfl, rfl, trivial⟩, hB, h37, h8, h11, h14, h17, h42, h24, h27, h30⟩
  ·
   replace hy44 := im hy44 c60
   refine o_pf rfl rfl rfl (o_z ?_)
   obtain rfl := sm hy44
   replace hB := ((hB.st S36).st S41).st S53
   replace h11 := ((h11.st S36).st S41).st S53
   replace h14 := ((h14.st S36).st S41).st S53
   replace h17 := ((h17.st S36).st S41).st S53
   replace h24 := h24.st S53
   replace h30 := ((h30.st S36).st S41).st S53
   exact ⟨(), _, ⟨rfl, rfl, rfl, trivial⟩, hB, h37, h8, h11, h14, h17, h42, h24, h27, h30⟩
 replace hB := (hB.st S36).st S41
 replace h8 := (h8.st S36).st S41
 replace h11 := (h11.st S36).st S41
 replace h14 := (h14.st S36).st S41
 replace h17 := (h17.st S36).st S41
 replace h24 := (h24.st S36).st S41
 replace h27 := (h27.st S36).st S41
 replace h30 := (h30.st S36).st S41
 replace h37 := h37.st S41
 rintro l61 w62 ⟨x46, O63, hs64, hB, h37, h8, h11, h14, h17, h42, h24, h27, h30⟩
 refine ewp_sub _ hs64 ?_
 refine ewp_cond rfl (fun c65 => ?_) (fun c65 => ?_)
 ·
  replace hm := ip hm c65
  refine ewp_seq (ewp_region (o_as rfl rfl (o_z ?_)))
  refine ewp_ret ?_
  obtain rfl := sm hm
  exact ret1v rfl (res_tmp rfl) ⟨hB.ext, vBool⟩
 ·
  replace hm := im' hm c65
  refine ewp_skip (ewp_seq (ewp_seq (ewp_region (o_fa rfl rfl (o_ld (hc := Blk.cell (i := 0) (h37.1) rfl) rfl rfl ?_)))))
  refine o_ln rfl rfl ?_
  have l67 : x0.vars.length ≤ 9223372036854775807 := Nat.le_trans h8.len.2.1 h8.len.2.2
  have r66 : inI64 (x0.vars.length : Int) := rngNat l67
  refine o_mv rfl rfl (o_z ?_)
  obtain ⟨res68, hL69, hm⟩ := bs hm
  refine ewp_join (aft res68 (fun (s70 : Unit) (x71 : Unit) => []) (fun s70 x71 w' => ∃ O' : Lab, Bs w A w' O')) ?_ ?_
  ·
   refine ewp_block (ewp_rng (σ := Unit) (X := Unit) (x0.vars.length) hL69 rfl l67 (fun (s70 : Unit) (x71 : Unit) => [(2, (.pointer (some ⟨g33, 0, none⟩))), (3, (.pointer (some ⟨g38, 0, none⟩))), (24, (.slice A9 x0.vars.length c10))]) _ (fun s70 x71 w' => ∃ O' : Lab, Bs w A w' O' ∧ Lc 2 w' O' g33 26 [(.slice A9 x0.vars.length c10), (.slice A12 x0.init.length c13), (.slice A15 x0.goal.length c16), (.slice A18 x0.ops.length c19)] ∧ Vb w' (Fr 0 w' O') (.slice A9 x0.vars.length c10) x0.vars ∧ Vb w' (Fr 0 w' O') (.slice A12 x0.init.length c13) x0.init ∧ Vb w' (Fr 0 w' O') (.slice A15 x0.goal.length c16) x0.goal ∧ Vb w' (Fr 0 w' O') (.slice A18 x0.ops.length c19) x0.ops ∧ Lc 3 w' O' g38 29 [(.slice A25 x1.vars.length c26), (.slice A28 x1.vals.length c29), (.slice A31 x1.ops.length c32)] ∧ Vb w' (Fr 0 w' O') (.slice A25 x1.vars.length c26) x1.vars ∧ Vb w' (Fr 0 w' O') (.slice A28 x1.vals.length c29) x1.vals ∧ Vb w' (Fr 0 w' O') (.slice A31 x1.ops.length c32) x1.ops) _ () ⟨O63, hB, h37, h8, h11, h14, h17, h42, h24, h27, h30⟩ ⟨rfl, rfl, rfl, rfl, rfl, trivial⟩ (fun _ _ => ⟨rfl, rfl⟩) (fun _ _ => trivial) (fun _ _ _ ⟨O', hB, h37, h8, h11, h14, h17, h42, h24, h27, h30⟩ => ⟨O', hB⟩) ⟨rfl, rfl, rfl⟩ ⟨rfl, rfl⟩ ?_)
   rintro k72 a73 s70 x71 w74 cc76 hx77 ⟨O75, hB, h37, h8, h11, h14, h17, h42, h24, h27, h30⟩ hf78 hret79 hbrk80
   have rk72 : inI64 (k72 : Int) := rngK hx77 l67
   refine ewp_seq (ewp_region (o_mv rfl rfl ?_))
   obtain ⟨b83, o84, ce85, hA86, hl87, hd88, rfl, r90⟩ := h8.elem' hx77
   refine o_iaE (hA := hA86) (hj := rfl) (hlt := hl87) rfl rfl rfl ?_
   refine o_ld (hc := cat0 hd88) rfl rfl ?_
   refine o_as rfl rfl (o_as rfl rfl (o_z ?_))
   refine ewp_seq ?_
   obtain ⟨y91, hy92, hf78⟩ := bs hf78
   refine ewp_join (fun l' w' => ∃ (x94 : Unit) (O' : Lab), subs l' [(2, (.pointer (some ⟨g33, 0, none⟩))), (3, (.pointer (some ⟨g38, 0, none⟩))), (24, (.slice A9 x0.vars.length c10)), (25, (.int .i64 (x0.vars.length : Int))), (26, (.int .i64 (k72 : Int))), (51, (.bool y91))] ∧ Bs w A w' O' ∧ Lc 2 w' O' g33 26 [(.slice A9 x0.vars.length c10), (.slice A12 x0.init.length c13), (.slice A15 x0.goal.length c16), (.slice A18 x0.ops.length c19)] ∧ Vb w' (Fr 0 w' O') (.slice A9 x0.vars.length c10) x0.vars ∧ Vb w' (Fr 0 w' O') (.slice A12 x0.init.length c13) x0.init ∧ Vb w' (Fr 0 w' O') (.slice A15 x0.goal.length c16) x0.goal ∧ Vb w' (Fr 0 w' O') (.slice A18 x0.ops.length c19) x0.ops ∧ Lc 3 w' O' g38 29 [(.slice A25 x1.vars.length c26), (.slice A28 x1.vals.length c29), (.slice A31 x1.ops.length c32)] ∧ Vb w' (Fr 0 w' O') (.slice A25 x1.vars.length c26) x1.vars ∧ Vb w' (Fr 0 w' O') (.slice A28 x1.vals.length c29) x1.vals ∧ Vb w' (Fr 0 w' O') (.slice A31 x1.ops.length c32) x1.ops) ?_ ?_
   ·
    refine ewp_drawX [(18, [])] O75 ?_
    refine x_pre (fuel := 3) [] [(0, true), (1, true), (2, true), (3, true), (4, true), (5, true), (6, true), (7, true), (8, true), (9, true), (10, true), (11, true), (12, true), (13, true), (14, true), (15, true), (16, true), (17, true)] (by kernel_rfl) rfl ?_
    refine h_fa rfl rfl rfl (h_ldC (hc := fun w' ⟨O', hq⟩ => Blk.cell (i := 0) ((h37.st hq (by decide)).1) rfl) rfl rfl rfl ?_)
    refine h_fa rfl rfl rfl (h_ldC (hc := fun w' ⟨O', hq⟩ => Blk.cell (i := 0) ((h42.st hq (by decide)).1) rfl) rfl rfl rfl ?_)
    refine h_mv rfl rfl rfl ?_
    obtain ⟨a95, e96, hy92⟩ := bs hy92
    obtain ⟨b97, o98, ce99, hA100, hF103, hl101, hd102, rfl, r104⟩ := h24.elem e96
    refine h_iaE (hA := hA100) (hj := rfl) (hlt := hl101) rfl rfl rfl rfl ?_
    refine h_ldC (hc := fun w' ⟨O', hq⟩ => cat0 (cellsAt_agree (hq.agree (i := 0) (by decide)) hF103 hd102)) rfl rfl rfl ?_
    obtain ⟨a105, e106, hy92⟩ := bs hy92
    obtain ⟨p108, x107⟩ := atI_some' e106
    obtain ⟨b109, o110, ce111, hA112, hF115, hl113, hd114, rfl, r116⟩ := h8.elem x107
    refine h_iaE (hA := hA112) (hj := (Int.toNat_of_nonneg p108).symm) (hlt := hl113) rfl rfl rfl rfl ?_
    refine h_ldC (hc := fun w' ⟨O', hq⟩ => cat0 (cellsAt_agree (hq.agree (i := 0) (by decide)) hF115 hd114)) rfl rfl rfl ?_
    refine h_mv rfl rfl rfl (h_neS rfl rfl rfl rfl (fun c117 => ?_) fun c117 => ?_)
    ·
     replace hy92 := ip hy92 c117
     refine h_mv rfl rfl rfl (h_no rfl rfl rfl rfl rfl (h_no rfl rfl rfl rfl rfl (h_no rfl rfl rfl rfl rfl (h_no rfl rfl rfl rfl rfl (h_no rfl rfl rfl rfl rfl (h_no rfl rfl rfl rfl rfl (hwp_nilT ?_)))))))
     refine x_one (i := 18) (by kernel_rfl) rfl ?_
     refine owp_no rfl rfl rfl rfl (x_go [] ((St.refl nT _ _).lst [] (fun _ h => h.elim)) (by kernel_rfl) ?_)
     refine x_pre (fuel := 0) [] [(19, true), (20, true)] (by kernel_rfl) rfl ?_
     refine h_no rfl rfl rfl rfl rfl (h_pt rfl rfl rfl rfl (hwp_nilT ?_))
     refine x_nil (by kernel_rfl) ?_
     obtain rfl := sm hy92
     exact ⟨(), _, ⟨rfl, rfl, rfl, rfl, rfl, rfl, trivial⟩, hB, h37, h8, h11, h14, h17, h42, h24, h27, h30⟩
    ·
     replace hy92 := im hy92 c117
     refine h_mv rfl rfl rfl (hwp_o rfl (hwq_yes rfl rfl (g_fa rfl rfl (hwp_o rfl (hwq_yes rfl rfl (g_ldC (hc := fun w' ⟨O', hq⟩ => Blk.cell (i := 1) ((h42.st hq (by decide)).1) rfl) rfl rfl ?_))))))
     refine hwp_o rfl (hwq_yes rfl rfl (g_mv rfl rfl (hwp_o rfl (hwq_yes rfl rfl ?_))))
     obtain ⟨a118, e119, hy92⟩ := bs hy92
     obtain ⟨b120, o121, ce122, hA123, hF126, hl124, hd125, v127, rfl, h128⟩ := h27.elem e119
     replace h128 := Vb.of_slice h128
     obtain ⟨A129, c130, rfl⟩ := h128.form
     refine g_iaE (hA := hA123) (hj := rfl) (hlt := hl124) rfl rfl rfl ?_
     refine hwp_o rfl (hwq_yes rfl rfl (g_ldC (hc := fun w' ⟨O', hq⟩ => cat0 (cellsAt_agree (hq.agree (i := 0) (by decide)) hF126 hd125)) rfl rfl ?_))
     refine hwp_o rfl (hwq_yes rfl rfl (g_mv rfl rfl (hwp_nilT ?_)))
     refine x_one (i := 18) (by kernel_rfl) rfl ?_
     refine owp_yes rfl rfl ?_
     obtain ⟨q131, e132, hy92⟩ := bs hy92
     refine l_callA (O := O75) (A := All w74) (R := fun w' F v => Vb w' F v q131) (c_symmetry_permutation (fun _ h => h) (Vb.mono (F := Fr 0 w74 O75) h128 Fr.lt) r90 e132) rfl rfl fun v137 w133 O134 S135 h136 => ?_
     obtain rfl := h136.bool
     have hZ := S135.lst [] (fun _ h => h.elim)
     cases q131
     case false =>
      replace hy92 := iF hy92
      refine x_go [] hZ (by kernel_rfl) ?_
      refine x_pre (fuel := 0) [] [(19, true), (20, true)] (by kernel_rfl) rfl ?_
      refine hwp_o rfl (hwq_yes rfl rfl (g_nf rfl rfl (h_pf rfl rfl rfl rfl (hwp_nilT ?_))))
      refine x_nil (by kernel_rfl) ?_
      obtain rfl := sm hy92
      replace hB := hB.st S135
      replace h8 := h8.st S135
      replace h11 := h11.st S135
      replace h14 := h14.st S135
      replace h17 := h17.st S135
      replace h24 := h24.st S135
      replace h27 := h27.st S135
      replace h30 := h30.st S135
      replace h37 := h37.st S135
      replace h42 := h42.st S135
      exact ⟨(), _, ⟨rfl, rfl, rfl, rfl, rfl, rfl, trivial⟩, hB, h37, h8, h11, h14, h17, h42, h24, h27, h30⟩
     replace hy92 := iT hy92
     refine x_go [] hZ (by kernel_rfl) ?_
     refine x_pre (fuel := 0) [] [(19, true), (20, true)] (by kernel_rfl) rfl ?_
     refine hwp_o rfl (hwq_yes rfl rfl (g_nt rfl rfl (h_pf rfl rfl rfl rfl (hwp_nilT ?_))))
     refine x_nil (by kernel_rfl) ?_
     obtain rfl := sm hy92
     replace hB := hB.st S135
     replace h8 := h8.st S135
     replace h11 := h11.st S135
     replace h14 := h14.st S135
     replace h17 := h17.st S135
     replace h24 := h24.st S135
     replace h27 := h27.st S135
     replace h30 := h30.st S135
     replace h37 := h37.st S135
     replace h42 := h42.st S135
     exact ⟨(), _, ⟨rfl, rfl, rfl, rfl, rfl, rfl, trivial⟩, hB, h37, h8, h11, h14, h17, h42, h24, h27, h30⟩
   rintro l138 w139 ⟨x94, O140, hs141, hB, h37, h8, h11, h14, h17, h42, h24, h27, h30⟩
   refine ewp_sub _ hs141 ?_
   refine ewp_cond rfl (fun c142 => ?_) (fun c142 => ?_)
   ·
    replace hf78 := ip hf78 c142
    refine ewp_seq (ewp_region (o_as rfl rfl (o_z ?_)))
    refine ewp_ret ?_
    obtain rfl := sm hf78
    obtain rfl := hret79 _ rfl
    obtain rfl := sm (fin_ret hm)
    exact ret1v rfl (res_tmp rfl) ⟨hB.ext, vBool⟩
   ·
    replace hf78 := im' hf78 c142
    refine ewp_skip ?_
    obtain rfl := sm hf78
    refine (?_ : Exists _)
    exact ⟨_, (), rfl, ⟨rfl, rfl, rfl, rfl, rfl, trivial⟩, _, hB, h37, h8, h11, h14, h17, h42, h24, h27, h30⟩
  rintro l143 w144 ⟨s147, x148, rfl, hs146, O145, hB⟩
  replace hm := fin_done hm
  refine ewp_sub _ hs146 ?_
  refine ewp_seq (ewp_region (o_as rfl rfl (o_z ?_)))
  refine ewp_ret ?_
  obtain rfl := sm hm
  exact ret1v rfl (res_tmp rfl) ⟨hB.ext, vBool⟩
noncomputable def m_symmetry_moved (x0 : Swp) (x1 : List Int) : Option (List Int) :=
  bnd (mkI 8 (0 : Int) (x1.length : Int)) fun u25 => bnd (rng (ρ := (List Int)) (fun (k44 : Nat) (a45 : Int) (s42 : (List Int)) => bnd (x0.vars[k44]?) fun a67 => bnd (x0.vals[k44]?) fun a77 => bnd (atI a77 a45) fun a90 => bnd (atI s42 a67) fun a102 => some (.next (s42.set (a67 : Int).toNat a90))) x1 0 u25) fun res40 => fin res40 fun (s120 : (List Int)) => some s120
theorem c_symmetry_moved {w : World} {A : Nat → Prop} (hA : ∀ k, A k → k < w.heap.size) {vx0 : Value} {x0 : Swp} (hx0 : Vb w A vx0 x0) {vx1 : Value} {x1 : List Int} (hx1 : Vb w A vx1 x1) {r : (List Int)} (hm : m_symmetry_moved x0 x1 = some r) :
    Fn Try.prog 47 [vx0, vx1] w fun v w' => Ext w w' ∧ Vb w' (upA A w w') v r := by
 obtain ⟨O, hB, hA0⟩ := enter hA
 replace hx0 := hx0.mono hA0
 obtain ⟨cs3, rfl, v4, v5, v6, rfl, h7, h10, h13⟩ := hx0
 obtain ⟨A8, c9, rfl⟩ := h7.form
 obtain ⟨A11, c12, rfl⟩ := h10.form
 obtain ⟨A14, c15, rfl⟩ := h13.form
 replace hx1 := hx1.mono hA0
 obtain ⟨A16, c17, rfl⟩ := hx1.form
 refine fn_enter Try.func47 rfl Try.ntmps47 rfl ?_
 unfold m_symmetry_moved at hm
 refine ewp_seq (ewp_region (l_box 2 O rfl rfl fun g18 w19 O20 S21 h22 => ?_))
 replace h22 : Lc 2 w19 O20 g18 29 [(.slice A8 x0.vars.length c9), (.slice A11 x0.vals.length c12), (.slice A14 x0.ops.length c15)] := h22
 refine o_as rfl rfl (o_z ?_)
 refine ewp_seq (ewp_region (o_mv rfl rfl (o_ln rfl rfl ?_)))
 replace hx1 := hx1.st S21
 have l24 : x1.length ≤ 9223372036854775807 := Nat.le_trans hx1.len.2.1 hx1.len.2.2
 have r23 : inI64 (x1.length : Int) := rngNat l24
 obtain ⟨u25, e26, hm⟩ := bs hm
 obtain ⟨m27, e28, e29, e30, e31⟩ := mkI_some e26
 refine l_make 3 (by decide) O20 (z0 := (0 : Int)) rfl rfl rfl rfl rfl e28 (vInt (show inI64 0 from by decide)) e29 e30 rfl fun g32 w33 O34 S35 h36 => ?_
 rw [← e31] at h36 ⊢
 refine o_as rfl rfl (o_z ?_)
 refine ewp_seq (ewp_seq (ewp_region (o_mv rfl rfl (o_ln rfl rfl ?_))))
 replace hx1 := hx1.st S35
 have l39 : x1.length ≤ 9223372036854775807 := Nat.le_trans hx1.len.2.1 hx1.len.2.2
 have r38 : inI64 (x1.length : Int) := rngNat l39
 refine o_mv rfl rfl (o_z ?_)
 obtain ⟨res40, hL41, hm⟩ := bs hm
 refine ewp_join (aft res40 (fun (s42 : (List Int)) (x43 : Unit) => [(5, (.slice (some ⟨g32, 0, none⟩) u25.length m27))]) (fun s42 x43 w' => ∃ O' : Lab, Bs w A w' O' ∧ Rw 3 w' O' 3 (.slice (some ⟨g32, 0, none⟩) u25.length m27) s42)) ?_ ?_
 ·
  refine ewp_block ?_
  replace hB := (hB.st S21).st S35
  replace h7 := (h7.st S21).st S35
  replace h10 := (h10.st S21).st S35
  replace h13 := (h13.st S21).st S35
  replace h22 := h22.st S35
  refine ewp_rng (σ := (List Int)) (X := Unit) (x1.length) hL41 rfl l39 (fun (s42 : (List Int)) (x43 : Unit) => [(2, (.pointer (some ⟨g18, 0, none⟩))), (5, (.slice (some ⟨g32, 0, none⟩) u25.length m27)), (11, (.slice A16 x1.length c17))]) _ (fun s42 x43 w' => ∃ O' : Lab, Bs w A w' O' ∧ Lc 2 w' O' g18 29 [(.slice A8 x0.vars.length c9), (.slice A11 x0.vals.length c12), (.slice A14 x0.ops.length c15)] ∧ Vb w' (Fr 0 w' O') (.slice A8 x0.vars.length c9) x0.vars ∧ Vb w' (Fr 0 w' O') (.slice A11 x0.vals.length c12) x0.vals ∧ Vb w' (Fr 0 w' O') (.slice A14 x0.ops.length c15) x0.ops ∧ Rw 3 w' O' 3 (.slice (some ⟨g32, 0, none⟩) u25.length m27) s42 ∧ Vb w' (Fr 0 w' O') (.slice A16 x1.length c17) x1) _ () ⟨O34, hB, h22, h7, h10, h13, h36, hx1⟩ ⟨rfl, rfl, rfl, rfl, rfl, trivial⟩ (fun _ _ => ⟨rfl, rfl⟩) (fun _ _ => ⟨rfl, trivial⟩) (fun _ _ _ ⟨O', hB, h22, h7, h10, h13, h57, hx1⟩ => ⟨O', hB, h57⟩) ⟨rfl, rfl, rfl⟩ ⟨rfl, rfl⟩ ?_
  rintro k44 a45 s42 x43 w46 cc48 hx49 ⟨O47, hB, h22, h7, h10, h13, h57, hx1⟩ hf50 hret51 hbrk52
  have rk44 : inI64 (k44 : Int) := rngK hx49 l39
  refine ewp_seq (ewp_region (o_mv rfl rfl ?_))
  obtain ⟨b59, o60, ce61, hA62, hl63, hd64, rfl, r66⟩ := hx1.elem' hx49
  refine o_iaE (hA := hA62) (hj := rfl) (hlt := hl63) rfl rfl rfl ?_
  refine o_ld (hc := cat0 hd64) rfl rfl ?_
  refine o_as rfl rfl (o_as rfl rfl (o_z ?_))
  refine ewp_drawX [] O47 ?_
  refine x_pre (fuel := 1) [] [(0, true), (1, true), (2, true), (3, true), (4, true), (5, true), (6, true), (7, true), (8, true), (9, true), (10, true), (11, true), (12, true), (13, true), (14, true)] (by kernel_rfl) rfl ?_
  refine h_mv rfl rfl rfl (h_fa rfl rfl rfl (h_ldC (hc := fun w' ⟨O', hq⟩ => Blk.cell (i := 0) ((h22.st hq (by decide)).1) rfl) rfl rfl rfl ?_))
  refine h_mv rfl rfl rfl ?_
  obtain ⟨a67, e68, hf50⟩ := bs hf50
  obtain ⟨b69, o70, ce71, hA72, hF75, hl73, hd74, rfl, r76⟩ := h7.elem e68
  refine h_iaE (hA := hA72) (hj := rfl) (hlt := hl73) rfl rfl rfl rfl ?_
  refine h_ldC (hc := fun w' ⟨O', hq⟩ => cat0 (cellsAt_agree (hq.agree (i := 0) (by decide)) hF75 hd74)) rfl rfl rfl ?_
  refine h_fa rfl rfl rfl (h_ldC (hc := fun w' ⟨O', hq⟩ => Blk.cell (i := 1) ((h22.st hq (by decide)).1) rfl) rfl rfl rfl ?_)
  refine h_mv rfl rfl rfl ?_
  obtain ⟨a77, e78, hf50⟩ := bs hf50
  obtain ⟨b79, o80, ce81, hA82, hF85, hl83, hd84, v86, rfl, h87⟩ := h10.elem e78
  replace h87 := Vb.of_slice h87
  obtain ⟨A88, c89, rfl⟩ := h87.form
  refine h_iaE (hA := hA82) (hj := rfl) (hlt := hl83) rfl rfl rfl rfl ?_
  refine h_ldC (hc := fun w' ⟨O', hq⟩ => cat0 (cellsAt_agree (hq.agree (i := 0) (by decide)) hF85 hd84)) rfl rfl rfl ?_
  refine h_mv rfl rfl rfl ?_
  obtain ⟨a90, e91, hf50⟩ := bs hf50
  obtain ⟨p93, x92⟩ := atI_some' e91
  obtain ⟨b94, o95, ce96, hA97, hF100, hl98, hd99, rfl, r101⟩ := h87.elem x92
  refine h_iaE (hA := hA97) (hj := (Int.toNat_of_nonneg p93).symm) (hlt := hl98) rfl rfl rfl rfl ?_
  refine h_ldC (hc := fun w' ⟨O', hq⟩ => cat0 (cellsAt_agree (hq.agree (i := 0) (by decide)) hF100 hd99)) rfl rfl rfl ?_
  obtain ⟨a102, e103, hf50⟩ := bs hf50
  obtain ⟨p105, x104⟩ := atI_some' e103
  obtain ⟨b106, o107, ce108, hA109, hF112, hl110, hd111, rfl, r113⟩ := h57.elemF x104
  refine h_iaE (hA := hA109) (hj := (Int.toNat_of_nonneg p105).symm) (hlt := hl110) rfl rfl rfl rfl ?_
  refine hwp_nilT ?_
  refine x_one (i := 15) (by kernel_rfl) rfl ?_
  refine l_setE rfl h57 (a := a90) (vInt r101) hA109 rfl rfl (lt_of_get x104) fun w114 S115 h57 => ?_
  refine x_end (by kernel_rfl) ?_
  refine x_nil (by kernel_rfl) ?_
  obtain rfl := sm hf50
  refine (?_ : Exists _)
  replace hB := hB.st S115
  replace hx1 := hx1.st S115
  replace h7 := h7.st S115
  replace h10 := h10.st S115
  replace h13 := h13.st S115
  replace h22 := h22.st S115
  exact ⟨_, (), rfl, ⟨rfl, rfl, rfl, rfl, rfl, trivial⟩, _, hB, h22, h7, h10, h13, h57, hx1⟩
 replace hB := (hB.st S21).st S35
 rintro l116 w117 ⟨s120, x121, rfl, hs119, O118, hB, h57⟩
 replace hm := fin_done hm
 refine ewp_sub _ hs119 ?_
 refine ewp_seq (ewp_region (o_mv rfl rfl (o_as rfl rfl (o_z ?_))))
 refine ewp_ret ?_
 obtain ⟨O122, S123, h57⟩ := h57.freeze
 obtain rfl := sm hm
 replace hB := hB.st S123
 exact ret1v rfl (res_tmp rfl) ⟨hB.ext, (Vb.mono (F := Fr 0 w117 O122) h57 hB.out)⟩
noncomputable def m_symmetry_alike_l1 (x0 : Eff) (x1 : Eff) : Option Bool :=
  bnd (if x0.var = x1.var then (if x0.val = x1.val then (bnd (m_slices_Equal_Lapi_Fact_api_Fact x0.cond x1.cond) fun q33 => if q33 = true then some true else some false) else (some false)) else (some false) : Option Bool) fun y27 => some y27
theorem c_symmetry_alike_l1 {w : World} {A : Nat → Prop} (hA : ∀ k, A k → k < w.heap.size) {vx0 : Value} {x0 : Eff} (hx0 : Vb w A vx0 x0) {vx1 : Value} {x1 : Eff} (hx1 : Vb w A vx1 x1) {r : Bool} (hm : m_symmetry_alike_l1 x0 x1 = some r) :
    Fn Try.prog 89 [vx0, vx1] w fun v w' => Ext w w' ∧ Vb w' (upA A w w') v r := by
 obtain ⟨O, hB, hA0⟩ := enter hA
 replace hx0 := hx0.mono hA0
 obtain ⟨cs3, rfl, v4, rfl, h5, r8, r9⟩ := hx0
 obtain ⟨A6, c7, rfl⟩ := h5.form
 replace hx1 := hx1.mono hA0
 obtain ⟨cs10, rfl, v11, rfl, h12, r15, r16⟩ := hx1
 obtain ⟨A13, c14, rfl⟩ := h12.form
 refine fn_enter Try.func89 rfl Try.ntmps89 rfl ?_
 unfold m_symmetry_alike_l1 at hm
 refine ewp_seq (ewp_region (l_box 2 O rfl rfl fun g17 w18 O19 S20 h21 => ?_))
 replace h21 : Lc 2 w18 O19 g17 74 [(.slice A6 x0.cond.length c7), (.int .i64 x0.var), (.int .i64 x0.val)] := h21
 refine l_box 3 O19 rfl rfl fun g22 w23 O24 S25 h26 => ?_
 replace h26 : Lc 3 w23 O24 g22 74 [(.slice A13 x1.cond.length c14), (.int .i64 x1.var), (.int .i64 x1.val)] := h26
 refine o_as rfl rfl (o_z ?_)
 refine ewp_seq ?_
 obtain ⟨y27, hy28, hm⟩ := bs hm
 refine ewp_join (fun l' w' => ∃ (x30 : Unit) (O' : Lab), subs l' [(4, (.bool y27))] ∧ Bs w A w' O') ?_ ?_
 ·
  refine ewp_region (o_fa rfl rfl ?_)
  replace h21 := h21.st S25
  refine o_ld (hc := Blk.cell (i := 1) (h21.1) rfl) rfl rfl ?_
  refine o_fa rfl rfl (o_ld (hc := Blk.cell (i := 1) (h26.1) rfl) rfl rfl ?_)
  refine o_eeS rfl rfl rfl (fun c31 => ?_) fun c31 => ?_
  ·
   replace hy28 := ip hy28 c31
   refine o_mv rfl rfl (owp_yes rfl rfl (o_fa rfl rfl (owp_yes rfl rfl (o_ld (hc := Blk.cell (i := 2) (h21.1) rfl) rfl rfl ?_))))
   refine owp_yes rfl rfl (o_fa rfl rfl (owp_yes rfl rfl (o_ld (hc := Blk.cell (i := 2) (h26.1) rfl) rfl rfl ?_)))
   refine owp_yes rfl rfl (o_eeS rfl rfl rfl (fun c32 => ?_) fun c32 => ?_)
   ·
    replace hy28 := ip hy28 c32
    refine o_pt rfl rfl rfl (o_mv rfl rfl (owp_yes rfl rfl (o_fa rfl rfl (owp_yes rfl rfl (o_ld (hc := Blk.cell (i := 0) (h21.1) rfl) rfl rfl ?_)))))
    refine owp_yes rfl rfl (o_fa rfl rfl (owp_yes rfl rfl (o_ld (hc := Blk.cell (i := 0) (h26.1) rfl) rfl rfl ?_)))
    refine owp_yes rfl rfl ?_
    obtain ⟨q33, e34, hy28⟩ := bs hy28
    replace h5 := (h5.st S20).st S25
    replace h12 := (h12.st S20).st S25
    refine l_callA (O := O24) (A := All w23) (R := fun w' F v => Vb w' F v q33) (c_slices_Equal_Lapi_Fact_api_Fact (fun _ h => h) (Vb.mono (F := Fr 0 w23 O24) h5 Fr.lt) (Vb.mono (F := Fr 0 w23 O24) h12 Fr.lt) e34) rfl rfl fun v39 w35 O36 S37 h38 => ?_
    obtain rfl := h38.bool
    cases q33
    case false =>
     replace hy28 := iF hy28
     refine o_pt rfl rfl rfl (o_as rfl rfl (o_z ?_))
     obtain rfl := sm hy28
     replace hB := ((hB.st S20).st S25).st S37
     exact ⟨(), _, ⟨rfl, trivial⟩, hB⟩
    replace hy28 := iT hy28
    refine o_pt rfl rfl rfl (o_as rfl rfl (o_z ?_))
    obtain rfl := sm hy28
    replace hB := ((hB.st S20).st S25).st S37
    exact ⟨(), _, ⟨rfl, trivial⟩, hB⟩
   ·
    replace hy28 := im hy28 c32
    refine o_pt rfl rfl rfl (o_mv rfl rfl (owp_no rfl rfl rfl rfl (owp_no rfl rfl rfl rfl (owp_no rfl rfl rfl rfl (owp_no rfl rfl rfl rfl (owp_no rfl rfl rfl rfl (o_pf rfl rfl rfl (o_as rfl rfl (o_z ?_)))))))))
    obtain rfl := sm hy28
    replace hB := (hB.st S20).st S25
    exact ⟨(), _, ⟨rfl, trivial⟩, hB⟩
  ·
   replace hy28 := im hy28 c31
   refine o_mv rfl rfl (owp_no rfl rfl rfl rfl (owp_no rfl rfl rfl rfl (owp_no rfl rfl rfl rfl (owp_no rfl rfl rfl rfl (owp_no rfl rfl rfl rfl (o_pf rfl rfl rfl (o_mv rfl rfl (owp_no rfl rfl rfl rfl (owp_no rfl rfl rfl rfl (owp_no rfl rfl rfl rfl (owp_no rfl rfl rfl rfl (owp_no rfl rfl rfl rfl (o_pf rfl rfl rfl (o_as rfl rfl ?_))))))))))))))
   refine o_z ?_
   obtain rfl := sm hy28
   replace hB := (hB.st S20).st S25
   exact ⟨(), _, ⟨rfl, trivial⟩, hB⟩
 replace hB := (hB.st S20).st S25
 rintro l40 w41 ⟨x30, O42, hs43, hB⟩
 refine ewp_sub _ hs43 ?_
 refine ewp_ret ?_
 obtain rfl := sm hm
 exact ret1v rfl (res_tmp rfl) ⟨hB.ext, vBool⟩
noncomputable def m_slices_EqualFunc_Lapi_Effect_Lapi_Effect_api_Effect_api_Effect__symmetry_alike_l1 (x0 : List Eff) (x1 : List Eff) : Option Bool :=
  if (x0.length : Int) ≠ (x1.length : Int) then (some false) else (bnd (rng (ρ := Bool) (fun (k19 : Nat) (a20 : Eff) (s17 : Unit) => bnd (x1[k19]?) fun a50 => bnd (m_symmetry_alike_l1 a20 a50) fun q72 => if q72 = true then some (.next ()) else some (.ret false)) x0 0 ()) fun res15 => fin res15 fun (s83 : Unit) => some true)
theorem c_slices_EqualFunc_Lapi_Effect_Lapi_Effect_api_Effect_api_Effect__symmetry_alike_l1 {w : World} {A : Nat → Prop} (hA : ∀ k, A k → k < w.heap.size) {vx0 : Value} {x0 : List Eff} (hx0 : Vb w A vx0 x0) {vx1 : Value} {x1 : List Eff} (hx1 : Vb w A vx1 x1) {r : Bool} (hm : m_slices_EqualFunc_Lapi_Effect_Lapi_Effect_api_Effect_api_Effect__symmetry_alike_l1 x0 x1 = some r) :
    Fn Try.prog 88 [vx0, vx1, (.func (.func 89) #[] #[])] w fun v w' => Ext w w' ∧ Vb w' (upA A w w') v r := by
 obtain ⟨O, hB, hA0⟩ := enter hA
 replace hx0 := hx0.mono hA0
 obtain ⟨A4, c5, rfl⟩ := hx0.form
 replace hx1 := hx1.mono hA0
 obtain ⟨A6, c7, rfl⟩ := hx1.form
 refine fn_enter Try.func88 rfl Try.ntmps88 rfl ?_
 unfold m_slices_EqualFunc_Lapi_Effect_Lapi_Effect_api_Effect_api_Effect__symmetry_alike_l1 at hm
 refine ewp_seq (ewp_region (o_as rfl rfl (o_z ?_)))
 refine ewp_seq (ewp_seq (ewp_region (o_mv rfl rfl (o_ln rfl rfl ?_))))
 have l9 : x0.length ≤ 9223372036854775807 := Nat.le_trans hx0.len.2.1 hx0.len.2.2
 have r8 : inI64 (x0.length : Int) := rngNat l9
 refine o_mv rfl rfl (o_ln rfl rfl ?_)
 have l11 : x1.length ≤ 9223372036854775807 := Nat.le_trans hx1.len.2.1 hx1.len.2.2
 have r10 : inI64 (x1.length : Int) := rngNat l11
 refine o_neS rfl rfl rfl (fun c12 => ?_) fun c12 => ?_
 ·
  replace hm := ip hm c12
  refine o_z ?_
  refine ewp_true rfl (ewp_seq (ewp_region (o_as rfl rfl (o_z ?_))))
  refine ewp_ret ?_
  obtain rfl := sm hm
  exact ret1v rfl (res_tmp rfl) ⟨hB.ext, vBool⟩
 ·
  replace hm := im hm c12
  refine o_z ?_
  refine ewp_false rfl (ewp_skip (ewp_seq (ewp_seq (ewp_region (o_mv rfl rfl (o_ln rfl rfl ?_))))))
  have l14 : x0.length ≤ 9223372036854775807 := Nat.le_trans hx0.len.2.1 hx0.len.2.2
  have r13 : inI64 (x0.length : Int) := rngNat l14
  refine o_mv rfl rfl (o_z ?_)
  obtain ⟨res15, hL16, hm⟩ := bs hm
  refine ewp_join (aft res15 (fun (s17 : Unit) (x18 : Unit) => []) (fun s17 x18 w' => ∃ O' : Lab, Bs w A w' O')) ?_ ?_
  ·
   refine ewp_block (ewp_rng (σ := Unit) (X := Unit) (x0.length) hL16 rfl l14 (fun (s17 : Unit) (x18 : Unit) => [(1, (.slice A6 x1.length c7)), (2, (.func (.func 89) #[] #[])), (15, (.slice A4 x0.length c5))]) _ (fun s17 x18 w' => ∃ O' : Lab, Bs w A w' O' ∧ Vb w' (Fr 0 w' O') (.slice A6 x1.length c7) x1 ∧ Vb w' (Fr 0 w' O') (.slice A4 x0.length c5) x0) _ () ⟨O, hB, hx1, hx0⟩ ⟨rfl, rfl, rfl, rfl, rfl, trivial⟩ (fun _ _ => ⟨rfl, rfl⟩) (fun _ _ => trivial) (fun _ _ _ ⟨O', hB, hx1, hx0⟩ => ⟨O', hB⟩) ⟨rfl, rfl, rfl⟩ ⟨rfl, rfl⟩ ?_)
   rintro k19 a20 s17 x18 w21 cc23 hx24 ⟨O22, hB, hx1, hx0⟩ hf25 hret26 hbrk27
   have rk19 : inI64 (k19 : Int) := rngK hx24 l14
   refine ewp_seq (ewp_region (o_mv rfl rfl ?_))
   obtain ⟨b30, o31, ce32, hA33, hl34, hd35, v37, rfl, h38, r41, r42⟩ := hx0.elem' hx24
   obtain ⟨A39, c40, rfl⟩ := h38.form
   refine o_iaE (hA := hA33) (hj := rfl) (hlt := hl34) rfl rfl rfl ?_
   refine o_la (hl := rfl) (hc := hd35) rfl rfl ?_
   refine l_alloc 2 O22 rfl fun g43 w44 O45 S46 h47 => ?_
   refine o_as rfl rfl (l_store h47 rfl rfl rfl (Nat.le_of_ble_eq_true rfl) (by first | exact allOne rfl | simp [Value.cells, Value.oneCell', errV_one]) fun w48 S49 h47 => ?_)
   replace h47 : Lc 2 w48 O45 g43 74 [(.slice A39 a20.cond.length c40), (.int .i64 a20.var), (.int .i64 a20.val)] := h47
   refine o_z ?_
   refine ewp_seq (ewp_region (o_mv rfl rfl (o_mv rfl rfl ?_)))
   obtain ⟨a50, e51, hf25⟩ := bs hf25
   replace hx1 := (hx1.st S46).st S49
   obtain ⟨b52, o53, ce54, hA55, hl56, hd57, v59, rfl, h60, r63, r64⟩ := hx1.elem' e51
   obtain ⟨A61, c62, rfl⟩ := h60.form
   refine o_iaE (hA := hA55) (hj := rfl) (hlt := hl56) rfl rfl rfl ?_
   refine o_la (hl := rfl) (hc := hd57) rfl rfl ?_
   refine l_alloc 3 O45 rfl fun g65 w66 O67 S68 h69 => ?_
   refine l_store h69 rfl rfl rfl (Nat.le_of_ble_eq_true rfl) (by first | exact allOne rfl | simp [Value.cells, Value.oneCell', errV_one]) fun w70 S71 h69 => ?_
   replace h69 : Lc 3 w70 O67 g65 74 [(.slice A61 a50.cond.length c62), (.int .i64 a50.var), (.int .i64 a50.val)] := h69
   refine o_z ?_
   refine ewp_seq (ewp_region (o_mv rfl rfl ?_))
   replace h47 := (h47.st S68).st S71
   refine o_la (hl := rfl) (hc := (h47.1).cellsAt) rfl rfl ?_
   refine o_la (hl := rfl) (hc := (h69.1).cellsAt) rfl rfl ?_
   obtain ⟨q72, e73, hf25⟩ := bs hf25
   replace h38 := (((h38.st S46).st S49).st S68).st S71
   replace h60 := (h60.st S68).st S71
   refine l_callAv (O := O67) (A := All w70) (R := fun w' F v => Vb w' F v q72) (c_symmetry_alike_l1 (fun _ h => h) (Vb.mono (F := Fr 0 w70 O67) (Vb.ofAgg (cs := [(.slice A39 a20.cond.length c40), (.int .i64 a20.var), (.int .i64 a20.val)]) (x := a20) rfl ⟨_, rfl, h38, r41, r42⟩) Fr.lt) (Vb.mono (F := Fr 0 w70 O67) (Vb.ofAgg (cs := [(.slice A61 a50.cond.length c62), (.int .i64 a50.var), (.int .i64 a50.val)]) (x := a50) rfl ⟨_, rfl, h60, r63, r64⟩) Fr.lt) e73) rfl rfl rfl fun v78 w74 O75 S76 h77 => ?_
   obtain rfl := h77.bool
   cases q72
   case false =>
    replace hf25 := iF hf25
    refine o_nf rfl rfl (o_z ?_)
    refine ewp_true rfl (ewp_seq (ewp_region (o_as rfl rfl (o_z ?_))))
    refine ewp_ret ?_
    obtain rfl := sm hf25
    obtain rfl := hret26 _ rfl
    obtain rfl := sm (fin_ret hm)
    replace hB := ((((hB.st S46).st S49).st S68).st S71).st S76
    exact ret1v rfl (res_tmp rfl) ⟨hB.ext, vBool⟩
   replace hf25 := iT hf25
   refine o_nt rfl rfl (o_z ?_)
   refine ewp_false rfl (ewp_skip ?_)
   obtain rfl := sm hf25
   refine (?_ : Exists _)
   replace hx0 := ((((hx0.st S46).st S49).st S68).st S71).st S76
   replace hB := ((((hB.st S46).st S49).st S68).st S71).st S76
   replace hx1 := ((hx1.st S68).st S71).st S76
   exact ⟨_, (), rfl, ⟨rfl, rfl, rfl, rfl, rfl, trivial⟩, _, hB, hx1, hx0⟩
  rintro l79 w80 ⟨s83, x84, rfl, hs82, O81, hB⟩
  replace hm := fin_done hm
  refine ewp_sub _ hs82 ?_
  refine ewp_seq (ewp_region (o_as rfl rfl (o_z ?_)))
  refine ewp_ret ?_
  obtain rfl := sm hm
  exact ret1v rfl (res_tmp rfl) ⟨hB.ext, vBool⟩
noncomputable def m_symmetry_alike (x0 : Opr) (x1 : Opr) : Option Bool :=
  bnd (if x0.cost = x1.cost then (bnd (m_slices_Equal_Lapi_Fact_api_Fact x0.pre x1.pre) fun q40 => if q40 = true then bnd (m_slices_EqualFunc_Lapi_Effect_Lapi_Effect_api_Effect_api_Effect__symmetry_alike_l1 x0.effs x1.effs) fun q47 => if q47 = true then some true else some false else some false) else (some false) : Option Bool) fun y35 => some y35
theorem c_symmetry_alike {w : World} {A : Nat → Prop} (hA : ∀ k, A k → k < w.heap.size) {vx0 : Value} {x0 : Opr} (hx0 : Vb w A vx0 x0) {vx1 : Value} {x1 : Opr} (hx1 : Vb w A vx1 x1) {r : Bool} (hm : m_symmetry_alike x0 x1 = some r) :
    Fn Try.prog 73 [vx0, vx1] w fun v w' => Ext w w' ∧ Vb w' (upA A w w') v r := by
 obtain ⟨O, hB, hA0⟩ := enter hA
 replace hx0 := hx0.mono hA0
 obtain ⟨cs3, rfl, v4, v5, rfl, h6, h9, r12, z13⟩ := hx0
 obtain ⟨A7, c8, rfl⟩ := h6.form
 obtain ⟨A10, c11, rfl⟩ := h9.form
 replace hx1 := hx1.mono hA0
 obtain ⟨cs14, rfl, v15, v16, rfl, h17, h20, r23, z24⟩ := hx1
 obtain ⟨A18, c19, rfl⟩ := h17.form
 obtain ⟨A21, c22, rfl⟩ := h20.form
 refine fn_enter Try.func73 rfl Try.ntmps73 rfl ?_
 unfold m_symmetry_alike at hm
 refine ewp_seq (ewp_region (l_box 2 O rfl rfl fun g25 w26 O27 S28 h29 => ?_))
 replace h29 : Lc 2 w26 O27 g25 77 [(.string x0.name), (.int .i64 x0.cost), (.slice A7 x0.pre.length c8), (.slice A10 x0.effs.length c11)] := h29
 refine l_box 3 O27 rfl rfl fun g30 w31 O32 S33 h34 => ?_
 replace h34 : Lc 3 w31 O32 g30 77 [(.string x1.name), (.int .i64 x1.cost), (.slice A18 x1.pre.length c19), (.slice A21 x1.effs.length c22)] := h34
 refine o_as rfl rfl (o_z ?_)
 refine ewp_seq ?_
 obtain ⟨y35, hy36, hm⟩ := bs hm
 refine ewp_join (fun l' w' => ∃ (x38 : Unit) (O' : Lab), subs l' [(4, (.bool y35))] ∧ Bs w A w' O') ?_ ?_
 ·
  refine ewp_region (o_fa rfl rfl ?_)
  replace h29 := h29.st S33
  refine o_ld (hc := Blk.cell (i := 1) (h29.1) rfl) rfl rfl ?_
  refine o_fa rfl rfl (o_ld (hc := Blk.cell (i := 1) (h34.1) rfl) rfl rfl ?_)
  refine o_eeS rfl rfl rfl (fun c39 => ?_) fun c39 => ?_
  ·
   replace hy36 := ip hy36 c39
   refine o_mv rfl rfl (owp_yes rfl rfl (o_fa rfl rfl (owp_yes rfl rfl (o_ld (hc := Blk.cell (i := 2) (h29.1) rfl) rfl rfl ?_))))
   refine owp_yes rfl rfl (o_fa rfl rfl (owp_yes rfl rfl (o_ld (hc := Blk.cell (i := 2) (h34.1) rfl) rfl rfl ?_)))
   refine owp_yes rfl rfl ?_
   obtain ⟨q40, e41, hy36⟩ := bs hy36
   replace h6 := (h6.st S28).st S33
   replace h17 := (h17.st S28).st S33
   refine l_callA (O := O32) (A := All w31) (R := fun w' F v => Vb w' F v q40) (c_slices_Equal_Lapi_Fact_api_Fact (fun _ h => h) (Vb.mono (F := Fr 0 w31 O32) h6 Fr.lt) (Vb.mono (F := Fr 0 w31 O32) h17 Fr.lt) e41) rfl rfl fun v46 w42 O43 S44 h45 => ?_
   obtain rfl := h45.bool
   cases q40
   case false =>
    replace hy36 := iF hy36
    refine o_pt rfl rfl rfl (o_mv rfl rfl (owp_no rfl rfl rfl rfl (owp_no rfl rfl rfl rfl (owp_no rfl rfl rfl rfl (owp_no rfl rfl rfl rfl (owp_no rfl rfl rfl rfl (o_pf rfl rfl rfl (o_as rfl rfl (o_z ?_)))))))))
    obtain rfl := sm hy36
    replace hB := ((hB.st S28).st S33).st S44
    exact ⟨(), _, ⟨rfl, trivial⟩, hB⟩
   replace hy36 := iT hy36
   refine o_pt rfl rfl rfl (o_mv rfl rfl (owp_yes rfl rfl (o_fa rfl rfl (owp_yes rfl rfl ?_))))
   replace h29 := h29.st S44
   refine o_ld (hc := Blk.cell (i := 3) (h29.1) rfl) rfl rfl ?_
   refine owp_yes rfl rfl (o_fa rfl rfl (owp_yes rfl rfl ?_))
   replace h34 := h34.st S44
   refine o_ld (hc := Blk.cell (i := 3) (h34.1) rfl) rfl rfl ?_
   refine owp_yes rfl rfl ?_
   obtain ⟨q47, e48, hy36⟩ := bs hy36
   replace h9 := ((h9.st S28).st S33).st S44
   replace h20 := ((h20.st S28).st S33).st S44
   refine l_callA (O := O43) (A := All w42) (R := fun w' F v => Vb w' F v q47) (c_slices_EqualFunc_Lapi_Effect_Lapi_Effect_api_Effect_api_Effect__symmetry_alike_l1 (fun _ h => h) (Vb.mono (F := Fr 0 w42 O43) h9 Fr.lt) (Vb.mono (F := Fr 0 w42 O43) h20 Fr.lt) e48) rfl rfl fun v53 w49 O50 S51 h52 => ?_
   obtain rfl := h52.bool
   cases q47
   case false =>
    replace hy36 := iF hy36
    refine o_pt rfl rfl rfl (o_as rfl rfl (o_z ?_))
    obtain rfl := sm hy36
    replace hB := (((hB.st S28).st S33).st S44).st S51
    exact ⟨(), _, ⟨rfl, trivial⟩, hB⟩
   replace hy36 := iT hy36
   refine o_pt rfl rfl rfl (o_as rfl rfl (o_z ?_))
   obtain rfl := sm hy36
   replace hB := (((hB.st S28).st S33).st S44).st S51
   exact ⟨(), _, ⟨rfl, trivial⟩, hB⟩
  ·
   replace hy36 := im hy36 c39
   refine o_mv rfl rfl (owp_no rfl rfl rfl rfl (owp_no rfl rfl rfl rfl (owp_no rfl rfl rfl rfl (owp_no rfl rfl rfl rfl (owp_no rfl rfl rfl rfl (o_pf rfl rfl rfl (o_mv rfl rfl (owp_no rfl rfl rfl rfl (owp_no rfl rfl rfl rfl (owp_no rfl rfl rfl rfl (owp_no rfl rfl rfl rfl (owp_no rfl rfl rfl rfl (o_pf rfl rfl rfl (o_as rfl rfl ?_))))))))))))))
   refine o_z ?_
   obtain rfl := sm hy36
   replace hB := (hB.st S28).st S33
   exact ⟨(), _, ⟨rfl, trivial⟩, hB⟩
 replace hB := (hB.st S28).st S33
 rintro l54 w55 ⟨x38, O56, hs57, hB⟩
 refine ewp_sub _ hs57 ?_
 refine ewp_ret ?_
 obtain rfl := sm hm
 exact ret1v rfl (res_tmp rfl) ⟨hB.ext, vBool⟩
noncomputable def m_base_Facts (x0 : List Fct) (x1 : List Fct) : Option Bool :=
  if (x0.length : Int) ≠ (x1.length : Int) then (some false) else (bnd (rng (ρ := Bool) (fun (k18 : Nat) (a19 : Fct) (s16 : Unit) => bnd (x1[k18]?) fun a38 => if ¬ (a19.var = a38.var ∧ a19.val = a38.val) then (some (.ret false)) else (some (.next ()))) x0 0 ()) fun res14 => fin res14 fun (s54 : Unit) => some true)
theorem c_base_Facts {w : World} {A : Nat → Prop} (hA : ∀ k, A k → k < w.heap.size) {vx0 : Value} {x0 : List Fct} (hx0 : Vb w A vx0 x0) {vx1 : Value} {x1 : List Fct} (hx1 : Vb w A vx1 x1) {r : Bool} (hm : m_base_Facts x0 x1 = some r) :
    Fn Try.prog 42 [vx0, vx1] w fun v w' => Ext w w' ∧ Vb w' (upA A w w') v r := by
 obtain ⟨O, hB, hA0⟩ := enter hA
 replace hx0 := hx0.mono hA0
 obtain ⟨A3, c4, rfl⟩ := hx0.form
 replace hx1 := hx1.mono hA0
 obtain ⟨A5, c6, rfl⟩ := hx1.form
 refine fn_enter Try.func42 rfl Try.ntmps42 rfl ?_
 unfold m_base_Facts at hm
 refine ewp_seq (ewp_region (o_as rfl rfl (o_z ?_)))
 refine ewp_seq (ewp_seq (ewp_region (o_mv rfl rfl (o_ln rfl rfl ?_))))
 have l8 : x0.length ≤ 9223372036854775807 := Nat.le_trans hx0.len.2.1 hx0.len.2.2
 have r7 : inI64 (x0.length : Int) := rngNat l8
 refine o_mv rfl rfl (o_ln rfl rfl ?_)
 have l10 : x1.length ≤ 9223372036854775807 := Nat.le_trans hx1.len.2.1 hx1.len.2.2
 have r9 : inI64 (x1.length : Int) := rngNat l10
 refine o_neS rfl rfl rfl (fun c11 => ?_) fun c11 => ?_
 ·
  replace hm := ip hm c11
  refine o_z ?_
  refine ewp_true rfl (ewp_seq (ewp_region (o_as rfl rfl (o_z ?_))))
  refine ewp_ret ?_
  obtain rfl := sm hm
  exact ret1v rfl (res_tmp rfl) ⟨hB.ext, vBool⟩
 ·
  replace hm := im hm c11
  refine o_z ?_
  refine ewp_false rfl (ewp_skip (ewp_seq (ewp_seq (ewp_region (o_mv rfl rfl (o_ln rfl rfl ?_))))))
  have l13 : x0.length ≤ 9223372036854775807 := Nat.le_trans hx0.len.2.1 hx0.len.2.2
  have r12 : inI64 (x0.length : Int) := rngNat l13
  refine o_mv rfl rfl (o_z ?_)
  obtain ⟨res14, hL15, hm⟩ := bs hm
  refine ewp_join (aft res14 (fun (s16 : Unit) (x17 : Unit) => []) (fun s16 x17 w' => ∃ O' : Lab, Bs w A w' O')) ?_ ?_
  ·
   refine ewp_block (ewp_rng (σ := Unit) (X := Unit) (x0.length) hL15 rfl l13 (fun (s16 : Unit) (x17 : Unit) => [(0, (.slice A3 x0.length c4)), (1, (.slice A5 x1.length c6))]) _ (fun s16 x17 w' => ∃ O' : Lab, Bs w A w' O' ∧ Vb w' (Fr 0 w' O') (.slice A3 x0.length c4) x0 ∧ Vb w' (Fr 0 w' O') (.slice A5 x1.length c6) x1) _ () ⟨O, hB, hx0, hx1⟩ ⟨rfl, rfl, rfl, rfl, trivial⟩ (fun _ _ => ⟨rfl, rfl⟩) (fun _ _ => trivial) (fun _ _ _ ⟨O', hB, hx0, hx1⟩ => ⟨O', hB⟩) ⟨rfl, rfl, rfl⟩ ⟨rfl, rfl⟩ ?_)
   rintro k18 a19 s16 x17 w20 cc22 hx23 ⟨O21, hB, hx0, hx1⟩ hf24 hret25 hbrk26
   have rk18 : inI64 (k18 : Int) := rngK hx23 l13
   refine ewp_seq (ewp_region (o_mv rfl rfl (o_as rfl rfl (o_z ?_))))
   refine ewp_seq (ewp_draw (· = w20) [(0, true), (1, true), (2, true), (3, true), (4, true), (5, true), (6, true), (7, true), (8, true)] (by kernel_rfl) rfl (by kernel_rfl) rfl ?_)
   refine h_mv rfl rfl rfl (h_mv rfl rfl rfl ?_)
   obtain ⟨b29, o30, ce31, hA32, hl33, hd34, rfl, r36, r37⟩ := hx0.elem' hx23
   refine h_iaE (hA := hA32) (hj := rfl) (hlt := hl33) rfl rfl rfl rfl ?_
   refine h_laA (hl := rfl) (hc := hd34) rfl rfl rfl ?_
   refine h_mv rfl rfl rfl (h_mv rfl rfl rfl ?_)
   obtain ⟨a38, e39, hf24⟩ := bs hf24
   obtain ⟨b40, o41, ce42, hA43, hl44, hd45, rfl, r47, r48⟩ := hx1.elem' e39
   refine h_iaE (hA := hA43) (hj := rfl) (hlt := hl44) rfl rfl rfl rfl ?_
   refine h_laA (hl := rfl) (hc := hd45) rfl rfl rfl ?_
   refine h_fnS rfl rfl rfl rfl (fun c49 => ?_) fun c49 => ?_
   ·
    replace hf24 := ip hf24 c49
    refine h_z ?_
    refine ewp_true rfl (ewp_seq (ewp_region (o_as rfl rfl (o_z ?_))))
    refine ewp_ret ?_
    obtain rfl := sm hf24
    obtain rfl := hret25 _ rfl
    obtain rfl := sm (fin_ret hm)
    exact ret1v rfl (res_tmp rfl) ⟨hB.ext, vBool⟩
   ·
    replace hf24 := im hf24 c49
    refine h_z ?_
    refine ewp_false rfl (ewp_skip ?_)
    obtain rfl := sm hf24
    refine (?_ : Exists _)
    exact ⟨_, (), rfl, ⟨rfl, rfl, rfl, rfl, trivial⟩, _, hB, hx0, hx1⟩
  rintro l50 w51 ⟨s54, x55, rfl, hs53, O52, hB⟩
  replace hm := fin_done hm
  refine ewp_sub _ hs53 ?_
  refine ewp_seq (ewp_region (o_as rfl rfl (o_z ?_)))
  refine ewp_ret ?_
  obtain rfl := sm hm
  exact ret1v rfl (res_tmp rfl) ⟨hB.ext, vBool⟩
noncomputable def m_base_Is (x0 : Err) (x1 : Int) : Option Bool :=
  bnd (if x0.n ≠ 0 then (bnd (m_base_Num (⟨x0.n⟩ : Err)) fun q8 => if q8 = x1 then (some true) else (some false)) else (some false) : Option Bool) fun y3 => some y3
theorem c_base_Is {w : World} {A : Nat → Prop} (hA : ∀ k, A k → k < w.heap.size) {x0 : Err} (rx0 : inI64 x0.n) {x1 : Int} (rx1 : inI64 x1) {r : Bool} (hm : m_base_Is x0 x1 = some r) :
    Fn Try.prog 17 [(errV x0.n), (.int .i64 x1)] w fun v w' => Ext w w' ∧ Vb w' (upA A w w') v r := by
 obtain ⟨O, hB, hA0⟩ := enter hA
 refine fn_enter Try.func17 rfl Try.ntmps17 rfl ?_
 unfold m_base_Is at hm
 refine ewp_seq (ewp_region (o_as rfl rfl (o_z ?_)))
 refine ewp_seq ?_
 obtain ⟨y3, hy4, hm⟩ := bs hm
 refine ewp_join (fun l' w' => ∃ (x6 : Unit) (O' : Lab), subs l' [(4, (.bool y3))] ∧ Bs w A w' O') ?_ ?_
 ·
  refine ewp_region (o_mv rfl rfl (o_rnS rfl rfl (fun c7 => ?_) fun c7 => ?_))
  ·
   replace hy4 := ip hy4 c7
   refine o_mv rfl rfl (owp_yes rfl rfl (o_mv rfl rfl (owp_yes rfl rfl ?_)))
   obtain ⟨q8, e9, hy4⟩ := bs hy4
   refine l_callA (O := O) (A := All w) (R := fun w' F v => Vb w' F v q8) (c_base_Num (fun _ h => h) rx0 e9) rfl rfl fun v14 w10 O11 S12 h13 => ?_
   obtain ⟨rfl, r15⟩ := h13.int
   refine owp_yes rfl rfl (o_mv rfl rfl (owp_yes rfl rfl (o_eeS rfl rfl rfl (fun c16 => ?_) fun c16 => ?_)))
   ·
    replace hy4 := ip hy4 c16
    refine o_pt rfl rfl rfl (o_as rfl rfl (o_z ?_))
    obtain rfl := sm hy4
    replace hB := hB.st S12
    exact ⟨(), _, ⟨rfl, trivial⟩, hB⟩
   ·
    replace hy4 := im hy4 c16
    refine o_pt rfl rfl rfl (o_as rfl rfl (o_z ?_))
    obtain rfl := sm hy4
    replace hB := hB.st S12
    exact ⟨(), _, ⟨rfl, trivial⟩, hB⟩
  ·
   replace hy4 := im hy4 c7
   refine o_mv rfl rfl (owp_no rfl rfl rfl rfl (owp_no rfl rfl rfl rfl (owp_no rfl rfl rfl rfl (owp_no rfl rfl rfl rfl (o_pf rfl rfl rfl (o_as rfl rfl (o_z ?_)))))))
   obtain rfl := sm hy4
   exact ⟨(), _, ⟨rfl, trivial⟩, hB⟩
 rintro l17 w18 ⟨x6, O19, hs20, hB⟩
 refine ewp_sub _ hs20 ?_
 refine ewp_ret ?_
 obtain rfl := sm hm
 exact ret1v rfl (res_tmp rfl) ⟨hB.ext, vBool⟩
noncomputable def m_ref06_Value (x0 : List Fct) (x1 : Int) : Option Int :=
  bnd (rng (ρ := Int) (fun (k11 : Nat) (a12 : Fct) (s9 : Unit) => if a12.var = x1 then (some (.ret a12.val)) else (some (.next ()))) x0 0 ()) fun res7 => fin res7 fun (s43 : Unit) => some (-1)
theorem c_ref06_Value {w : World} {A : Nat → Prop} (hA : ∀ k, A k → k < w.heap.size) {vx0 : Value} {x0 : List Fct} (hx0 : Vb w A vx0 x0) {x1 : Int} (rx1 : inI64 x1) {r : Int} (hm : m_ref06_Value x0 x1 = some r) :
    Fn Try.prog 90 [vx0, (.int .i64 x1)] w fun v w' => Ext w w' ∧ Vb w' (upA A w w') v r := by
 obtain ⟨O, hB, hA0⟩ := enter hA
 replace hx0 := hx0.mono hA0
 obtain ⟨A3, c4, rfl⟩ := hx0.form
 refine fn_enter Try.func90 rfl Try.ntmps90 rfl ?_
 unfold m_ref06_Value at hm
 refine ewp_seq (ewp_region (o_as rfl rfl (o_z ?_)))
 refine ewp_seq (ewp_seq (ewp_region (o_mv rfl rfl (o_ln rfl rfl ?_))))
 have l6 : x0.length ≤ 9223372036854775807 := Nat.le_trans hx0.len.2.1 hx0.len.2.2
 have r5 : inI64 (x0.length : Int) := rngNat l6
 refine o_mv rfl rfl (o_z ?_)
 obtain ⟨res7, hL8, hm⟩ := bs hm
 refine ewp_join (aft res7 (fun (s9 : Unit) (x10 : Unit) => []) (fun s9 x10 w' => ∃ O' : Lab, Bs w A w' O')) ?_ ?_
 ·
  refine ewp_block (ewp_rng (σ := Unit) (X := Unit) (x0.length) hL8 rfl l6 (fun (s9 : Unit) (x10 : Unit) => [(1, (.int .i64 x1)), (7, (.slice A3 x0.length c4))]) _ (fun s9 x10 w' => ∃ O' : Lab, Bs w A w' O' ∧ Vb w' (Fr 0 w' O') (.slice A3 x0.length c4) x0) _ () ⟨O, hB, hx0⟩ ⟨rfl, rfl, rfl, rfl, trivial⟩ (fun _ _ => ⟨rfl, rfl⟩) (fun _ _ => trivial) (fun _ _ _ ⟨O', hB, hx0⟩ => ⟨O', hB⟩) ⟨rfl, rfl, rfl⟩ ⟨rfl, rfl⟩ ?_)
  rintro k11 a12 s9 x10 w13 cc15 hx16 ⟨O14, hB, hx0⟩ hf17 hret18 hbrk19
  have rk11 : inI64 (k11 : Int) := rngK hx16 l6
  refine ewp_seq (ewp_region ?_)
  obtain ⟨b22, o23, ce24, hA25, hl26, hd27, rfl, r29, r30⟩ := hx0.elem' hx16
  refine o_iaE (hA := hA25) (hj := rfl) (hlt := hl26) rfl rfl rfl ?_
  refine o_la (hl := rfl) (hc := hd27) rfl rfl ?_
  refine l_alloc 2 O14 rfl fun g31 w32 O33 S34 h35 => ?_
  refine l_store h35 rfl rfl rfl (Nat.le_of_ble_eq_true rfl) (by first | exact allOne rfl | simp [Value.cells, Value.oneCell', errV_one]) fun w36 S37 h35 => ?_
  replace h35 : Lc 2 w36 O33 g31 103 [(.int .i64 a12.var), (.int .i64 a12.val)] := h35
  refine o_z ?_
  refine ewp_seq (ewp_region (o_fa rfl rfl (o_ld (hc := Blk.cell (i := 0) (h35.1) rfl) rfl rfl ?_)))
  refine o_mv rfl rfl (o_eeS rfl rfl rfl (fun c38 => ?_) fun c38 => ?_)
  ·
   replace hf17 := ip hf17 c38
   refine o_z ?_
   refine ewp_true rfl (ewp_seq (ewp_region (o_fa rfl rfl (o_ld (hc := Blk.cell (i := 1) (h35.1) rfl) rfl rfl ?_))))
   refine o_as rfl rfl (o_z ?_)
   refine ewp_ret ?_
   obtain rfl := sm hf17
   obtain rfl := hret18 _ rfl
   obtain rfl := sm (fin_ret hm)
   replace hB := (hB.st S34).st S37
   exact ret1v rfl (res_tmp rfl) ⟨hB.ext, (vInt r30)⟩
  ·
   replace hf17 := im hf17 c38
   refine o_z ?_
   refine ewp_false rfl (ewp_skip ?_)
   obtain rfl := sm hf17
   refine (?_ : Exists _)
   replace hx0 := (hx0.st S34).st S37
   replace hB := (hB.st S34).st S37
   exact ⟨_, (), rfl, ⟨rfl, rfl, rfl, rfl, trivial⟩, _, hB, hx0⟩
 rintro l39 w40 ⟨s43, x44, rfl, hs42, O41, hB⟩
 replace hm := fin_done hm
 refine ewp_sub _ hs42 ?_
 refine ewp_seq (ewp_region (o_as rfl rfl (o_z ?_)))
 refine ewp_ret ?_
 obtain rfl := sm hm
 exact ret1v rfl (res_tmp rfl) ⟨hB.ext, (vInt (show inI64 (-1) from by decide))⟩
noncomputable def m_ref06_With (x0 : List Fct) (x1 : Fct) : Option (List Fct) :=
  bnd (rng (ρ := (List Fct)) (fun (k19 : Nat) (a20 : Fct) (s17 : (List Fct) × Bool) => bnd (bnd (if (!s17.2) = true then (if x1.var < a20.var then (some true) else (some false)) else (some false) : Option Bool) fun y56 => if y56 = true then (bnd (appI 16 s17.1 [x1]) fun u67 => some (u67, true)) else (some (s17.1, s17.2)) : Option ((List Fct) × Bool)) fun y50 => bnd (appI 16 y50.1 [a20]) fun u83 => some (.next (u83, y50.2))) x0 0 (([] : List Fct), false)) fun res15 => fin res15 fun (s99 : (List Fct) × Bool) => bnd (if (!s99.2) = true then (bnd (appI 16 s99.1 [x1]) fun u108 => some u108) else (some s99.1) : Option (List Fct)) fun y101 => some y101
theorem c_ref06_With {w : World} {A : Nat → Prop} (hA : ∀ k, A k → k < w.heap.size) {vx0 : Value} {x0 : List Fct} (hx0 : Vb w A vx0 x0) {vx1 : Value} {x1 : Fct} (hx1 : Vb w A vx1 x1) {r : (List Fct)} (hm : m_ref06_With x0 x1 = some r) :
    Fn Try.prog 91 [vx0, vx1] w fun v w' => Ext w w' ∧ Vb w' (upA A w w') v r := by
 obtain ⟨O, hB, hA0⟩ := enter hA
 replace hx0 := hx0.mono hA0
 obtain ⟨A3, c4, rfl⟩ := hx0.form
 replace hx1 := hx1.mono hA0
 obtain ⟨cs5, rfl, rfl, r6, r7⟩ := hx1
 refine fn_enter Try.func91 rfl Try.ntmps91 rfl ?_
 unfold m_ref06_With at hm
 refine ewp_seq (ewp_region (l_box 2 O rfl rfl fun g8 w9 O10 S11 h12 => ?_))
 replace h12 : Lc 2 w9 O10 g8 103 [(.int .i64 x1.var), (.int .i64 x1.val)] := h12
 refine o_as rfl rfl (o_z ?_)
 refine ewp_seq (ewp_region (o_as rfl rfl (o_z ?_)))
 refine ewp_seq (ewp_region (o_as rfl rfl (o_z ?_)))
 refine ewp_seq (ewp_seq (ewp_region (o_mv rfl rfl (o_ln rfl rfl ?_))))
 replace hx0 := hx0.st S11
 have l14 : x0.length ≤ 9223372036854775807 := Nat.le_trans hx0.len.2.1 hx0.len.2.2
 have r13 : inI64 (x0.length : Int) := rngNat l14
 refine o_mv rfl rfl (o_z ?_)
 obtain ⟨res15, hL16, hm⟩ := bs hm
 refine ewp_join (aft res15 (fun (s17 : (List Fct) × Bool) (x18 : (Option Addr × Nat)) => [(3, (.pointer (some ⟨g8, 0, none⟩))), (5, (.slice x18.1 s17.1.length x18.2)), (6, (.bool s17.2))]) (fun s17 x18 w' => ∃ O' : Lab, Bs w A w' O' ∧ Lc 2 w' O' g8 103 [(.int .i64 x1.var), (.int .i64 x1.val)] ∧ Rw 4 w' O' 103 (.slice x18.1 s17.1.length x18.2) s17.1)) ?_ ?_
 ·
  refine ewp_block ?_
  replace hB := hB.st S11
  refine ewp_rng (σ := (List Fct) × Bool) (X := (Option Addr × Nat)) (x0.length) hL16 rfl l14 (fun (s17 : (List Fct) × Bool) (x18 : (Option Addr × Nat)) => [(3, (.pointer (some ⟨g8, 0, none⟩))), (5, (.slice x18.1 s17.1.length x18.2)), (6, (.bool s17.2)), (9, (.slice A3 x0.length c4))]) _ (fun s17 x18 w' => ∃ O' : Lab, Bs w A w' O' ∧ Lc 2 w' O' g8 103 [(.int .i64 x1.var), (.int .i64 x1.val)] ∧ Rw 4 w' O' 103 (.slice x18.1 s17.1.length x18.2) s17.1 ∧ Vb w' (Fr 0 w' O') (.slice A3 x0.length c4) x0) _ (none, 0) ⟨O10, hB, h12, (Rw.nil 4 (by decide)), hx0⟩ ⟨rfl, rfl, rfl, rfl, rfl, rfl, trivial⟩ (fun _ _ => ⟨rfl, rfl⟩) (fun _ _ => ⟨rfl, rfl, rfl, trivial⟩) (fun _ _ _ ⟨O', hB, h12, h32, hx0⟩ => ⟨O', hB, h12, h32⟩) ⟨rfl, rfl, rfl⟩ ⟨rfl, rfl⟩ ?_
  rintro k19 a20 s17 x18 w21 cc23 hx24 ⟨O22, hB, h12, h32, hx0⟩ hf25 hret26 hbrk27
  have rk19 : inI64 (k19 : Int) := rngK hx24 l14
  refine ewp_seq (ewp_region ?_)
  obtain ⟨b34, o35, ce36, hA37, hl38, hd39, rfl, r41, r42⟩ := hx0.elem' hx24
  refine o_iaE (hA := hA37) (hj := rfl) (hlt := hl38) rfl rfl rfl ?_
  refine o_la (hl := rfl) (hc := hd39) rfl rfl ?_
  refine l_alloc 3 O22 rfl fun g43 w44 O45 S46 h47 => ?_
  refine l_store h47 rfl rfl rfl (Nat.le_of_ble_eq_true rfl) (by first | exact allOne rfl | simp [Value.cells, Value.oneCell', errV_one]) fun w48 S49 h47 => ?_
  replace h47 : Lc 3 w48 O45 g43 103 [(.int .i64 a20.var), (.int .i64 a20.val)] := h47
  refine o_z ?_
  refine ewp_seq ?_
  obtain ⟨y50, hy51, hf25⟩ := bs hf25
  refine ewp_join (fun l' w' => ∃ (x53 : (Option Addr × Nat)) (O' : Lab), subs l' [(3, (.pointer (some ⟨g8, 0, none⟩))), (5, (.slice x53.1 y50.1.length x53.2)), (6, (.bool y50.2)), (8, (.pointer (some ⟨g43, 0, none⟩))), (9, (.slice A3 x0.length c4)), (10, (.int .i64 (x0.length : Int))), (11, (.int .i64 (k19 : Int)))] ∧ Bs w A w' O' ∧ Lc 2 w' O' g8 103 [(.int .i64 x1.var), (.int .i64 x1.val)] ∧ Rw 4 w' O' 103 (.slice x53.1 y50.1.length x53.2) y50.1 ∧ Lc 3 w' O' g43 103 [(.int .i64 a20.var), (.int .i64 a20.val)] ∧ Vb w' (Fr 0 w' O') (.slice A3 x0.length c4) x0) ?_ ?_
  ·
   refine ewp_seq ?_
   obtain ⟨y56, hy57, hy51⟩ := bs hy51
   refine ewp_join (fun l' w' => ∃ (x59 : Unit) (O' : Lab), subs l' [(3, (.pointer (some ⟨g8, 0, none⟩))), (5, (.slice x18.1 s17.1.length x18.2)), (6, (.bool s17.2)), (8, (.pointer (some ⟨g43, 0, none⟩))), (9, (.slice A3 x0.length c4)), (10, (.int .i64 (x0.length : Int))), (11, (.int .i64 (k19 : Int))), (23, (.bool y56))] ∧ Bs w A w' O' ∧ Lc 2 w' O' g8 103 [(.int .i64 x1.var), (.int .i64 x1.val)] ∧ Rw 4 w' O' 103 (.slice x18.1 s17.1.length x18.2) s17.1 ∧ Lc 3 w' O' g43 103 [(.int .i64 a20.var), (.int .i64 a20.val)] ∧ Vb w' (Fr 0 w' O') (.slice A3 x0.length c4) x0) ?_ ?_
   ·
    refine ewp_region (o_mv rfl rfl (o_nn rfl rfl (o_mv rfl rfl ?_)))
    rcases Bool.eq_false_or_eq_true (!s17.2) with c60 | c60
    ·
     try simp only [c60]
     replace hy57 := ip hy57 c60
     refine owp_yes rfl rfl (o_fa rfl rfl (owp_yes rfl rfl (o_ld (hc := Blk.cell (i := 0) (h47.1) rfl) rfl rfl ?_)))
     refine owp_yes rfl rfl (o_fa rfl rfl (owp_yes rfl rfl ?_))
     replace h12 := (h12.st S46).st S49
     refine o_ld (hc := Blk.cell (i := 0) (h12.1) rfl) rfl rfl ?_
     refine owp_yes rfl rfl (o_gtS rfl rfl rfl (fun c61 => ?_) fun c61 => ?_)
     ·
      replace hy57 := ip hy57 c61
      refine o_pt rfl rfl rfl (o_z ?_)
      obtain rfl := sm hy57
      replace hx0 := (hx0.st S46).st S49
      replace hB := (hB.st S46).st S49
      replace h32 := (h32.st S46).st S49
      exact ⟨(), _, ⟨rfl, rfl, rfl, rfl, rfl, rfl, rfl, rfl, trivial⟩, hB, h12, h32, h47, hx0⟩
     ·
      replace hy57 := im hy57 c61
      refine o_pt rfl rfl rfl (o_z ?_)
      obtain rfl := sm hy57
      replace hx0 := (hx0.st S46).st S49
      replace hB := (hB.st S46).st S49
      replace h32 := (h32.st S46).st S49
      exact ⟨(), _, ⟨rfl, rfl, rfl, rfl, rfl, rfl, rfl, rfl, trivial⟩, hB, h12, h32, h47, hx0⟩
    ·
     try simp only [c60]
     replace hy57 := im' hy57 c60
     refine owp_no rfl rfl rfl rfl (owp_no rfl rfl rfl rfl (owp_no rfl rfl rfl rfl (owp_no rfl rfl rfl rfl (owp_no rfl rfl rfl rfl (o_pf rfl rfl rfl (o_z ?_))))))
     obtain rfl := sm hy57
     replace hx0 := (hx0.st S46).st S49
     replace hB := (hB.st S46).st S49
     replace h12 := (h12.st S46).st S49
     replace h32 := (h32.st S46).st S49
     exact ⟨(), _, ⟨rfl, rfl, rfl, rfl, rfl, rfl, rfl, rfl, trivial⟩, hB, h12, h32, h47, hx0⟩
   replace hx0 := (hx0.st S46).st S49
   replace hB := (hB.st S46).st S49
   replace h12 := (h12.st S46).st S49
   replace h32 := (h32.st S46).st S49
   rintro l62 w63 ⟨x59, O64, hs65, hB, h12, h32, h47, hx0⟩
   refine ewp_sub _ hs65 ?_
   refine ewp_cond rfl (fun c66 => ?_) (fun c66 => ?_)
   ·
    replace hy51 := ip hy51 c66
    refine ewp_seq (ewp_region (o_mv rfl rfl (o_la (hl := rfl) (hc := (h12.1).cellsAt) rfl rfl ?_)))
    obtain ⟨u67, e68, hy51⟩ := bs hy51
    obtain ⟨e68, e69, e70⟩ := appI_some e68
    refine l_append1 rfl (a := x1) h32 (Vb.ofAgg (cs := [(.int .i64 x1.var), (.int .i64 x1.val)]) (x := x1) rfl ⟨rfl, r6, r7⟩) (fun _ => rfl) rfl (by decide) (by decide) e69 e70 ⟨rfl, rfl⟩ fun g71 A72 c73 w74 O75 S76 h77 => ?_
    rw [← e68] at h77 ⊢
    refine o_as rfl rfl (o_z ?_)
    refine ewp_region (o_as rfl rfl (o_z ?_))
    obtain rfl := sm hy51
    replace hx0 := hx0.st S76
    replace hB := hB.st S76
    replace h12 := h12.st S76
    replace h47 := h47.st S76
    exact ⟨(A72, c73), _, ⟨rfl, rfl, rfl, rfl, rfl, rfl, rfl, trivial⟩, hB, h12, h77, h47, hx0⟩
   ·
    replace hy51 := im' hy51 c66
    refine ewp_skip ?_
    obtain rfl := sm hy51
    exact ⟨(x18.1, x18.2), _, ⟨rfl, rfl, rfl, rfl, rfl, rfl, rfl, trivial⟩, hB, h12, h32, h47, hx0⟩
  replace hx0 := (hx0.st S46).st S49
  replace hB := (hB.st S46).st S49
  replace h12 := (h12.st S46).st S49
  rintro l79 w80 ⟨x53, O81, hs82, hB, h12, h54, h47, hx0⟩
  refine ewp_sub _ hs82 ?_
  refine ewp_region (o_mv rfl rfl (o_la (hl := rfl) (hc := (h47.1).cellsAt) rfl rfl ?_))
  obtain ⟨u83, e84, hf25⟩ := bs hf25
  obtain ⟨e84, e85, e86⟩ := appI_some e84
  refine l_append1 rfl (a := a20) h54 (Vb.ofAgg (cs := [(.int .i64 a20.var), (.int .i64 a20.val)]) (x := a20) rfl ⟨rfl, r41, r42⟩) (fun _ => rfl) rfl (by decide) (by decide) e85 e86 ⟨rfl, rfl⟩ fun g87 A88 c89 w90 O91 S92 h93 => ?_
  rw [← e84] at h93 ⊢
  refine o_as rfl rfl (o_z ?_)
  obtain rfl := sm hf25
  refine (?_ : Exists _)
  replace hx0 := hx0.st S92
  replace hB := hB.st S92
  replace h12 := h12.st S92
  exact ⟨_, (A88, c89), rfl, ⟨rfl, rfl, rfl, rfl, rfl, rfl, trivial⟩, _, hB, h12, h93, hx0⟩
 replace hB := hB.st S11
 rintro l95 w96 ⟨s99, x100, rfl, hs98, O97, hB, h12, h32⟩
 replace hm := fin_done hm
 refine ewp_sub _ hs98 ?_
 refine ewp_seq ?_
 obtain ⟨y101, hy102, hm⟩ := bs hm
 refine ewp_join (fun l' w' => ∃ (x104 : (Option Addr × Nat)) (O' : Lab), subs l' [(5, (.slice x104.1 y101.length x104.2))] ∧ Bs w A w' O' ∧ Rw 4 w' O' 103 (.slice x104.1 y101.length x104.2) y101) ?_ ?_
 ·
  refine ewp_seq (ewp_region (o_mv rfl rfl (o_nn rfl rfl (o_z ?_))))
  refine ewp_cond rfl (fun c107 => ?_) (fun c107 => ?_)
  ·
   replace hy102 := ip hy102 c107
   refine ewp_region (o_mv rfl rfl (o_la (hl := rfl) (hc := (h12.1).cellsAt) rfl rfl ?_))
   obtain ⟨u108, e109, hy102⟩ := bs hy102
   obtain ⟨e109, e110, e111⟩ := appI_some e109
   refine l_append1 rfl (a := x1) h32 (Vb.ofAgg (cs := [(.int .i64 x1.var), (.int .i64 x1.val)]) (x := x1) rfl ⟨rfl, r6, r7⟩) (fun _ => rfl) rfl (by decide) (by decide) e110 e111 ⟨rfl, rfl⟩ fun g112 A113 c114 w115 O116 S117 h118 => ?_
   rw [← e109] at h118 ⊢
   refine o_as rfl rfl (o_z ?_)
   obtain rfl := sm hy102
   replace hB := hB.st S117
   exact ⟨(A113, c114), _, ⟨rfl, trivial⟩, hB, h118⟩
  ·
   replace hy102 := im' hy102 c107
   refine ewp_skip ?_
   obtain rfl := sm hy102
   exact ⟨(x100.1, x100.2), _, ⟨rfl, trivial⟩, hB, h32⟩
 rintro l120 w121 ⟨x104, O122, hs123, hB, h105⟩
 refine ewp_sub _ hs123 ?_
 refine ewp_seq (ewp_region (o_mv rfl rfl (o_as rfl rfl (o_z ?_))))
 refine ewp_ret ?_
 obtain ⟨O124, S125, h105⟩ := h105.freeze
 obtain rfl := sm hm
 replace hB := hB.st S125
 exact ret1v rfl (res_tmp rfl) ⟨hB.ext, (Vb.mono (F := Fr 0 w121 O124) h105 hB.out)⟩
noncomputable def m_ref06_Make (x0 : List Fct) : Option ((List Fct) × Int) :=
  bnd (rng (ρ := (List Fct) × Int) (fun (k10 : Nat) (a11 : Fct) (s8 : Unit) => bnd (if a11.var < 0 then (some true) else (if a11.val < 0 then (some true) else (some false)) : Option Bool) fun y37 => if y37 = true then (some (.ret (([] : List Fct), 1))) else (some (.next ()))) x0 0 ()) fun res6 => fin res6 fun (s52 : Unit) => bnd (rng (ρ := (List Fct) × Int) (fun (k60 : Nat) (a61 : Fct) (s58 : (List Fct)) => bnd (m_ref06_Value s58 a61.var) fun q89 => bnd (if 0 ≤ q89 then (if q89 ≠ a61.val then (some true) else (some false)) else (some false) : Option Bool) fun y97 => if y97 = true then (some (.ret (([] : List Fct), 2))) else (if q89 < 0 then (bnd (m_ref06_With s58 a61) fun q109 => some (.next q109)) else (some (.next s58)))) x0 0 ([] : List Fct)) fun res56 => fin res56 fun (s122 : (List Fct)) => some (s122, 0)
theorem c_ref06_Make {w : World} {A : Nat → Prop} (hA : ∀ k, A k → k < w.heap.size) {vx0 : Value} {x0 : List Fct} (hx0 : Vb w A vx0 x0) {r : (List Fct) × Int} (hm : m_ref06_Make x0 = some r) :
    Fn Try.prog 79 [vx0] w fun v w' => Ext w w' ∧ T2 w' (upA A w w') v r := by
 obtain ⟨O, hB, hA0⟩ := enter hA
 replace hx0 := hx0.mono hA0
 obtain ⟨A2, c3, rfl⟩ := hx0.form
 refine fn_enter Try.func79 rfl Try.ntmps79 rfl ?_
 unfold m_ref06_Make at hm
 refine ewp_seq (ewp_region (o_as rfl rfl (o_as rfl rfl (o_z ?_))))
 refine ewp_seq (ewp_seq (ewp_region (o_mv rfl rfl (o_ln rfl rfl ?_))))
 have l5 : x0.length ≤ 9223372036854775807 := Nat.le_trans hx0.len.2.1 hx0.len.2.2
 have r4 : inI64 (x0.length : Int) := rngNat l5
 refine o_mv rfl rfl (o_z ?_)
 obtain ⟨res6, hL7, hm⟩ := bs hm
 refine ewp_join (aft res6 (fun (s8 : Unit) (x9 : Unit) => [(0, (.slice A2 x0.length c3))]) (fun s8 x9 w' => ∃ O' : Lab, Bs w A w' O' ∧ Vb w' (Fr 0 w' O') (.slice A2 x0.length c3) x0)) ?_ ?_
 ·
  refine ewp_block (ewp_rng (σ := Unit) (X := Unit) (x0.length) hL7 rfl l5 (fun (s8 : Unit) (x9 : Unit) => [(0, (.slice A2 x0.length c3)), (10, (.slice A2 x0.length c3))]) _ (fun s8 x9 w' => ∃ O' : Lab, Bs w A w' O' ∧ Vb w' (Fr 0 w' O') (.slice A2 x0.length c3) x0) _ () ⟨O, hB, hx0⟩ ⟨rfl, rfl, rfl, rfl, trivial⟩ (fun _ _ => ⟨rfl, rfl⟩) (fun _ _ => ⟨rfl, trivial⟩) (fun _ _ _ ⟨O', hB, hx0⟩ => ⟨O', hB, hx0⟩) ⟨rfl, rfl, rfl⟩ ⟨rfl, rfl⟩ ?_)
  rintro k10 a11 s8 x9 w12 cc14 hx15 ⟨O13, hB, hx0⟩ hf16 hret17 hbrk18
  have rk10 : inI64 (k10 : Int) := rngK hx15 l5
  refine ewp_seq (ewp_region ?_)
  obtain ⟨b21, o22, ce23, hA24, hl25, hd26, rfl, r28, r29⟩ := hx0.elem' hx15
  refine o_iaE (hA := hA24) (hj := rfl) (hlt := hl25) rfl rfl rfl ?_
  refine o_la (hl := rfl) (hc := hd26) rfl rfl ?_
  refine l_alloc 2 O13 rfl fun g30 w31 O32 S33 h34 => ?_
  refine l_store h34 rfl rfl rfl (Nat.le_of_ble_eq_true rfl) (by first | exact allOne rfl | simp [Value.cells, Value.oneCell', errV_one]) fun w35 S36 h34 => ?_
  replace h34 : Lc 2 w35 O32 g30 103 [(.int .i64 a11.var), (.int .i64 a11.val)] := h34
  refine o_z ?_
  refine ewp_seq ?_
  obtain ⟨y37, hy38, hf16⟩ := bs hf16
  refine ewp_join (fun l' w' => ∃ (x40 : Unit) (O' : Lab), subs l' [(0, (.slice A2 x0.length c3)), (10, (.slice A2 x0.length c3)), (11, (.int .i64 (x0.length : Int))), (12, (.int .i64 (k10 : Int))), (23, (.bool y37))] ∧ Bs w A w' O' ∧ Vb w' (Fr 0 w' O') (.slice A2 x0.length c3) x0) ?_ ?_
  ·
   refine ewp_region (o_fa rfl rfl (o_ld (hc := Blk.cell (i := 0) (h34.1) rfl) rfl rfl ?_))
   refine o_ltS rfl rfl rfl (fun c41 => ?_) fun c41 => ?_
   ·
    replace hy38 := ip hy38 c41
    refine o_mv rfl rfl (owp_no rfl rfl rfl rfl (owp_no rfl rfl rfl rfl (owp_no rfl rfl rfl rfl (o_pt rfl rfl rfl (o_z ?_)))))
    obtain rfl := sm hy38
    replace hx0 := (hx0.st S33).st S36
    replace hB := (hB.st S33).st S36
    exact ⟨(), _, ⟨rfl, rfl, rfl, rfl, rfl, trivial⟩, hB, hx0⟩
   ·
    replace hy38 := im hy38 c41
    refine o_mv rfl rfl (owp_yes rfl rfl (o_fa rfl rfl (owp_yes rfl rfl (o_ld (hc := Blk.cell (i := 1) (h34.1) rfl) rfl rfl ?_))))
    refine owp_yes rfl rfl (o_ltS rfl rfl rfl (fun c42 => ?_) fun c42 => ?_)
    ·
     replace hy38 := ip hy38 c42
     refine o_pf rfl rfl rfl (o_z ?_)
     obtain rfl := sm hy38
     replace hx0 := (hx0.st S33).st S36
     replace hB := (hB.st S33).st S36
     exact ⟨(), _, ⟨rfl, rfl, rfl, rfl, rfl, trivial⟩, hB, hx0⟩
    ·
     replace hy38 := im hy38 c42
     refine o_pf rfl rfl rfl (o_z ?_)
     obtain rfl := sm hy38
     replace hx0 := (hx0.st S33).st S36
     replace hB := (hB.st S33).st S36
     exact ⟨(), _, ⟨rfl, rfl, rfl, rfl, rfl, trivial⟩, hB, hx0⟩
  replace hx0 := (hx0.st S33).st S36
  replace hB := (hB.st S33).st S36
  rintro l43 w44 ⟨x40, O45, hs46, hB, hx0⟩
  refine ewp_sub _ hs46 ?_
  refine ewp_cond rfl (fun c47 => ?_) (fun c47 => ?_)
  ·
   replace hf16 := ip hf16 c47
   refine ewp_seq (ewp_region (o_as rfl rfl (o_as rfl rfl (o_z ?_))))
   refine ewp_ret ?_
   obtain rfl := sm hf16
   obtain rfl := hret17 _ rfl
   obtain rfl := sm (fin_ret hm)
   exact ret2 rfl (res_tmp rfl) (res_tmp rfl) ⟨hB.ext, _, _, rfl, (Vb.mono (F := Fr 0 w44 O45) (Vb.nil _ _) hB.out), (vInt (show inI64 (1) from by decide))⟩
  ·
   replace hf16 := im' hf16 c47
   refine ewp_skip ?_
   obtain rfl := sm hf16
   refine (?_ : Exists _)
   exact ⟨_, (), rfl, ⟨rfl, rfl, rfl, rfl, trivial⟩, _, hB, hx0⟩
 rintro l48 w49 ⟨s52, x53, rfl, hs51, O50, hB, hx0⟩
 replace hm := fin_done hm
 refine ewp_sub _ hs51 ?_
 refine ewp_seq (ewp_region (o_as rfl rfl (o_z ?_)))
 refine ewp_seq (ewp_seq (ewp_region (o_mv rfl rfl (o_ln rfl rfl ?_))))
 have l55 : x0.length ≤ 9223372036854775807 := Nat.le_trans hx0.len.2.1 hx0.len.2.2
 have r54 : inI64 (x0.length : Int) := rngNat l55
 refine o_mv rfl rfl (o_z ?_)
 obtain ⟨res56, hL57, hm⟩ := bs hm
 refine ewp_join (aft res56 (fun (s58 : (List Fct)) (x59 : (Option Addr × Nat)) => [(6, (.slice x59.1 s58.length x59.2))]) (fun s58 x59 w' => ∃ O' : Lab, Bs w A w' O' ∧ Vb w' (Fr 0 w' O') (.slice x59.1 s58.length x59.2) s58)) ?_ ?_
 ·
  refine ewp_block (ewp_rng (σ := (List Fct)) (X := (Option Addr × Nat)) (x0.length) hL57 rfl l55 (fun (s58 : (List Fct)) (x59 : (Option Addr × Nat)) => [(6, (.slice x59.1 s58.length x59.2)), (25, (.slice A2 x0.length c3))]) _ (fun s58 x59 w' => ∃ O' : Lab, Bs w A w' O' ∧ Vb w' (Fr 0 w' O') (.slice x59.1 s58.length x59.2) s58 ∧ Vb w' (Fr 0 w' O') (.slice A2 x0.length c3) x0) _ (none, 0) ⟨O50, hB, (Vb.nil _ _), hx0⟩ ⟨rfl, rfl, rfl, rfl, trivial⟩ (fun _ _ => ⟨rfl, rfl⟩) (fun _ _ => ⟨rfl, trivial⟩) (fun _ _ _ ⟨O', hB, h72, hx0⟩ => ⟨O', hB, h72⟩) ⟨rfl, rfl, rfl⟩ ⟨rfl, rfl⟩ ?_)
  rintro k60 a61 s58 x59 w62 cc64 hx65 ⟨O63, hB, h72, hx0⟩ hf66 hret67 hbrk68
  have rk60 : inI64 (k60 : Int) := rngK hx65 l55
  refine ewp_seq (ewp_region ?_)
  obtain ⟨b73, o74, ce75, hA76, hl77, hd78, rfl, r80, r81⟩ := hx0.elem' hx65
  refine o_iaE (hA := hA76) (hj := rfl) (hlt := hl77) rfl rfl rfl ?_
  refine o_la (hl := rfl) (hc := hd78) rfl rfl ?_
  refine l_alloc 3 O63 rfl fun g82 w83 O84 S85 h86 => ?_
  refine l_store h86 rfl rfl rfl (Nat.le_of_ble_eq_true rfl) (by first | exact allOne rfl | simp [Value.cells, Value.oneCell', errV_one]) fun w87 S88 h86 => ?_
  replace h86 : Lc 3 w87 O84 g82 103 [(.int .i64 a61.var), (.int .i64 a61.val)] := h86
  refine o_z ?_
  refine ewp_seq (ewp_region (o_mv rfl rfl (o_fa rfl rfl (o_ld (hc := Blk.cell (i := 0) (h86.1) rfl) rfl rfl ?_))))
  obtain ⟨q89, e90, hf66⟩ := bs hf66
  replace h72 := (h72.st S85).st S88
  refine l_callA (O := O84) (A := All w87) (R := fun w' F v => Vb w' F v q89) (c_ref06_Value (fun _ h => h) (Vb.mono (F := Fr 0 w87 O84) h72 Fr.lt) r80 e90) rfl rfl fun v95 w91 O92 S93 h94 => ?_
  obtain ⟨rfl, r96⟩ := h94.int
  refine o_as rfl rfl (o_z ?_)
  refine ewp_seq (ewp_seq ?_)
  obtain ⟨y97, hy98, hf66⟩ := bs hf66
  refine ewp_join (fun l' w' => ∃ (x100 : Unit) (O' : Lab), subs l' [(6, (.slice x59.1 s58.length x59.2)), (8, (.pointer (some ⟨g82, 0, none⟩))), (9, (.int .i64 q89)), (25, (.slice A2 x0.length c3)), (26, (.int .i64 (x0.length : Int))), (27, (.int .i64 (k60 : Int))), (42, (.bool y97))] ∧ Bs w A w' O' ∧ Vb w' (Fr 0 w' O') (.slice x59.1 s58.length x59.2) s58 ∧ Lc 3 w' O' g82 103 [(.int .i64 a61.var), (.int .i64 a61.val)] ∧ Vb w' (Fr 0 w' O') (.slice A2 x0.length c3) x0) ?_ ?_
  ·
   refine ewp_region (o_mv rfl rfl (o_geS rfl rfl rfl (fun c101 => ?_) fun c101 => ?_))
   ·
    replace hy98 := ip hy98 c101
    refine o_mv rfl rfl (owp_yes rfl rfl (o_mv rfl rfl (owp_yes rfl rfl (o_fa rfl rfl (owp_yes rfl rfl ?_)))))
    replace h86 := h86.st S93
    refine o_ld (hc := Blk.cell (i := 1) (h86.1) rfl) rfl rfl ?_
    refine owp_yes rfl rfl (o_neS rfl rfl rfl (fun c102 => ?_) fun c102 => ?_)
    ·
     replace hy98 := ip hy98 c102
     refine o_pt rfl rfl rfl (o_z ?_)
     obtain rfl := sm hy98
     replace hx0 := ((hx0.st S85).st S88).st S93
     replace hB := ((hB.st S85).st S88).st S93
     replace h72 := h72.st S93
     exact ⟨(), _, ⟨rfl, rfl, rfl, rfl, rfl, rfl, rfl, trivial⟩, hB, h72, h86, hx0⟩
    ·
     replace hy98 := im hy98 c102
     refine o_pt rfl rfl rfl (o_z ?_)
     obtain rfl := sm hy98
     replace hx0 := ((hx0.st S85).st S88).st S93
     replace hB := ((hB.st S85).st S88).st S93
     replace h72 := h72.st S93
     exact ⟨(), _, ⟨rfl, rfl, rfl, rfl, rfl, rfl, rfl, trivial⟩, hB, h72, h86, hx0⟩
   ·
    replace hy98 := im hy98 c101
    refine o_mv rfl rfl (owp_no rfl rfl rfl rfl (owp_no rfl rfl rfl rfl (owp_no rfl rfl rfl rfl (owp_no rfl rfl rfl rfl (o_pf rfl rfl rfl (o_z ?_))))))
    obtain rfl := sm hy98
    replace hx0 := ((hx0.st S85).st S88).st S93
    replace hB := ((hB.st S85).st S88).st S93
    replace h72 := h72.st S93
    replace h86 := h86.st S93
    exact ⟨(), _, ⟨rfl, rfl, rfl, rfl, rfl, rfl, rfl, trivial⟩, hB, h72, h86, hx0⟩
  replace hx0 := ((hx0.st S85).st S88).st S93
  replace hB := ((hB.st S85).st S88).st S93
  replace h72 := h72.st S93
  replace h86 := h86.st S93
  rintro l103 w104 ⟨x100, O105, hs106, hB, h72, h86, hx0⟩
  refine ewp_sub _ hs106 ?_
  refine ewp_cond rfl (fun c107 => ?_) (fun c107 => ?_)
  ·
   replace hf66 := ip hf66 c107
   refine ewp_seq (ewp_region (o_as rfl rfl (o_as rfl rfl (o_z ?_))))
   refine ewp_ret ?_
   obtain rfl := sm hf66
   obtain rfl := hret67 _ rfl
   obtain rfl := sm (fin_ret hm)
   exact ret2 rfl (res_tmp rfl) (res_tmp rfl) ⟨hB.ext, _, _, rfl, (Vb.mono (F := Fr 0 w104 O105) (Vb.nil _ _) hB.out), (vInt (show inI64 (2) from by decide))⟩
  ·
   replace hf66 := im' hf66 c107
   refine ewp_skip (ewp_seq (ewp_region (o_mv rfl rfl (o_ltS rfl rfl rfl (fun c108 => ?_) fun c108 => ?_))))
   ·
    replace hf66 := ip hf66 c108
    refine o_z ?_
    refine ewp_true rfl (ewp_region (o_mv rfl rfl (o_la (hl := rfl) (hc := (h86.1).cellsAt) rfl rfl ?_)))
    obtain ⟨q109, e110, hf66⟩ := bs hf66
    refine l_call (O := O105) (R := fun w' F v => Vb w' F v q109) (c_ref06_With Fr.lt h72 (Vb.ofAgg (cs := [(.int .i64 a61.var), (.int .i64 a61.val)]) (x := a61) rfl ⟨rfl, r80, r81⟩) e110) rfl rfl fun v115 w111 O112 S113 h114 => ?_
    obtain ⟨A116, c117, rfl⟩ := h114.form
    refine o_as rfl rfl (o_z ?_)
    obtain rfl := sm hf66
    refine (?_ : Exists _)
    replace hx0 := hx0.st S113
    replace hB := hB.st S113
    exact ⟨_, (A116, c117), rfl, ⟨rfl, rfl, rfl, rfl, trivial⟩, _, hB, h114, hx0⟩
   ·
    replace hf66 := im hf66 c108
    refine o_z ?_
    refine ewp_false rfl (ewp_skip ?_)
    obtain rfl := sm hf66
    refine (?_ : Exists _)
    exact ⟨_, (x59.1, x59.2), rfl, ⟨rfl, rfl, rfl, rfl, trivial⟩, _, hB, h72, hx0⟩
 rintro l118 w119 ⟨s122, x123, rfl, hs121, O120, hB, h72⟩
 replace hm := fin_done hm
 refine ewp_sub _ hs121 ?_
 refine ewp_seq (ewp_region (o_mv rfl rfl (o_as rfl rfl (o_as rfl rfl (o_z ?_)))))
 refine ewp_ret ?_
 obtain rfl := sm hm
 exact ret2 rfl (res_tmp rfl) (res_tmp rfl) ⟨hB.ext, _, _, rfl, (Vb.mono (F := Fr 0 w119 O120) h72 hB.out), (vInt (show inI64 (0) from by decide))⟩
noncomputable def m_ref51_permutation (x0 : List Int) (x1 : Int) : Option Bool :=
  if (x0.length : Int) ≠ x1 then (some false) else (bnd (natI x1) fun N21 => bnd (rngN (ρ := Bool) (fun (k12 : Nat) (s10 : Unit) => bnd (rng (ρ := Ctl Unit Bool) (fun (k29 : Nat) (a30 : Int) (s27 : Int) => if a30 = (k12 : Int) then (bnd (chkI (s27 + 1)) fun n51 => some (.next n51)) else (some (.next s27))) x0 0 0) fun res25 => fin res25 fun (s58 : Int) => if s58 ≠ 1 then (some (.ret false)) else (some (.next ()))) N21 ()) fun res8 => fin res8 fun (s65 : Unit) => some true)
theorem c_ref51_permutation {w : World} {A : Nat → Prop} (hA : ∀ k, A k → k < w.heap.size) {vx0 : Value} {x0 : List Int} (hx0 : Vb w A vx0 x0) {x1 : Int} (rx1 : inI64 x1) {r : Bool} (hm : m_ref51_permutation x0 x1 = some r) :
    Fn Try.prog 77 [vx0, (.int .i64 x1)] w fun v w' => Ext w w' ∧ Vb w' (upA A w w') v r := by
 obtain ⟨O, hB, hA0⟩ := enter hA
 replace hx0 := hx0.mono hA0
 obtain ⟨A3, c4, rfl⟩ := hx0.form
 refine fn_enter Try.func77 rfl Try.ntmps77 rfl ?_
 unfold m_ref51_permutation at hm
 refine ewp_seq (ewp_region (o_as rfl rfl (o_z ?_)))
 refine ewp_seq (ewp_seq (ewp_region (o_mv rfl rfl (o_ln rfl rfl ?_))))
 have l6 : x0.length ≤ 9223372036854775807 := Nat.le_trans hx0.len.2.1 hx0.len.2.2
 have r5 : inI64 (x0.length : Int) := rngNat l6
 refine o_mv rfl rfl (o_neS rfl rfl rfl (fun c7 => ?_) fun c7 => ?_)
 ·
  replace hm := ip hm c7
  refine o_z ?_
  refine ewp_true rfl (ewp_seq (ewp_region (o_as rfl rfl (o_z ?_))))
  refine ewp_ret ?_
  obtain rfl := sm hm
  exact ret1v rfl (res_tmp rfl) ⟨hB.ext, vBool⟩
 ·
  replace hm := im hm c7
  refine o_z ?_
  refine ewp_false rfl (ewp_skip (ewp_seq (ewp_seq (ewp_region (o_mv rfl rfl (o_mv rfl rfl (o_z ?_)))))))
  obtain ⟨N21, hN22, hm⟩ := bs hm
  replace hN22 := natI_some hN22
  obtain ⟨res8, hL9, hm⟩ := bs hm
  refine ewp_join (aft res8 (fun (s10 : Unit) (x11 : Unit) => []) (fun s10 x11 w' => ∃ O' : Lab, Bs w A w' O')) ?_ ?_
  ·
   refine ewp_block (ewp_rngN (σ := Unit) (X := Unit) N21 hL9 (natI_le hN22 rx1) (fun (s10 : Unit) (x11 : Unit) => [(0, (.slice A3 x0.length c4))]) _ (fun s10 x11 w' => ∃ O' : Lab, Bs w A w' O' ∧ Vb w' (Fr 0 w' O') (.slice A3 x0.length c4) x0) _ () ⟨O, hB, hx0⟩ ⟨rfl, (congrArg (fun z => some (Value.int .i64 z)) hN22), rfl, trivial⟩ (fun _ _ => ⟨rfl, rfl⟩) (fun _ _ => trivial) (fun _ _ _ ⟨O', hB, hx0⟩ => ⟨O', hB⟩) ⟨rfl, rfl, rfl⟩ ⟨rfl, rfl⟩ ?_)
   rintro k12 s10 x11 w14 cc16 hx17 ⟨O15, hB, hx0⟩ hf18 hret19 hbrk20
   have rk12 : inI64 (k12 : Int) := rngKN hx17 (natI_le hN22 rx1)
   refine ewp_seq (ewp_region (o_mv rfl rfl (o_as rfl rfl (o_z ?_))))
   refine ewp_seq (ewp_region (o_as rfl rfl (o_z ?_)))
   refine ewp_seq (ewp_seq (ewp_region (o_mv rfl rfl (o_ln rfl rfl ?_))))
   have l24 : x0.length ≤ 9223372036854775807 := Nat.le_trans hx0.len.2.1 hx0.len.2.2
   have r23 : inI64 (x0.length : Int) := rngNat l24
   refine o_mv rfl rfl (o_z ?_)
   obtain ⟨res25, hL26, hf18⟩ := bs hf18
   refine ewp_join (aft res25 (fun (s27 : Int) (x28 : Unit) => [(0, (.slice A3 x0.length c4)), (6, (.int .i64 s27)), (13, (.int .i64 (N21 : Int))), (14, (.int .i64 (k12 : Int)))]) (fun s27 x28 w' => ∃ O' : Lab, Bs w A w' O' ∧ Vb w' (Fr 0 w' O') (.slice A3 x0.length c4) x0 ∧ inI64 s27)) ?_ ?_
   ·
    refine ewp_block (ewp_rng (σ := Int) (X := Unit) (x0.length) hL26 rfl l24 (fun (s27 : Int) (x28 : Unit) => [(0, (.slice A3 x0.length c4)), (5, (.int .i64 (k12 : Int))), (6, (.int .i64 s27)), (13, (.int .i64 (N21 : Int))), (14, (.int .i64 (k12 : Int))), (17, (.slice A3 x0.length c4))]) _ (fun s27 x28 w' => ∃ O' : Lab, Bs w A w' O' ∧ Vb w' (Fr 0 w' O') (.slice A3 x0.length c4) x0 ∧ inI64 s27) _ () ⟨O15, hB, hx0, (show inI64 (0) from by decide)⟩ ⟨rfl, rfl, rfl, rfl, rfl, rfl, rfl, rfl, trivial⟩ (fun _ _ => ⟨rfl, rfl⟩) (fun _ _ => ⟨rfl, rfl, rfl, rfl, trivial⟩) (fun _ _ _ ⟨O', hB, hx0, r41⟩ => ⟨O', hB, hx0, r41⟩) ⟨rfl, rfl, rfl⟩ ⟨rfl, rfl⟩ ?_)
    rintro k29 a30 s27 x28 w31 cc33 hx34 ⟨O32, hB, hx0, r41⟩ hf35 hret36 hbrk37
    have rk29 : inI64 (k29 : Int) := rngK hx34 l24
    refine ewp_seq (ewp_region ?_)
    obtain ⟨b42, o43, ce44, hA45, hl46, hd47, rfl, r49⟩ := hx0.elem' hx34
    refine o_iaE (hA := hA45) (hj := rfl) (hlt := hl46) rfl rfl rfl ?_
    refine o_ld (hc := cat0 hd47) rfl rfl ?_
    refine o_as rfl rfl (o_z ?_)
    refine ewp_seq (ewp_region (o_mv rfl rfl (o_mv rfl rfl (o_eeS rfl rfl rfl (fun c50 => ?_) fun c50 => ?_))))
    ·
     replace hf35 := ip hf35 c50
     refine o_z ?_
     refine ewp_true rfl (ewp_region (o_mv rfl rfl ?_))
     obtain ⟨n51, e52, hf35⟩ := bs hf35
     have r53 := (chkI_rng e52)
     refine o_adE (he := e52) rfl rfl rfl ?_
     refine o_as rfl rfl (o_z ?_)
     obtain rfl := sm hf35
     refine (?_ : Exists _)
     exact ⟨_, (), rfl, ⟨rfl, rfl, rfl, rfl, rfl, rfl, rfl, rfl, trivial⟩, _, hB, hx0, r53⟩
    ·
     replace hf35 := im hf35 c50
     refine o_z ?_
     refine ewp_false rfl (ewp_skip ?_)
     obtain rfl := sm hf35
     refine (?_ : Exists _)
     exact ⟨_, (), rfl, ⟨rfl, rfl, rfl, rfl, rfl, rfl, rfl, rfl, trivial⟩, _, hB, hx0, r41⟩
   rintro l54 w55 ⟨s58, x59, rfl, hs57, O56, hB, hx0, r41⟩
   replace hf18 := fin_done hf18
   refine ewp_sub _ hs57 ?_
   refine ewp_seq (ewp_region (o_mv rfl rfl (o_neS rfl rfl rfl (fun c60 => ?_) fun c60 => ?_)))
   ·
    replace hf18 := ip hf18 c60
    refine o_z ?_
    refine ewp_true rfl (ewp_seq (ewp_region (o_as rfl rfl (o_z ?_))))
    refine ewp_ret ?_
    obtain rfl := sm hf18
    obtain rfl := hret19 _ rfl
    obtain rfl := sm (fin_ret hm)
    exact ret1v rfl (res_tmp rfl) ⟨hB.ext, vBool⟩
   ·
    replace hf18 := im hf18 c60
    refine o_z ?_
    refine ewp_false rfl (ewp_skip ?_)
    obtain rfl := sm hf18
    refine (?_ : Exists _)
    exact ⟨_, (), rfl, ⟨rfl, rfl, rfl, trivial⟩, _, hB, hx0⟩
  rintro l61 w62 ⟨s65, x66, rfl, hs64, O63, hB⟩
  replace hm := fin_done hm
  refine ewp_sub _ hs64 ?_
  refine ewp_seq (ewp_region (o_as rfl rfl (o_z ?_)))
  refine ewp_ret ?_
  obtain rfl := sm hm
  exact ret1v rfl (res_tmp rfl) ⟨hB.ext, vBool⟩
noncomputable def m_ref51_shape (x0 : Tsk) (x1 : Swp) : Option Bool :=
  bnd (bnd (m_ref51_permutation x1.vars (x0.vars.length : Int)) fun q49 => if q49 = true then if (x1.vals.length : Int) ≠ (x0.vars.length : Int) then (some true) else (bnd (m_ref51_permutation x1.ops (x0.ops.length : Int)) fun q63 => if q63 = true then some false else some true) else some true : Option Bool) fun y43 => if y43 = true then (some false) else (bnd (rng (ρ := Bool) (fun (k81 : Nat) (a82 : Int) (s79 : Unit) => bnd (bnd (x1.vars[k81]?) fun a104 => bnd (atI x0.vars a104) fun a114 => if a114 ≠ a82 then (some true) else (bnd (x1.vals[k81]?) fun a127 => bnd (m_ref51_permutation a127 a82) fun q140 => if q140 = true then some false else some true) : Option Bool) fun y100 => if y100 = true then (some (.ret false)) else (some (.next ()))) x0.vars 0 ()) fun res77 => fin res77 fun (s156 : Unit) => some true)
theorem c_ref51_shape {w : World} {A : Nat → Prop} (hA : ∀ k, A k → k < w.heap.size) {vx0 : Value} {x0 : Tsk} (hx0 : Vb w A vx0 x0) {vx1 : Value} {x1 : Swp} (hx1 : Vb w A vx1 x1) {r : Bool} (hm : m_ref51_shape x0 x1 = some r) :
    Fn Try.prog 41 [vx0, vx1] w fun v w' => Ext w w' ∧ Vb w' (upA A w w') v r := by
 obtain ⟨O, hB, hA0⟩ := enter hA
 replace hx0 := hx0.mono hA0
 obtain ⟨cs3, rfl, v4, v5, v6, v7, rfl, h8, h11, h14, h17⟩ := hx0
 obtain ⟨A9, c10, rfl⟩ := h8.form
 obtain ⟨A12, c13, rfl⟩ := h11.form
 obtain ⟨A15, c16, rfl⟩ := h14.form
 obtain ⟨A18, c19, rfl⟩ := h17.form
 replace hx1 := hx1.mono hA0
 obtain ⟨cs20, rfl, v21, v22, v23, rfl, h24, h27, h30⟩ := hx1
 obtain ⟨A25, c26, rfl⟩ := h24.form
 obtain ⟨A28, c29, rfl⟩ := h27.form
 obtain ⟨A31, c32, rfl⟩ := h30.form
 refine fn_enter Try.func41 rfl Try.ntmps41 rfl ?_
 unfold m_ref51_shape at hm
 refine ewp_seq (ewp_region (l_box 2 O rfl rfl fun g33 w34 O35 S36 h37 => ?_))
 replace h37 : Lc 2 w34 O35 g33 26 [(.slice A9 x0.vars.length c10), (.slice A12 x0.init.length c13), (.slice A15 x0.goal.length c16), (.slice A18 x0.ops.length c19)] := h37
 refine l_box 3 O35 rfl rfl fun g38 w39 O40 S41 h42 => ?_
 replace h42 : Lc 3 w39 O40 g38 29 [(.slice A25 x1.vars.length c26), (.slice A28 x1.vals.length c29), (.slice A31 x1.ops.length c32)] := h42
 refine o_as rfl rfl (o_z ?_)
 refine ewp_seq (ewp_seq ?_)
 obtain ⟨y43, hy44, hm⟩ := bs hm
 refine ewp_join (fun l' w' => ∃ (x46 : Unit) (O' : Lab), subs l' [(2, (.pointer (some ⟨g33, 0, none⟩))), (3, (.pointer (some ⟨g38, 0, none⟩))), (31, (.bool y43))] ∧ Bs w A w' O' ∧ Lc 2 w' O' g33 26 [(.slice A9 x0.vars.length c10), (.slice A12 x0.init.length c13), (.slice A15 x0.goal.length c16), (.slice A18 x0.ops.length c19)] ∧ Vb w' (Fr 0 w' O') (.slice A9 x0.vars.length c10) x0.vars ∧ Vb w' (Fr 0 w' O') (.slice A12 x0.init.length c13) x0.init ∧ Vb w' (Fr 0 w' O') (.slice A15 x0.goal.length c16) x0.goal ∧ Vb w' (Fr 0 w' O') (.slice A18 x0.ops.length c19) x0.ops ∧ Lc 3 w' O' g38 29 [(.slice A25 x1.vars.length c26), (.slice A28 x1.vals.length c29), (.slice A31 x1.ops.length c32)] ∧ Vb w' (Fr 0 w' O') (.slice A25 x1.vars.length c26) x1.vars ∧ Vb w' (Fr 0 w' O') (.slice A28 x1.vals.length c29) x1.vals ∧ Vb w' (Fr 0 w' O') (.slice A31 x1.ops.length c32) x1.ops) ?_ ?_
 ·
  refine ewp_region (o_fa rfl rfl (o_ld (hc := Blk.cell (i := 0) (h42.1) rfl) rfl rfl ?_))
  refine o_fa rfl rfl ?_
  replace h37 := h37.st S41
  refine o_ld (hc := Blk.cell (i := 0) (h37.1) rfl) rfl rfl ?_
  refine o_ln rfl rfl ?_
  replace h8 := (h8.st S36).st S41
  have l48 : x0.vars.length ≤ 9223372036854775807 := Nat.le_trans h8.len.2.1 h8.len.2.2
  have r47 : inI64 (x0.vars.length : Int) := rngNat l48
  obtain ⟨q49, e50, hy44⟩ := bs hy44
  replace h24 := (h24.st S36).st S41
  refine l_callA (O := O40) (A := All w39) (R := fun w' F v => Vb w' F v q49) (c_ref51_permutation (fun _ h => h) (Vb.mono (F := Fr 0 w39 O40) h24 Fr.lt) r47 e50) rfl rfl fun v55 w51 O52 S53 h54 => ?_
  obtain rfl := h54.bool
  cases q49
  case false =>
   replace hy44 := iF hy44
   refine o_nf rfl rfl (o_mv rfl rfl (owp_no rfl rfl rfl rfl (owp_no rfl rfl rfl rfl (owp_no rfl rfl rfl rfl (owp_no rfl rfl rfl rfl (owp_no rfl rfl rfl rfl (owp_no rfl rfl rfl rfl (owp_no rfl rfl rfl rfl (o_pt rfl rfl rfl (o_mv rfl rfl (owp_no rfl rfl rfl rfl (owp_no rfl rfl rfl rfl (owp_no rfl rfl rfl rfl (owp_no rfl rfl rfl rfl ?_))))))))))))))
   refine owp_no rfl rfl rfl rfl (owp_no rfl rfl rfl rfl (owp_no rfl rfl rfl rfl (o_pt rfl rfl rfl (o_z ?_))))
   obtain rfl := sm hy44
   replace hB := ((hB.st S36).st S41).st S53
   replace h8 := h8.st S53
   replace h11 := ((h11.st S36).st S41).st S53
   replace h14 := ((h14.st S36).st S41).st S53
   replace h17 := ((h17.st S36).st S41).st S53
   replace h24 := h24.st S53
   replace h27 := ((h27.st S36).st S41).st S53
   replace h30 := ((h30.st S36).st S41).st S53
   replace h37 := h37.st S53
   replace h42 := h42.st S53
   exact ⟨(), _, ⟨rfl, rfl, rfl, trivial⟩, hB, h37, h8, h11, h14, h17, h42, h24, h27, h30⟩
  replace hy44 := iT hy44
  refine o_nt rfl rfl (o_mv rfl rfl (owp_yes rfl rfl (o_fa rfl rfl (owp_yes rfl rfl ?_))))
  replace h42 := h42.st S53
  refine o_ld (hc := Blk.cell (i := 1) (h42.1) rfl) rfl rfl ?_
  refine owp_yes rfl rfl (o_ln rfl rfl ?_)
  replace h27 := ((h27.st S36).st S41).st S53
  have l57 : x1.vals.length ≤ 9223372036854775807 := Nat.le_trans h27.len.2.1 h27.len.2.2
  have r56 : inI64 (x1.vals.length : Int) := rngNat l57
  refine owp_yes rfl rfl (o_fa rfl rfl (owp_yes rfl rfl ?_))
  replace h37 := h37.st S53
  refine o_ld (hc := Blk.cell (i := 0) (h37.1) rfl) rfl rfl ?_
  refine owp_yes rfl rfl (o_ln rfl rfl ?_)
  replace h8 := h8.st S53
  have l59 : x0.vars.length ≤ 9223372036854775807 := Nat.le_trans h8.len.2.1 h8.len.2.2
  have r58 : inI64 (x0.vars.length : Int) := rngNat l59
  refine owp_yes rfl rfl (o_neS rfl rfl rfl (fun c60 => ?_) fun c60 => ?_)
  ·
   replace hy44 := ip hy44 c60
   refine o_pf rfl rfl rfl (o_mv rfl rfl (owp_no rfl rfl rfl rfl (owp_no rfl rfl rfl rfl (owp_no rfl rfl rfl rfl (owp_no rfl rfl rfl rfl (owp_no rfl rfl rfl rfl (owp_no rfl rfl rfl rfl (owp_no rfl rfl rfl rfl (o_pt rfl rfl rfl (o_z ?_))))))))))
   obtain rfl := sm hy44
   replace hB := ((hB.st S36).st S41).st S53
   replace h11 := ((h11.st S36).st S41).st S53
   replace h14 := ((h14.st S36).st S41).st S53
   replace h17 := ((h17.st S36).st S41).st S53
   replace h24 := h24.st S53
   replace h30 := ((h30.st S36).st S41).st S53
   exact ⟨(), _, ⟨rfl, rfl, rfl, trivial⟩, hB, h37, h8, h11, h14, h17, h42, h24, h27, h30⟩
  ·
   replace hy44 := im hy44 c60
   refine o_pf rfl rfl rfl (o_mv rfl rfl (owp_yes rfl rfl (o_fa rfl rfl (owp_yes rfl rfl (o_ld (hc := Blk.cell (i := 2) (h42.1) rfl) rfl rfl ?_)))))
   refine owp_yes rfl rfl (o_fa rfl rfl (owp_yes rfl rfl (o_ld (hc := Blk.cell (i := 3) (h37.1) rfl) rfl rfl ?_)))
   refine owp_yes rfl rfl (o_ln rfl rfl ?_)
   replace h17 := ((h17.st S36).st S41).st S53
   have l62 : x0.ops.length ≤ 9223372036854775807 := Nat.le_trans h17.len.2.1 h17.len.2.2
   have r61 : inI64 (x0.ops.length : Int) := rngNat l62
   refine owp_yes rfl rfl ?_
   obtain ⟨q63, e64, hy44⟩ := bs hy44
   replace h30 := ((h30.st S36).st S41).st S53
   refine l_callA (O := O52) (A := All w51) (R := fun w' F v => Vb w' F v q63) (c_ref51_permutation (fun _ h => h) (Vb.mono (F := Fr 0 w51 O52) h30 Fr.lt) r61 e64) rfl rfl fun v69 w65 O66 S67 h68 => ?_
   obtain rfl := h68.bool
   cases q63
   case false =>
    replace hy44 := iF hy44
    refine owp_yes rfl rfl (o_nf rfl rfl (o_pf rfl rfl rfl (o_z ?_)))
    obtain rfl := sm hy44
    replace hB := (((hB.st S36).st S41).st S53).st S67
    replace h8 := h8.st S67
    replace h11 := (((h11.st S36).st S41).st S53).st S67
    replace h14 := (((h14.st S36).st S41).st S53).st S67
    replace h17 := h17.st S67
    replace h24 := (h24.st S53).st S67
    replace h27 := h27.st S67
    replace h30 := h30.st S67
    replace h37 := h37.st S67
    replace h42 := h42.st S67
    exact ⟨(), _, ⟨rfl, rfl, rfl, trivial⟩, hB, h37, h8, h11, h14, h17, h42, h24, h27, h30⟩
   replace hy44 := iT hy44
   refine owp_yes rfl rfl (o_nt rfl rfl (o_pf rfl rfl rfl (o_z ?_)))
   obtain rfl := sm hy44
   replace hB := (((hB.st S36).st S41).st S53).st S67
   replace h8 := h8.st S67
   replace h11 := (((h11.st S36).st S41).st S53).st S67
   replace h14 := (((h14.st S36).st S41).st S53).st S67
   replace h17 := h17.st S67
   replace h24 := (h24.st S53).st S67
   replace h27 := h27.st S67
   replace h30 := h30.st S67
   replace h37 := h37.st S67
   replace h42 := h42.st S67
   exact ⟨(), _, ⟨rfl, rfl, rfl, trivial⟩, hB, h37, h8, h11, h14, h17, h42, h24, h27, h30⟩
 replace hB := (hB.st S36).st S41
 replace h8 := (h8.st S36).st S41
 replace h11 := (h11.st S36).st S41
 replace h14 := (h14.st S36).st S41
 replace h17 := (h17.st S36).st S41
 replace h24 := (h24.st S36).st S41
 replace h27 := (h27.st S36).st S41
 replace h30 := (h30.st S36).st S41
 replace h37 := h37.st S41
 rintro l70 w71 ⟨x46, O72, hs73, hB, h37, h8, h11, h14, h17, h42, h24, h27, h30⟩
 refine ewp_sub _ hs73 ?_
 refine ewp_cond rfl (fun c74 => ?_) (fun c74 => ?_)
 ·
  replace hm := ip hm c74
  refine ewp_seq (ewp_region (o_as rfl rfl (o_z ?_)))
  refine ewp_ret ?_
  obtain rfl := sm hm
  exact ret1v rfl (res_tmp rfl) ⟨hB.ext, vBool⟩
 ·
  replace hm := im' hm c74
  refine ewp_skip (ewp_seq (ewp_seq (ewp_region (o_fa rfl rfl (o_ld (hc := Blk.cell (i := 0) (h37.1) rfl) rfl rfl ?_)))))
  refine o_ln rfl rfl ?_
  have l76 : x0.vars.length ≤ 9223372036854775807 := Nat.le_trans h8.len.2.1 h8.len.2.2
  have r75 : inI64 (x0.vars.length : Int) := rngNat l76
  refine o_mv rfl rfl (o_z ?_)
  obtain ⟨res77, hL78, hm⟩ := bs hm
  refine ewp_join (aft res77 (fun (s79 : Unit) (x80 : Unit) => []) (fun s79 x80 w' => ∃ O' : Lab, Bs w A w' O')) ?_ ?_
  ·
   refine ewp_block (ewp_rng (σ := Unit) (X := Unit) (x0.vars.length) hL78 rfl l76 (fun (s79 : Unit) (x80 : Unit) => [(2, (.pointer (some ⟨g33, 0, none⟩))), (3, (.pointer (some ⟨g38, 0, none⟩))), (33, (.slice A9 x0.vars.length c10))]) _ (fun s79 x80 w' => ∃ O' : Lab, Bs w A w' O' ∧ Lc 2 w' O' g33 26 [(.slice A9 x0.vars.length c10), (.slice A12 x0.init.length c13), (.slice A15 x0.goal.length c16), (.slice A18 x0.ops.length c19)] ∧ Vb w' (Fr 0 w' O') (.slice A9 x0.vars.length c10) x0.vars ∧ Vb w' (Fr 0 w' O') (.slice A12 x0.init.length c13) x0.init ∧ Vb w' (Fr 0 w' O') (.slice A15 x0.goal.length c16) x0.goal ∧ Vb w' (Fr 0 w' O') (.slice A18 x0.ops.length c19) x0.ops ∧ Lc 3 w' O' g38 29 [(.slice A25 x1.vars.length c26), (.slice A28 x1.vals.length c29), (.slice A31 x1.ops.length c32)] ∧ Vb w' (Fr 0 w' O') (.slice A25 x1.vars.length c26) x1.vars ∧ Vb w' (Fr 0 w' O') (.slice A28 x1.vals.length c29) x1.vals ∧ Vb w' (Fr 0 w' O') (.slice A31 x1.ops.length c32) x1.ops) _ () ⟨O72, hB, h37, h8, h11, h14, h17, h42, h24, h27, h30⟩ ⟨rfl, rfl, rfl, rfl, rfl, trivial⟩ (fun _ _ => ⟨rfl, rfl⟩) (fun _ _ => trivial) (fun _ _ _ ⟨O', hB, h37, h8, h11, h14, h17, h42, h24, h27, h30⟩ => ⟨O', hB⟩) ⟨rfl, rfl, rfl⟩ ⟨rfl, rfl⟩ ?_)
   rintro k81 a82 s79 x80 w83 cc85 hx86 ⟨O84, hB, h37, h8, h11, h14, h17, h42, h24, h27, h30⟩ hf87 hret88 hbrk89
   have rk81 : inI64 (k81 : Int) := rngK hx86 l76
   refine ewp_seq (ewp_region (o_mv rfl rfl ?_))
   obtain ⟨b92, o93, ce94, hA95, hl96, hd97, rfl, r99⟩ := h8.elem' hx86
   refine o_iaE (hA := hA95) (hj := rfl) (hlt := hl96) rfl rfl rfl ?_
   refine o_ld (hc := cat0 hd97) rfl rfl ?_
   refine o_as rfl rfl (o_as rfl rfl (o_z ?_))
   refine ewp_seq ?_
   obtain ⟨y100, hy101, hf87⟩ := bs hf87
   refine ewp_join (fun l' w' => ∃ (x103 : Unit) (O' : Lab), subs l' [(2, (.pointer (some ⟨g33, 0, none⟩))), (3, (.pointer (some ⟨g38, 0, none⟩))), (33, (.slice A9 x0.vars.length c10)), (34, (.int .i64 (x0.vars.length : Int))), (35, (.int .i64 (k81 : Int))), (60, (.bool y100))] ∧ Bs w A w' O' ∧ Lc 2 w' O' g33 26 [(.slice A9 x0.vars.length c10), (.slice A12 x0.init.length c13), (.slice A15 x0.goal.length c16), (.slice A18 x0.ops.length c19)] ∧ Vb w' (Fr 0 w' O') (.slice A9 x0.vars.length c10) x0.vars ∧ Vb w' (Fr 0 w' O') (.slice A12 x0.init.length c13) x0.init ∧ Vb w' (Fr 0 w' O') (.slice A15 x0.goal.length c16) x0.goal ∧ Vb w' (Fr 0 w' O') (.slice A18 x0.ops.length c19) x0.ops ∧ Lc 3 w' O' g38 29 [(.slice A25 x1.vars.length c26), (.slice A28 x1.vals.length c29), (.slice A31 x1.ops.length c32)] ∧ Vb w' (Fr 0 w' O') (.slice A25 x1.vars.length c26) x1.vars ∧ Vb w' (Fr 0 w' O') (.slice A28 x1.vals.length c29) x1.vals ∧ Vb w' (Fr 0 w' O') (.slice A31 x1.ops.length c32) x1.ops) ?_ ?_
   ·
    refine ewp_drawX [(18, [])] O84 ?_
    refine x_pre (fuel := 3) [] [(0, true), (1, true), (2, true), (3, true), (4, true), (5, true), (6, true), (7, true), (8, true), (9, true), (10, true), (11, true), (12, true), (13, true), (14, true), (15, true), (16, true), (17, true)] (by kernel_rfl) rfl ?_
    refine h_fa rfl rfl rfl (h_ldC (hc := fun w' ⟨O', hq⟩ => Blk.cell (i := 0) ((h37.st hq (by decide)).1) rfl) rfl rfl rfl ?_)
    refine h_fa rfl rfl rfl (h_ldC (hc := fun w' ⟨O', hq⟩ => Blk.cell (i := 0) ((h42.st hq (by decide)).1) rfl) rfl rfl rfl ?_)
    refine h_mv rfl rfl rfl ?_
    obtain ⟨a104, e105, hy101⟩ := bs hy101
    obtain ⟨b106, o107, ce108, hA109, hF112, hl110, hd111, rfl, r113⟩ := h24.elem e105
    refine h_iaE (hA := hA109) (hj := rfl) (hlt := hl110) rfl rfl rfl rfl ?_
    refine h_ldC (hc := fun w' ⟨O', hq⟩ => cat0 (cellsAt_agree (hq.agree (i := 0) (by decide)) hF112 hd111)) rfl rfl rfl ?_
    obtain ⟨a114, e115, hy101⟩ := bs hy101
    obtain ⟨p117, x116⟩ := atI_some' e115
    obtain ⟨b118, o119, ce120, hA121, hF124, hl122, hd123, rfl, r125⟩ := h8.elem x116
    refine h_iaE (hA := hA121) (hj := (Int.toNat_of_nonneg p117).symm) (hlt := hl122) rfl rfl rfl rfl ?_
    refine h_ldC (hc := fun w' ⟨O', hq⟩ => cat0 (cellsAt_agree (hq.agree (i := 0) (by decide)) hF124 hd123)) rfl rfl rfl ?_
    refine h_mv rfl rfl rfl (h_neS rfl rfl rfl rfl (fun c126 => ?_) fun c126 => ?_)
    ·
     replace hy101 := ip hy101 c126
     refine h_mv rfl rfl rfl (h_no rfl rfl rfl rfl rfl (h_no rfl rfl rfl rfl rfl (h_no rfl rfl rfl rfl rfl (h_no rfl rfl rfl rfl rfl (h_no rfl rfl rfl rfl rfl (h_no rfl rfl rfl rfl rfl (hwp_nilT ?_)))))))
     refine x_one (i := 18) (by kernel_rfl) rfl ?_
     refine owp_no rfl rfl rfl rfl (x_go [] ((St.refl nT _ _).lst [] (fun _ h => h.elim)) (by kernel_rfl) ?_)
     refine x_pre (fuel := 0) [] [(19, true), (20, true)] (by kernel_rfl) rfl ?_
     refine h_no rfl rfl rfl rfl rfl (h_pt rfl rfl rfl rfl (hwp_nilT ?_))
     refine x_nil (by kernel_rfl) ?_
     obtain rfl := sm hy101
     exact ⟨(), _, ⟨rfl, rfl, rfl, rfl, rfl, rfl, trivial⟩, hB, h37, h8, h11, h14, h17, h42, h24, h27, h30⟩
    ·
     replace hy101 := im hy101 c126
     refine h_mv rfl rfl rfl (hwp_o rfl (hwq_yes rfl rfl (g_fa rfl rfl (hwp_o rfl (hwq_yes rfl rfl (g_ldC (hc := fun w' ⟨O', hq⟩ => Blk.cell (i := 1) ((h42.st hq (by decide)).1) rfl) rfl rfl ?_))))))
     refine hwp_o rfl (hwq_yes rfl rfl (g_mv rfl rfl (hwp_o rfl (hwq_yes rfl rfl ?_))))
     obtain ⟨a127, e128, hy101⟩ := bs hy101
     obtain ⟨b129, o130, ce131, hA132, hF135, hl133, hd134, v136, rfl, h137⟩ := h27.elem e128
     replace h137 := Vb.of_slice h137
     obtain ⟨A138, c139, rfl⟩ := h137.form
     refine g_iaE (hA := hA132) (hj := rfl) (hlt := hl133) rfl rfl rfl ?_
     refine hwp_o rfl (hwq_yes rfl rfl (g_ldC (hc := fun w' ⟨O', hq⟩ => cat0 (cellsAt_agree (hq.agree (i := 0) (by decide)) hF135 hd134)) rfl rfl ?_))
     refine hwp_o rfl (hwq_yes rfl rfl (g_mv rfl rfl (hwp_nilT ?_)))
     refine x_one (i := 18) (by kernel_rfl) rfl ?_
     refine owp_yes rfl rfl ?_
     obtain ⟨q140, e141, hy101⟩ := bs hy101
     refine l_callA (O := O84) (A := All w83) (R := fun w' F v => Vb w' F v q140) (c_ref51_permutation (fun _ h => h) (Vb.mono (F := Fr 0 w83 O84) h137 Fr.lt) r99 e141) rfl rfl fun v146 w142 O143 S144 h145 => ?_
     obtain rfl := h145.bool
     have hZ := S144.lst [] (fun _ h => h.elim)
     cases q140
     case false =>
      replace hy101 := iF hy101
      refine x_go [] hZ (by kernel_rfl) ?_
      refine x_pre (fuel := 0) [] [(19, true), (20, true)] (by kernel_rfl) rfl ?_
      refine hwp_o rfl (hwq_yes rfl rfl (g_nf rfl rfl (h_pf rfl rfl rfl rfl (hwp_nilT ?_))))
      refine x_nil (by kernel_rfl) ?_
      obtain rfl := sm hy101
      replace hB := hB.st S144
      replace h8 := h8.st S144
      replace h11 := h11.st S144
      replace h14 := h14.st S144
      replace h17 := h17.st S144
      replace h24 := h24.st S144
      replace h27 := h27.st S144
      replace h30 := h30.st S144
      replace h37 := h37.st S144
      replace h42 := h42.st S144
      exact ⟨(), _, ⟨rfl, rfl, rfl, rfl, rfl, rfl, trivial⟩, hB, h37, h8, h11, h14, h17, h42, h24, h27, h30⟩
     replace hy101 := iT hy101
     refine x_go [] hZ (by kernel_rfl) ?_
     refine x_pre (fuel := 0) [] [(19, true), (20, true)] (by kernel_rfl) rfl ?_
     refine hwp_o rfl (hwq_yes rfl rfl (g_nt rfl rfl (h_pf rfl rfl rfl rfl (hwp_nilT ?_))))
     refine x_nil (by kernel_rfl) ?_
     obtain rfl := sm hy101
     replace hB := hB.st S144
     replace h8 := h8.st S144
     replace h11 := h11.st S144
     replace h14 := h14.st S144
     replace h17 := h17.st S144
     replace h24 := h24.st S144
     replace h27 := h27.st S144
     replace h30 := h30.st S144
     replace h37 := h37.st S144
     replace h42 := h42.st S144
     exact ⟨(), _, ⟨rfl, rfl, rfl, rfl, rfl, rfl, trivial⟩, hB, h37, h8, h11, h14, h17, h42, h24, h27, h30⟩
   rintro l147 w148 ⟨x103, O149, hs150, hB, h37, h8, h11, h14, h17, h42, h24, h27, h30⟩
   refine ewp_sub _ hs150 ?_
   refine ewp_cond rfl (fun c151 => ?_) (fun c151 => ?_)
   ·
    replace hf87 := ip hf87 c151
    refine ewp_seq (ewp_region (o_as rfl rfl (o_z ?_)))
    refine ewp_ret ?_
    obtain rfl := sm hf87
    obtain rfl := hret88 _ rfl
    obtain rfl := sm (fin_ret hm)
    exact ret1v rfl (res_tmp rfl) ⟨hB.ext, vBool⟩
   ·
    replace hf87 := im' hf87 c151
    refine ewp_skip ?_
    obtain rfl := sm hf87
    refine (?_ : Exists _)
    exact ⟨_, (), rfl, ⟨rfl, rfl, rfl, rfl, rfl, trivial⟩, _, hB, h37, h8, h11, h14, h17, h42, h24, h27, h30⟩
  rintro l152 w153 ⟨s156, x157, rfl, hs155, O154, hB⟩
  replace hm := fin_done hm
  refine ewp_sub _ hs155 ?_
  refine ewp_seq (ewp_region (o_as rfl rfl (o_z ?_)))
  refine ewp_ret ?_
  obtain rfl := sm hm
  exact ret1v rfl (res_tmp rfl) ⟨hB.ext, vBool⟩
noncomputable def m_ref51_Fact (x0 : Swp) (x1 : Fct) : Option Fct :=
  bnd (atI x0.vars x1.var) fun a34 => bnd (atI x0.vals x1.var) fun a46 => bnd (atI a46 x1.val) fun a61 => some (⟨a34, a61⟩ : Fct)
theorem c_ref51_Fact {w : World} {A : Nat → Prop} (hA : ∀ k, A k → k < w.heap.size) {vx0 : Value} {x0 : Swp} (hx0 : Vb w A vx0 x0) {vx1 : Value} {x1 : Fct} (hx1 : Vb w A vx1 x1) {r : Fct} (hm : m_ref51_Fact x0 x1 = some r) :
    Fn Try.prog 78 [vx0, vx1] w fun v w' => Ext w w' ∧ Vb w' (upA A w w') v r := by
 obtain ⟨O, hB, hA0⟩ := enter hA
 replace hx0 := hx0.mono hA0
 obtain ⟨cs3, rfl, v4, v5, v6, rfl, h7, h10, h13⟩ := hx0
 obtain ⟨A8, c9, rfl⟩ := h7.form
 obtain ⟨A11, c12, rfl⟩ := h10.form
 obtain ⟨A14, c15, rfl⟩ := h13.form
 replace hx1 := hx1.mono hA0
 obtain ⟨cs16, rfl, rfl, r17, r18⟩ := hx1
 refine fn_enter Try.func78 rfl Try.ntmps78 rfl ?_
 unfold m_ref51_Fact at hm
 refine ewp_seq (ewp_region (l_box 2 O rfl rfl fun g19 w20 O21 S22 h23 => ?_))
 replace h23 : Lc 2 w20 O21 g19 29 [(.slice A8 x0.vars.length c9), (.slice A11 x0.vals.length c12), (.slice A14 x0.ops.length c15)] := h23
 refine l_box 3 O21 rfl rfl fun g24 w25 O26 S27 h28 => ?_
 replace h28 : Lc 3 w25 O26 g24 103 [(.int .i64 x1.var), (.int .i64 x1.val)] := h28
 refine l_alloc 4 O26 rfl fun g29 w30 O31 S32 h33 => ?_
 refine o_z ?_
 refine ewp_seq (ewp_drawX [] O31 ?_)
 refine x_pre (fuel := 1) [] [(0, true), (1, true), (2, true), (3, true), (4, true), (5, true), (6, true), (7, true), (8, true), (9, true), (10, true), (11, true), (12, true), (13, true), (14, true), (15, true), (16, true)] (by kernel_rfl) rfl ?_
 refine h_fa rfl rfl rfl ?_
 replace h23 := (h23.st S27).st S32
 refine h_ldC (hc := fun w' ⟨O', hq⟩ => Blk.cell (i := 0) ((h23.st hq (by decide)).1) rfl) rfl rfl rfl ?_
 refine h_fa rfl rfl rfl ?_
 replace h28 := h28.st S32
 refine h_ldC (hc := fun w' ⟨O', hq⟩ => Blk.cell (i := 0) ((h28.st hq (by decide)).1) rfl) rfl rfl rfl ?_
 obtain ⟨a34, e35, hm⟩ := bs hm
 obtain ⟨p37, x36⟩ := atI_some' e35
 replace h7 := ((h7.st S22).st S27).st S32
 obtain ⟨b38, o39, ce40, hA41, hF44, hl42, hd43, rfl, r45⟩ := h7.elem x36
 refine h_iaE (hA := hA41) (hj := (Int.toNat_of_nonneg p37).symm) (hlt := hl42) rfl rfl rfl rfl ?_
 refine h_ldC (hc := fun w' ⟨O', hq⟩ => cat0 (cellsAt_agree (hq.agree (i := 0) (by decide)) hF44 hd43)) rfl rfl rfl ?_
 refine h_fa rfl rfl rfl (h_ldC (hc := fun w' ⟨O', hq⟩ => Blk.cell (i := 1) ((h23.st hq (by decide)).1) rfl) rfl rfl rfl ?_)
 refine h_fa rfl rfl rfl (h_ldC (hc := fun w' ⟨O', hq⟩ => Blk.cell (i := 0) ((h28.st hq (by decide)).1) rfl) rfl rfl rfl ?_)
 obtain ⟨a46, e47, hm⟩ := bs hm
 obtain ⟨p49, x48⟩ := atI_some' e47
 replace h10 := ((h10.st S22).st S27).st S32
 obtain ⟨b50, o51, ce52, hA53, hF56, hl54, hd55, v57, rfl, h58⟩ := h10.elem x48
 replace h58 := Vb.of_slice h58
 obtain ⟨A59, c60, rfl⟩ := h58.form
 refine h_iaE (hA := hA53) (hj := (Int.toNat_of_nonneg p49).symm) (hlt := hl54) rfl rfl rfl rfl ?_
 refine h_ldC (hc := fun w' ⟨O', hq⟩ => cat0 (cellsAt_agree (hq.agree (i := 0) (by decide)) hF56 hd55)) rfl rfl rfl ?_
 refine h_fa rfl rfl rfl (h_ldC (hc := fun w' ⟨O', hq⟩ => Blk.cell (i := 1) ((h28.st hq (by decide)).1) rfl) rfl rfl rfl ?_)
 obtain ⟨a61, e62, hm⟩ := bs hm
 obtain ⟨p64, x63⟩ := atI_some' e62
 obtain ⟨b65, o66, ce67, hA68, hF71, hl69, hd70, rfl, r72⟩ := h58.elem x63
 refine h_iaE (hA := hA68) (hj := (Int.toNat_of_nonneg p64).symm) (hlt := hl69) rfl rfl rfl rfl ?_
 refine h_ldC (hc := fun w' ⟨O', hq⟩ => cat0 (cellsAt_agree (hq.agree (i := 0) (by decide)) hF71 hd70)) rfl rfl rfl ?_
 refine h_bd rfl rfl rfl rfl ?_
 refine hwp_nilT ?_
 refine x_one (i := 17) (by kernel_rfl) rfl ?_
 refine l_store h33 rfl rfl rfl (Nat.le_of_ble_eq_true rfl) (by first | exact allOne rfl | simp [Value.cells, Value.oneCell', errV_one]) fun w73 S74 h33 => ?_
 replace h33 : Lc 4 w73 O31 g29 103 [(.int .i64 a34), (.int .i64 a61)] := h33
 refine x_end (by kernel_rfl) ?_
 refine x_nil (by kernel_rfl) ?_
 refine ewp_ret ?_
 obtain rfl := sm hm
 replace hB := (((hB.st S22).st S27).st S32).st S74
 exact ret1v rfl (res_cell (cs := [(.int .i64 a34), (.int .i64 a61)]) rfl rfl h33.1.cellsAt) ⟨hB.ext, (Vb.ofAgg (cs := [(.int .i64 a34), (.int .i64 a61)]) (x := (⟨a34, a61⟩ : Fct)) rfl ⟨rfl, r45, r72⟩)⟩
noncomputable def m_ref51_Facts (x0 : Swp) (x1 : List Fct) : Option (List Fct) :=
  bnd (rng (ρ := (List Fct)) (fun (k29 : Nat) (a30 : Fct) (s27 : (List Fct)) => bnd (m_ref51_Fact x0 a30) fun q60 => bnd (appI 16 s27 [q60]) fun u70 => some (.next u70)) x1 0 ([] : List Fct)) fun res25 => fin res25 fun (s86 : (List Fct)) => bnd (m_ref06_Make s86) fun q90 => some q90.1
theorem c_ref51_Facts {w : World} {A : Nat → Prop} (hA : ∀ k, A k → k < w.heap.size) {vx0 : Value} {x0 : Swp} (hx0 : Vb w A vx0 x0) {vx1 : Value} {x1 : List Fct} (hx1 : Vb w A vx1 x1) {r : (List Fct)} (hm : m_ref51_Facts x0 x1 = some r) :
    Fn Try.prog 43 [vx0, vx1] w fun v w' => Ext w w' ∧ Vb w' (upA A w w') v r := by
 obtain ⟨O, hB, hA0⟩ := enter hA
 replace hx0 := hx0.mono hA0
 obtain ⟨cs3, rfl, v4, v5, v6, rfl, h7, h10, h13⟩ := hx0
 obtain ⟨A8, c9, rfl⟩ := h7.form
 obtain ⟨A11, c12, rfl⟩ := h10.form
 obtain ⟨A14, c15, rfl⟩ := h13.form
 replace hx1 := hx1.mono hA0
 obtain ⟨A16, c17, rfl⟩ := hx1.form
 refine fn_enter Try.func43 rfl Try.ntmps43 rfl ?_
 unfold m_ref51_Facts at hm
 refine ewp_seq (ewp_region (l_box 2 O rfl rfl fun g18 w19 O20 S21 h22 => ?_))
 replace h22 : Lc 2 w19 O20 g18 29 [(.slice A8 x0.vars.length c9), (.slice A11 x0.vals.length c12), (.slice A14 x0.ops.length c15)] := h22
 refine o_as rfl rfl (o_z ?_)
 refine ewp_seq (ewp_region (o_as rfl rfl (o_z ?_)))
 refine ewp_seq (ewp_seq (ewp_region (o_mv rfl rfl (o_ln rfl rfl ?_))))
 replace hx1 := hx1.st S21
 have l24 : x1.length ≤ 9223372036854775807 := Nat.le_trans hx1.len.2.1 hx1.len.2.2
 have r23 : inI64 (x1.length : Int) := rngNat l24
 refine o_mv rfl rfl (o_z ?_)
 obtain ⟨res25, hL26, hm⟩ := bs hm
 refine ewp_join (aft res25 (fun (s27 : (List Fct)) (x28 : (Option Addr × Nat)) => [(5, (.slice x28.1 s27.length x28.2))]) (fun s27 x28 w' => ∃ O' : Lab, Bs w A w' O' ∧ Rw 4 w' O' 103 (.slice x28.1 s27.length x28.2) s27)) ?_ ?_
 ·
  refine ewp_block ?_
  replace hB := hB.st S21
  replace h7 := h7.st S21
  replace h10 := h10.st S21
  replace h13 := h13.st S21
  refine ewp_rng (σ := (List Fct)) (X := (Option Addr × Nat)) (x1.length) hL26 rfl l24 (fun (s27 : (List Fct)) (x28 : (Option Addr × Nat)) => [(2, (.pointer (some ⟨g18, 0, none⟩))), (5, (.slice x28.1 s27.length x28.2)), (10, (.slice A16 x1.length c17))]) _ (fun s27 x28 w' => ∃ O' : Lab, Bs w A w' O' ∧ Lc 2 w' O' g18 29 [(.slice A8 x0.vars.length c9), (.slice A11 x0.vals.length c12), (.slice A14 x0.ops.length c15)] ∧ Vb w' (Fr 0 w' O') (.slice A8 x0.vars.length c9) x0.vars ∧ Vb w' (Fr 0 w' O') (.slice A11 x0.vals.length c12) x0.vals ∧ Vb w' (Fr 0 w' O') (.slice A14 x0.ops.length c15) x0.ops ∧ Rw 4 w' O' 103 (.slice x28.1 s27.length x28.2) s27 ∧ Vb w' (Fr 0 w' O') (.slice A16 x1.length c17) x1) _ (none, 0) ⟨O20, hB, h22, h7, h10, h13, (Rw.nil 4 (by decide)), hx1⟩ ⟨rfl, rfl, rfl, rfl, rfl, trivial⟩ (fun _ _ => ⟨rfl, rfl⟩) (fun _ _ => ⟨rfl, trivial⟩) (fun _ _ _ ⟨O', hB, h22, h7, h10, h13, h42, hx1⟩ => ⟨O', hB, h42⟩) ⟨rfl, rfl, rfl⟩ ⟨rfl, rfl⟩ ?_
  rintro k29 a30 s27 x28 w31 cc33 hx34 ⟨O32, hB, h22, h7, h10, h13, h42, hx1⟩ hf35 hret36 hbrk37
  have rk29 : inI64 (k29 : Int) := rngK hx34 l24
  refine ewp_seq (ewp_region ?_)
  obtain ⟨b44, o45, ce46, hA47, hl48, hd49, rfl, r51, r52⟩ := hx1.elem' hx34
  refine o_iaE (hA := hA47) (hj := rfl) (hlt := hl48) rfl rfl rfl ?_
  refine o_la (hl := rfl) (hc := hd49) rfl rfl ?_
  refine l_alloc 3 O32 rfl fun g53 w54 O55 S56 h57 => ?_
  refine l_store h57 rfl rfl rfl (Nat.le_of_ble_eq_true rfl) (by first | exact allOne rfl | simp [Value.cells, Value.oneCell', errV_one]) fun w58 S59 h57 => ?_
  replace h57 : Lc 3 w58 O55 g53 103 [(.int .i64 a30.var), (.int .i64 a30.val)] := h57
  refine o_z ?_
  refine ewp_region (o_mv rfl rfl ?_)
  replace h22 := (h22.st S56).st S59
  refine o_la (hl := rfl) (hc := (h22.1).cellsAt) rfl rfl ?_
  refine o_la (hl := rfl) (hc := (h57.1).cellsAt) rfl rfl ?_
  obtain ⟨q60, e61, hf35⟩ := bs hf35
  replace h7 := (h7.st S56).st S59
  replace h10 := (h10.st S56).st S59
  replace h13 := (h13.st S56).st S59
  refine l_callA (O := O55) (A := All w58) (R := fun w' F v => Vb w' F v q60) (c_ref51_Fact (fun _ h => h) (Vb.mono (F := Fr 0 w58 O55) (Vb.ofAgg (cs := [(.slice A8 x0.vars.length c9), (.slice A11 x0.vals.length c12), (.slice A14 x0.ops.length c15)]) (x := x0) rfl ⟨_, _, _, rfl, h7, h10, h13⟩) Fr.lt) (Vb.mono (F := Fr 0 w58 O55) (Vb.ofAgg (cs := [(.int .i64 a30.var), (.int .i64 a30.val)]) (x := a30) rfl ⟨rfl, r51, r52⟩) Fr.lt) e61) rfl rfl fun v66 w62 O63 S64 h65 => ?_
  obtain ⟨cs67, rfl, rfl, r68, r69⟩ := h65
  obtain ⟨u70, e71, hf35⟩ := bs hf35
  obtain ⟨e71, e72, e73⟩ := appI_some e71
  replace h42 := ((h42.st S56).st S59).st S64
  refine l_append1 rfl (a := q60) h42 (Vb.ofAgg (cs := [(.int .i64 q60.var), (.int .i64 q60.val)]) (x := q60) rfl ⟨rfl, r68, r69⟩) (fun _ => rfl) rfl (by decide) (by decide) e72 e73 ⟨rfl, rfl⟩ fun g74 A75 c76 w77 O78 S79 h80 => ?_
  rw [← e71] at h80 ⊢
  refine o_as rfl rfl (o_z ?_)
  obtain rfl := sm hf35
  refine (?_ : Exists _)
  replace hB := (((hB.st S56).st S59).st S64).st S79
  replace hx1 := (((hx1.st S56).st S59).st S64).st S79
  replace h7 := (h7.st S64).st S79
  replace h10 := (h10.st S64).st S79
  replace h13 := (h13.st S64).st S79
  replace h22 := (h22.st S64).st S79
  exact ⟨_, (A75, c76), rfl, ⟨rfl, rfl, rfl, rfl, rfl, trivial⟩, _, hB, h22, h7, h10, h13, h80, hx1⟩
 replace hB := hB.st S21
 rintro l82 w83 ⟨s86, x87, rfl, hs85, O84, hB, h42⟩
 replace hm := fin_done hm
 refine ewp_sub _ hs85 ?_
 refine ewp_seq (ewp_region (o_mv rfl rfl ?_))
 obtain ⟨O88, S89, h42⟩ := h42.freeze
 obtain ⟨q90, e91, hm⟩ := bs hm
 refine l_call (O := O88) (R := fun w' F v => T2 w' F v q90) (c_ref06_Make Fr.lt h42 e91) rfl rfl fun v96 w92 O93 S94 h95 => ?_
 obtain ⟨v97, v98, rfl, h99, h100⟩ := h95
 obtain ⟨A101, c102, rfl⟩ := h99.form
 obtain ⟨rfl, r103⟩ := h100.int
 refine o_mv rfl rfl (o_ex rfl rfl rfl (o_ex rfl rfl rfl (o_as rfl rfl (o_as rfl rfl (o_z ?_)))))
 refine ewp_seq (ewp_region (o_mv rfl rfl (o_as rfl rfl (o_z ?_))))
 refine ewp_ret ?_
 obtain rfl := sm hm
 replace hB := (hB.st S89).st S94
 exact ret1v rfl (res_tmp rfl) ⟨hB.ext, (Vb.mono (F := Fr 0 w92 O93) h99 hB.out)⟩
noncomputable def m_ref51_fits (x0 : Swp) (x1 : Opr) (x2 : Opr) : Option Bool :=
  bnd (if x1.cost ≠ x2.cost then (some true) else (if (x1.effs.length : Int) ≠ (x2.effs.length : Int) then (some true) else (bnd (m_ref51_Facts x0 x1.pre) fun q64 => bnd (m_base_Facts q64 x2.pre) fun q73 => if q73 = true then some false else some true)) : Option Bool) fun y54 => if y54 = true then (some false) else (bnd (rng (ρ := Bool) (fun (k91 : Nat) (a92 : Eff) (s89 : Unit) => bnd (m_ref51_Fact x0 (⟨a92.var, a92.val⟩ : Fct)) fun q122 => bnd (bnd (x2.effs[k91]?) fun a143 => if q122.var ≠ a143.var then (some true) else (bnd (x2.effs[k91]?) fun a159 => if q122.val ≠ a159.val then (some true) else (bnd (x2.effs[k91]?) fun a175 => bnd (m_ref51_Facts x0 a92.cond) fun q190 => bnd (m_base_Facts q190 a175.cond) fun q199 => if q199 = true then some false else some true)) : Option Bool) fun y139 => if y139 = true then (some (.ret false)) else (some (.next ()))) x1.effs 0 ()) fun res87 => fin res87 fun (s215 : Unit) => some true)
theorem c_ref51_fits {w : World} {A : Nat → Prop} (hA : ∀ k, A k → k < w.heap.size) {vx0 : Value} {x0 : Swp} (hx0 : Vb w A vx0 x0) {vx1 : Value} {x1 : Opr} (hx1 : Vb w A vx1 x1) {vx2 : Value} {x2 : Opr} (hx2 : Vb w A vx2 x2) {r : Bool} (hm : m_ref51_fits x0 x1 x2 = some r) :
    Fn Try.prog 44 [vx0, vx1, vx2] w fun v w' => Ext w w' ∧ Vb w' (upA A w w') v r := by
 obtain ⟨O, hB, hA0⟩ := enter hA
 replace hx0 := hx0.mono hA0
 obtain ⟨cs4, rfl, v5, v6, v7, rfl, h8, h11, h14⟩ := hx0
 obtain ⟨A9, c10, rfl⟩ := h8.form
 obtain ⟨A12, c13, rfl⟩ := h11.form
 obtain ⟨A15, c16, rfl⟩ := h14.form
 replace hx1 := hx1.mono hA0
 obtain ⟨cs17, rfl, v18, v19, rfl, h20, h23, r26, z27⟩ := hx1
 obtain ⟨A21, c22, rfl⟩ := h20.form
 obtain ⟨A24, c25, rfl⟩ := h23.form
 replace hx2 := hx2.mono hA0
 obtain ⟨cs28, rfl, v29, v30, rfl, h31, h34, r37, z38⟩ := hx2
 obtain ⟨A32, c33, rfl⟩ := h31.form
 obtain ⟨A35, c36, rfl⟩ := h34.form
 refine fn_enter Try.func44 rfl Try.ntmps44 rfl ?_
 unfold m_ref51_fits at hm
 refine ewp_seq (ewp_region (l_box 2 O rfl rfl fun g39 w40 O41 S42 h43 => ?_))
 replace h43 : Lc 2 w40 O41 g39 29 [(.slice A9 x0.vars.length c10), (.slice A12 x0.vals.length c13), (.slice A15 x0.ops.length c16)] := h43
 refine l_box 3 O41 rfl rfl fun g44 w45 O46 S47 h48 => ?_
 replace h48 : Lc 3 w45 O46 g44 77 [(.string x1.name), (.int .i64 x1.cost), (.slice A21 x1.pre.length c22), (.slice A24 x1.effs.length c25)] := h48
 refine l_box 4 O46 rfl rfl fun g49 w50 O51 S52 h53 => ?_
 replace h53 : Lc 4 w50 O51 g49 77 [(.string x2.name), (.int .i64 x2.cost), (.slice A32 x2.pre.length c33), (.slice A35 x2.effs.length c36)] := h53
 refine o_as rfl rfl (o_z ?_)
 refine ewp_seq (ewp_seq ?_)
 obtain ⟨y54, hy55, hm⟩ := bs hm
 refine ewp_join (fun l' w' => ∃ (x57 : Unit) (O' : Lab), subs l' [(3, (.pointer (some ⟨g39, 0, none⟩))), (4, (.pointer (some ⟨g44, 0, none⟩))), (5, (.pointer (some ⟨g49, 0, none⟩))), (33, (.bool y54))] ∧ Bs w A w' O' ∧ Lc 2 w' O' g39 29 [(.slice A9 x0.vars.length c10), (.slice A12 x0.vals.length c13), (.slice A15 x0.ops.length c16)] ∧ Vb w' (Fr 0 w' O') (.slice A9 x0.vars.length c10) x0.vars ∧ Vb w' (Fr 0 w' O') (.slice A12 x0.vals.length c13) x0.vals ∧ Vb w' (Fr 0 w' O') (.slice A15 x0.ops.length c16) x0.ops ∧ Lc 3 w' O' g44 77 [(.string x1.name), (.int .i64 x1.cost), (.slice A21 x1.pre.length c22), (.slice A24 x1.effs.length c25)] ∧ Vb w' (Fr 0 w' O') (.slice A21 x1.pre.length c22) x1.pre ∧ Vb w' (Fr 0 w' O') (.slice A24 x1.effs.length c25) x1.effs ∧ Lc 4 w' O' g49 77 [(.string x2.name), (.int .i64 x2.cost), (.slice A32 x2.pre.length c33), (.slice A35 x2.effs.length c36)] ∧ Vb w' (Fr 0 w' O') (.slice A32 x2.pre.length c33) x2.pre ∧ Vb w' (Fr 0 w' O') (.slice A35 x2.effs.length c36) x2.effs) ?_ ?_
 ·
  refine ewp_drawX [(18, []), (21, [])] O51 ?_
  refine x_pre (fuel := 4) [] [(0, true), (1, true), (2, true), (3, true), (4, true), (5, true), (6, true), (7, true), (8, true), (9, true), (10, true), (11, true), (12, true), (13, true), (14, true), (15, true), (16, true), (17, true), (19, true), (20, true)] (by kernel_rfl) rfl ?_
  refine h_fa rfl rfl rfl ?_
  replace h48 := h48.st S52
  refine h_ldC (hc := fun w' ⟨O', hq⟩ => Blk.cell (i := 1) ((h48.st hq (by decide)).1) rfl) rfl rfl rfl ?_
  refine h_fa rfl rfl rfl (h_ldC (hc := fun w' ⟨O', hq⟩ => Blk.cell (i := 1) ((h53.st hq (by decide)).1) rfl) rfl rfl rfl ?_)
  refine h_neS rfl rfl rfl rfl (fun c58 => ?_) fun c58 => ?_
  ·
   replace hy55 := ip hy55 c58
   refine h_mv rfl rfl rfl (h_no rfl rfl rfl rfl rfl (h_no rfl rfl rfl rfl rfl (h_no rfl rfl rfl rfl rfl (h_no rfl rfl rfl rfl rfl (h_no rfl rfl rfl rfl rfl (h_no rfl rfl rfl rfl rfl (h_no rfl rfl rfl rfl rfl (h_pt rfl rfl rfl rfl (h_mv rfl rfl rfl (h_no rfl rfl rfl rfl rfl (h_no rfl rfl rfl rfl rfl (h_no rfl rfl rfl rfl rfl (h_no rfl rfl rfl rfl rfl (h_no rfl rfl rfl rfl rfl ?_))))))))))))))
   refine hwp_nilT ?_
   refine x_one (i := 18) (by kernel_rfl) rfl ?_
   refine owp_no rfl rfl rfl rfl (x_go [(21, [])] ((St.refl nT _ _).lst [] (fun _ h => h.elim)) (by kernel_rfl) ?_)
   refine x_one (i := 21) (by kernel_rfl) rfl ?_
   refine owp_no rfl rfl rfl rfl (x_go [] ((St.refl nT _ _).lst [] (fun _ h => h.elim)) (by kernel_rfl) ?_)
   refine x_pre (fuel := 0) [] [(22, true), (23, true)] (by kernel_rfl) rfl ?_
   refine h_no rfl rfl rfl rfl rfl (h_pt rfl rfl rfl rfl (hwp_nilT ?_))
   refine x_nil (by kernel_rfl) ?_
   obtain rfl := sm hy55
   replace hB := ((hB.st S42).st S47).st S52
   replace h8 := ((h8.st S42).st S47).st S52
   replace h11 := ((h11.st S42).st S47).st S52
   replace h14 := ((h14.st S42).st S47).st S52
   replace h20 := ((h20.st S42).st S47).st S52
   replace h23 := ((h23.st S42).st S47).st S52
   replace h31 := ((h31.st S42).st S47).st S52
   replace h34 := ((h34.st S42).st S47).st S52
   replace h43 := (h43.st S47).st S52
   exact ⟨(), _, ⟨rfl, rfl, rfl, rfl, trivial⟩, hB, h43, h8, h11, h14, h48, h20, h23, h53, h31, h34⟩
  ·
   replace hy55 := im hy55 c58
   refine h_mv rfl rfl rfl (hwp_o rfl (hwq_yes rfl rfl (g_fa rfl rfl (hwp_o rfl (hwq_yes rfl rfl (g_ldC (hc := fun w' ⟨O', hq⟩ => Blk.cell (i := 3) ((h48.st hq (by decide)).1) rfl) rfl rfl ?_))))))
   refine hwp_o rfl (hwq_yes rfl rfl (g_ln rfl rfl ?_))
   replace h23 := ((h23.st S42).st S47).st S52
   have l60 : x1.effs.length ≤ 9223372036854775807 := Nat.le_trans h23.len.2.1 h23.len.2.2
   have r59 : inI64 (x1.effs.length : Int) := rngNat l60
   refine hwp_o rfl (hwq_yes rfl rfl (g_fa rfl rfl (hwp_o rfl (hwq_yes rfl rfl (g_ldC (hc := fun w' ⟨O', hq⟩ => Blk.cell (i := 3) ((h53.st hq (by decide)).1) rfl) rfl rfl ?_)))))
   refine hwp_o rfl (hwq_yes rfl rfl (g_ln rfl rfl ?_))
   replace h34 := ((h34.st S42).st S47).st S52
   have l62 : x2.effs.length ≤ 9223372036854775807 := Nat.le_trans h34.len.2.1 h34.len.2.2
   have r61 : inI64 (x2.effs.length : Int) := rngNat l62
   refine hwp_o rfl (hwq_yes rfl rfl (hwq_split (fun _ _ => ev_ne rfl rfl) rfl (fun c63 => ?_) (fun c63 => ?_)))
   ·
    replace hy55 := ip hy55 c63
    refine h_pf rfl rfl rfl rfl (h_mv rfl rfl rfl (h_no rfl rfl rfl rfl rfl (h_no rfl rfl rfl rfl rfl (h_no rfl rfl rfl rfl rfl (h_no rfl rfl rfl rfl rfl (h_no rfl rfl rfl rfl rfl (hwp_nilT ?_)))))))
    refine x_one (i := 18) (by kernel_rfl) rfl ?_
    refine owp_no rfl rfl rfl rfl (x_go [(21, [])] ((St.refl nT _ _).lst [] (fun _ h => h.elim)) (by kernel_rfl) ?_)
    refine x_one (i := 21) (by kernel_rfl) rfl ?_
    refine owp_no rfl rfl rfl rfl (x_go [] ((St.refl nT _ _).lst [] (fun _ h => h.elim)) (by kernel_rfl) ?_)
    refine x_pre (fuel := 0) [] [(22, true), (23, true)] (by kernel_rfl) rfl ?_
    refine h_no rfl rfl rfl rfl rfl (h_pt rfl rfl rfl rfl (hwp_nilT ?_))
    refine x_nil (by kernel_rfl) ?_
    obtain rfl := sm hy55
    replace hB := ((hB.st S42).st S47).st S52
    replace h8 := ((h8.st S42).st S47).st S52
    replace h11 := ((h11.st S42).st S47).st S52
    replace h14 := ((h14.st S42).st S47).st S52
    replace h20 := ((h20.st S42).st S47).st S52
    replace h31 := ((h31.st S42).st S47).st S52
    replace h43 := (h43.st S47).st S52
    exact ⟨(), _, ⟨rfl, rfl, rfl, rfl, trivial⟩, hB, h43, h8, h11, h14, h48, h20, h23, h53, h31, h34⟩
   ·
    replace hy55 := im hy55 c63
    refine h_pf rfl rfl rfl rfl (h_mv rfl rfl rfl (hwp_o rfl (hwq_yes rfl rfl ?_)))
    replace h43 := (h43.st S47).st S52
    refine g_laB (hl := rfl) (hb := fun w' ⟨O', hq⟩ => ((h43.st hq (by decide)).1).cellsAt) rfl rfl ?_
    refine hwp_o rfl (hwq_yes rfl rfl (g_fa rfl rfl (hwp_o rfl (hwq_yes rfl rfl (g_ldC (hc := fun w' ⟨O', hq⟩ => Blk.cell (i := 2) ((h48.st hq (by decide)).1) rfl) rfl rfl ?_)))))
    refine hwp_o rfl (hwq_yes rfl rfl (g_fa rfl rfl (hwp_o rfl (hwq_yes rfl rfl (g_ldC (hc := fun w' ⟨O', hq⟩ => Blk.cell (i := 2) ((h53.st hq (by decide)).1) rfl) rfl rfl ?_)))))
    refine hwp_nilT ?_
    refine x_one (i := 18) (by kernel_rfl) rfl ?_
    refine owp_yes rfl rfl ?_
    obtain ⟨q64, e65, hy55⟩ := bs hy55
    replace h8 := ((h8.st S42).st S47).st S52
    replace h11 := ((h11.st S42).st S47).st S52
    replace h14 := ((h14.st S42).st S47).st S52
    replace h20 := ((h20.st S42).st S47).st S52
    refine l_call (O := O51) (R := fun w' F v => Vb w' F v q64) (c_ref51_Facts Fr.lt (Vb.ofAgg (cs := [(.slice A9 x0.vars.length c10), (.slice A12 x0.vals.length c13), (.slice A15 x0.ops.length c16)]) (x := x0) rfl ⟨_, _, _, rfl, h8, h11, h14⟩) h20 e65) rfl rfl fun v70 w66 O67 S68 h69 => ?_
    obtain ⟨A71, c72, rfl⟩ := h69.form
    have hZ := S68.lst [] (fun _ h => h.elim)
    refine x_go [(21, [])] hZ (by kernel_rfl) ?_
    refine x_one (i := 21) (by kernel_rfl) rfl ?_
    refine owp_yes rfl rfl ?_
    obtain ⟨q73, e74, hy55⟩ := bs hy55
    replace h31 := (((h31.st S42).st S47).st S52).st S68
    refine l_callA (O := O67) (A := All w66) (R := fun w' F v => Vb w' F v q73) (c_base_Facts (fun _ h => h) (Vb.mono (F := Fr 0 w66 O67) h69 Fr.lt) (Vb.mono (F := Fr 0 w66 O67) h31 Fr.lt) e74) rfl rfl fun v79 w75 O76 S77 h78 => ?_
    obtain rfl := h78.bool
    have hZ := S77.lst [] (fun _ h => h.elim)
    cases q73
    case false =>
     replace hy55 := iF hy55
     refine x_go [] hZ (by kernel_rfl) ?_
     refine x_pre (fuel := 0) [] [(22, true), (23, true)] (by kernel_rfl) rfl ?_
     refine hwp_o rfl (hwq_yes rfl rfl (g_nf rfl rfl (h_pf rfl rfl rfl rfl (hwp_nilT ?_))))
     refine x_nil (by kernel_rfl) ?_
     obtain rfl := sm hy55
     replace hB := ((((hB.st S42).st S47).st S52).st S68).st S77
     replace h8 := (h8.st S68).st S77
     replace h11 := (h11.st S68).st S77
     replace h14 := (h14.st S68).st S77
     replace h20 := (h20.st S68).st S77
     replace h23 := (h23.st S68).st S77
     replace h31 := h31.st S77
     replace h34 := (h34.st S68).st S77
     replace h43 := (h43.st S68).st S77
     replace h48 := (h48.st S68).st S77
     replace h53 := (h53.st S68).st S77
     exact ⟨(), _, ⟨rfl, rfl, rfl, rfl, trivial⟩, hB, h43, h8, h11, h14, h48, h20, h23, h53, h31, h34⟩
    replace hy55 := iT hy55
    refine x_go [] hZ (by kernel_rfl) ?_
    refine x_pre (fuel := 0) [] [(22, true), (23, true)] (by kernel_rfl) rfl ?_
    refine hwp_o rfl (hwq_yes rfl rfl (g_nt rfl rfl (h_pf rfl rfl rfl rfl (hwp_nilT ?_))))
    refine x_nil (by kernel_rfl) ?_
    obtain rfl := sm hy55
    replace hB := ((((hB.st S42).st S47).st S52).st S68).st S77
    replace h8 := (h8.st S68).st S77
    replace h11 := (h11.st S68).st S77
    replace h14 := (h14.st S68).st S77
    replace h20 := (h20.st S68).st S77
    replace h23 := (h23.st S68).st S77
    replace h31 := h31.st S77
    replace h34 := (h34.st S68).st S77
    replace h43 := (h43.st S68).st S77
    replace h48 := (h48.st S68).st S77
    replace h53 := (h53.st S68).st S77
    exact ⟨(), _, ⟨rfl, rfl, rfl, rfl, trivial⟩, hB, h43, h8, h11, h14, h48, h20, h23, h53, h31, h34⟩
 replace hB := ((hB.st S42).st S47).st S52
 replace h8 := ((h8.st S42).st S47).st S52
 replace h11 := ((h11.st S42).st S47).st S52
 replace h14 := ((h14.st S42).st S47).st S52
 replace h20 := ((h20.st S42).st S47).st S52
 replace h23 := ((h23.st S42).st S47).st S52
 replace h31 := ((h31.st S42).st S47).st S52
 replace h34 := ((h34.st S42).st S47).st S52
 replace h43 := (h43.st S47).st S52
 replace h48 := h48.st S52
 rintro l80 w81 ⟨x57, O82, hs83, hB, h43, h8, h11, h14, h48, h20, h23, h53, h31, h34⟩
 refine ewp_sub _ hs83 ?_
 refine ewp_cond rfl (fun c84 => ?_) (fun c84 => ?_)
 ·
  replace hm := ip hm c84
  refine ewp_seq (ewp_region (o_as rfl rfl (o_z ?_)))
  refine ewp_ret ?_
  obtain rfl := sm hm
  exact ret1v rfl (res_tmp rfl) ⟨hB.ext, vBool⟩
 ·
  replace hm := im' hm c84
  refine ewp_skip (ewp_seq (ewp_seq (ewp_region (o_fa rfl rfl (o_ld (hc := Blk.cell (i := 3) (h48.1) rfl) rfl rfl ?_)))))
  refine o_ln rfl rfl ?_
  have l86 : x1.effs.length ≤ 9223372036854775807 := Nat.le_trans h23.len.2.1 h23.len.2.2
  have r85 : inI64 (x1.effs.length : Int) := rngNat l86
  refine o_mv rfl rfl (o_z ?_)
  obtain ⟨res87, hL88, hm⟩ := bs hm
  refine ewp_join (aft res87 (fun (s89 : Unit) (x90 : Unit) => []) (fun s89 x90 w' => ∃ O' : Lab, Bs w A w' O')) ?_ ?_
  ·
   refine ewp_block (ewp_rng (σ := Unit) (X := Unit) (x1.effs.length) hL88 rfl l86 (fun (s89 : Unit) (x90 : Unit) => [(3, (.pointer (some ⟨g39, 0, none⟩))), (5, (.pointer (some ⟨g49, 0, none⟩))), (35, (.slice A24 x1.effs.length c25))]) _ (fun s89 x90 w' => ∃ O' : Lab, Bs w A w' O' ∧ Lc 2 w' O' g39 29 [(.slice A9 x0.vars.length c10), (.slice A12 x0.vals.length c13), (.slice A15 x0.ops.length c16)] ∧ Vb w' (Fr 0 w' O') (.slice A9 x0.vars.length c10) x0.vars ∧ Vb w' (Fr 0 w' O') (.slice A12 x0.vals.length c13) x0.vals ∧ Vb w' (Fr 0 w' O') (.slice A15 x0.ops.length c16) x0.ops ∧ Lc 4 w' O' g49 77 [(.string x2.name), (.int .i64 x2.cost), (.slice A32 x2.pre.length c33), (.slice A35 x2.effs.length c36)] ∧ Vb w' (Fr 0 w' O') (.slice A32 x2.pre.length c33) x2.pre ∧ Vb w' (Fr 0 w' O') (.slice A35 x2.effs.length c36) x2.effs ∧ Vb w' (Fr 0 w' O') (.slice A24 x1.effs.length c25) x1.effs) _ () ⟨O82, hB, h43, h8, h11, h14, h53, h31, h34, h23⟩ ⟨rfl, rfl, rfl, rfl, rfl, trivial⟩ (fun _ _ => ⟨rfl, rfl⟩) (fun _ _ => trivial) (fun _ _ _ ⟨O', hB, h43, h8, h11, h14, h53, h31, h34, h23⟩ => ⟨O', hB⟩) ⟨rfl, rfl, rfl⟩ ⟨rfl, rfl⟩ ?_)
   rintro k91 a92 s89 x90 w93 cc95 hx96 ⟨O94, hB, h43, h8, h11, h14, h53, h31, h34, h23⟩ hf97 hret98 hbrk99
   have rk91 : inI64 (k91 : Int) := rngK hx96 l86
   refine ewp_seq (ewp_region (o_mv rfl rfl ?_))
   obtain ⟨b102, o103, ce104, hA105, hl106, hd107, v109, rfl, h110, r113, r114⟩ := h23.elem' hx96
   obtain ⟨A111, c112, rfl⟩ := h110.form
   refine o_iaE (hA := hA105) (hj := rfl) (hlt := hl106) rfl rfl rfl ?_
   refine o_la (hl := rfl) (hc := hd107) rfl rfl ?_
   refine l_alloc 5 O94 rfl fun g115 w116 O117 S118 h119 => ?_
   refine o_as rfl rfl (l_store h119 rfl rfl rfl (Nat.le_of_ble_eq_true rfl) (by first | exact allOne rfl | simp [Value.cells, Value.oneCell', errV_one]) fun w120 S121 h119 => ?_)
   replace h119 : Lc 5 w120 O117 g115 74 [(.slice A111 a92.cond.length c112), (.int .i64 a92.var), (.int .i64 a92.val)] := h119
   refine o_z ?_
   refine ewp_seq (ewp_region ?_)
   replace h43 := (h43.st S118).st S121
   refine o_la (hl := rfl) (hc := (h43.1).cellsAt) rfl rfl ?_
   refine o_fa rfl rfl (o_ld (hc := Blk.cell (i := 1) (h119.1) rfl) rfl rfl ?_)
   refine o_fa rfl rfl (o_ld (hc := Blk.cell (i := 2) (h119.1) rfl) rfl rfl ?_)
   refine o_bd rfl rfl rfl ?_
   obtain ⟨q122, e123, hf97⟩ := bs hf97
   replace h8 := (h8.st S118).st S121
   replace h11 := (h11.st S118).st S121
   replace h14 := (h14.st S118).st S121
   refine l_callA (O := O117) (A := All w120) (R := fun w' F v => Vb w' F v q122) (c_ref51_Fact (fun _ h => h) (Vb.mono (F := Fr 0 w120 O117) (Vb.ofAgg (cs := [(.slice A9 x0.vars.length c10), (.slice A12 x0.vals.length c13), (.slice A15 x0.ops.length c16)]) (x := x0) rfl ⟨_, _, _, rfl, h8, h11, h14⟩) Fr.lt) (Vb.mono (F := Fr 0 w120 O117) (Vb.ofAgg (cs := [(.int .i64 a92.var), (.int .i64 a92.val)]) (x := (⟨a92.var, a92.val⟩ : Fct)) rfl ⟨rfl, r113, r114⟩) Fr.lt) e123) rfl rfl fun v128 w124 O125 S126 h127 => ?_
   obtain ⟨cs129, rfl, rfl, r130, r131⟩ := h127
   refine l_alloc 6 O125 rfl fun g132 w133 O134 S135 h136 => ?_
   refine l_store h136 rfl rfl rfl (Nat.le_of_ble_eq_true rfl) (by first | exact allOne rfl | simp [Value.cells, Value.oneCell', errV_one]) fun w137 S138 h136 => ?_
   replace h136 : Lc 6 w137 O134 g132 103 [(.int .i64 q122.var), (.int .i64 q122.val)] := h136
   refine o_z ?_
   refine ewp_seq ?_
   obtain ⟨y139, hy140, hf97⟩ := bs hf97
   refine ewp_join (fun l' w' => ∃ (x142 : Unit) (O' : Lab), subs l' [(3, (.pointer (some ⟨g39, 0, none⟩))), (5, (.pointer (some ⟨g49, 0, none⟩))), (35, (.slice A24 x1.effs.length c25)), (36, (.int .i64 (x1.effs.length : Int))), (37, (.int .i64 (k91 : Int))), (82, (.bool y139))] ∧ Bs w A w' O' ∧ Lc 2 w' O' g39 29 [(.slice A9 x0.vars.length c10), (.slice A12 x0.vals.length c13), (.slice A15 x0.ops.length c16)] ∧ Vb w' (Fr 0 w' O') (.slice A9 x0.vars.length c10) x0.vars ∧ Vb w' (Fr 0 w' O') (.slice A12 x0.vals.length c13) x0.vals ∧ Vb w' (Fr 0 w' O') (.slice A15 x0.ops.length c16) x0.ops ∧ Lc 4 w' O' g49 77 [(.string x2.name), (.int .i64 x2.cost), (.slice A32 x2.pre.length c33), (.slice A35 x2.effs.length c36)] ∧ Vb w' (Fr 0 w' O') (.slice A32 x2.pre.length c33) x2.pre ∧ Vb w' (Fr 0 w' O') (.slice A35 x2.effs.length c36) x2.effs ∧ Vb w' (Fr 0 w' O') (.slice A24 x1.effs.length c25) x1.effs) ?_ ?_
   ·
    refine ewp_drawX [(24, []), (31, [])] O134 ?_
    refine x_pre (fuel := 4) [] [(0, true), (1, true), (2, true), (3, true), (4, true), (5, true), (6, true), (7, true), (8, true), (9, true), (10, true), (11, true), (12, true), (13, true), (14, true), (15, true), (16, true), (17, true), (18, true), (19, true), (20, true), (21, true), (22, true), (23, true), (25, true), (26, true), (27, true), (28, true), (29, true), (30, true)] (by kernel_rfl) rfl ?_
    refine h_fa rfl rfl rfl (h_ldC (hc := fun w' ⟨O', hq⟩ => Blk.cell (i := 0) ((h136.st hq (by decide)).1) rfl) rfl rfl rfl ?_)
    refine h_fa rfl rfl rfl ?_
    replace h53 := ((((h53.st S118).st S121).st S126).st S135).st S138
    refine h_ldC (hc := fun w' ⟨O', hq⟩ => Blk.cell (i := 3) ((h53.st hq (by decide)).1) rfl) rfl rfl rfl ?_
    refine h_mv rfl rfl rfl ?_
    obtain ⟨a143, e144, hy140⟩ := bs hy140
    replace h34 := ((((h34.st S118).st S121).st S126).st S135).st S138
    obtain ⟨b145, o146, ce147, hA148, hF151, hl149, hd150, v152, rfl, h153, r156, r157⟩ := h34.elem e144
    obtain ⟨A154, c155, rfl⟩ := h153.form
    refine h_iaE (hA := hA148) (hj := rfl) (hlt := hl149) rfl rfl rfl rfl ?_
    refine h_fa rfl rfl rfl (h_ldC (hc := fun w' ⟨O', hq⟩ => cat1 (cellsAt_agree (hq.agree (i := 0) (by decide)) hF151 hd150)) rfl rfl rfl ?_)
    refine h_neS rfl rfl rfl rfl (fun c158 => ?_) fun c158 => ?_
    ·
     replace hy140 := ip hy140 c158
     refine h_mv rfl rfl rfl (h_no rfl rfl rfl rfl rfl (h_no rfl rfl rfl rfl rfl (h_no rfl rfl rfl rfl rfl (h_no rfl rfl rfl rfl rfl (h_no rfl rfl rfl rfl rfl (h_no rfl rfl rfl rfl rfl (h_no rfl rfl rfl rfl rfl (h_no rfl rfl rfl rfl rfl (h_no rfl rfl rfl rfl rfl (h_pt rfl rfl rfl rfl (h_mv rfl rfl rfl (h_no rfl rfl rfl rfl rfl (h_no rfl rfl rfl rfl rfl (h_no rfl rfl rfl rfl rfl ?_))))))))))))))
     refine h_no rfl rfl rfl rfl rfl (h_no rfl rfl rfl rfl rfl (h_no rfl rfl rfl rfl rfl (h_no rfl rfl rfl rfl rfl (h_no rfl rfl rfl rfl rfl (h_no rfl rfl rfl rfl rfl (hwp_nilT ?_))))))
     refine x_one (i := 24) (by kernel_rfl) rfl ?_
     refine owp_no rfl rfl rfl rfl (x_go [(31, [])] ((St.refl nT _ _).lst [] (fun _ h => h.elim)) (by kernel_rfl) ?_)
     refine x_one (i := 31) (by kernel_rfl) rfl ?_
     refine owp_no rfl rfl rfl rfl (x_go [] ((St.refl nT _ _).lst [] (fun _ h => h.elim)) (by kernel_rfl) ?_)
     refine x_pre (fuel := 0) [] [(32, true), (33, true)] (by kernel_rfl) rfl ?_
     refine h_no rfl rfl rfl rfl rfl (h_pt rfl rfl rfl rfl (hwp_nilT ?_))
     refine x_nil (by kernel_rfl) ?_
     obtain rfl := sm hy140
     replace hB := ((((hB.st S118).st S121).st S126).st S135).st S138
     replace h8 := ((h8.st S126).st S135).st S138
     replace h11 := ((h11.st S126).st S135).st S138
     replace h14 := ((h14.st S126).st S135).st S138
     replace h23 := ((((h23.st S118).st S121).st S126).st S135).st S138
     replace h31 := ((((h31.st S118).st S121).st S126).st S135).st S138
     replace h43 := ((h43.st S126).st S135).st S138
     exact ⟨(), _, ⟨rfl, rfl, rfl, rfl, rfl, rfl, trivial⟩, hB, h43, h8, h11, h14, h53, h31, h34, h23⟩
    ·
     replace hy140 := im hy140 c158
     refine h_mv rfl rfl rfl (hwp_o rfl (hwq_yes rfl rfl (g_fa rfl rfl (hwp_o rfl (hwq_yes rfl rfl (g_ldC (hc := fun w' ⟨O', hq⟩ => Blk.cell (i := 1) ((h136.st hq (by decide)).1) rfl) rfl rfl ?_))))))
     refine hwp_o rfl (hwq_yes rfl rfl (g_fa rfl rfl (hwp_o rfl (hwq_yes rfl rfl (g_ldC (hc := fun w' ⟨O', hq⟩ => Blk.cell (i := 3) ((h53.st hq (by decide)).1) rfl) rfl rfl ?_)))))
     refine hwp_o rfl (hwq_yes rfl rfl (g_mv rfl rfl (hwp_o rfl (hwq_yes rfl rfl ?_))))
     obtain ⟨a159, e160, hy140⟩ := bs hy140
     obtain ⟨b161, o162, ce163, hA164, hF167, hl165, hd166, v168, rfl, h169, r172, r173⟩ := h34.elem e160
     obtain ⟨A170, c171, rfl⟩ := h169.form
     refine g_iaE (hA := hA164) (hj := rfl) (hlt := hl165) rfl rfl rfl ?_
     refine hwp_o rfl (hwq_yes rfl rfl (g_fa rfl rfl (hwp_o rfl (hwq_yes rfl rfl (g_ldC (hc := fun w' ⟨O', hq⟩ => cat2 (cellsAt_agree (hq.agree (i := 0) (by decide)) hF167 hd166)) rfl rfl ?_)))))
     refine hwp_o rfl (hwq_yes rfl rfl (hwq_split (fun _ _ => ev_ne rfl rfl) rfl (fun c174 => ?_) (fun c174 => ?_)))
     ·
      replace hy140 := ip hy140 c174
      refine h_pf rfl rfl rfl rfl (h_mv rfl rfl rfl (h_no rfl rfl rfl rfl rfl (h_no rfl rfl rfl rfl rfl (h_no rfl rfl rfl rfl rfl (h_no rfl rfl rfl rfl rfl (h_no rfl rfl rfl rfl rfl (h_no rfl rfl rfl rfl rfl (h_no rfl rfl rfl rfl rfl (h_no rfl rfl rfl rfl rfl (h_no rfl rfl rfl rfl rfl (hwp_nilT ?_)))))))))))
      refine x_one (i := 24) (by kernel_rfl) rfl ?_
      refine owp_no rfl rfl rfl rfl (x_go [(31, [])] ((St.refl nT _ _).lst [] (fun _ h => h.elim)) (by kernel_rfl) ?_)
      refine x_one (i := 31) (by kernel_rfl) rfl ?_
      refine owp_no rfl rfl rfl rfl (x_go [] ((St.refl nT _ _).lst [] (fun _ h => h.elim)) (by kernel_rfl) ?_)
      refine x_pre (fuel := 0) [] [(32, true), (33, true)] (by kernel_rfl) rfl ?_
      refine h_no rfl rfl rfl rfl rfl (h_pt rfl rfl rfl rfl (hwp_nilT ?_))
      refine x_nil (by kernel_rfl) ?_
      obtain rfl := sm hy140
      replace hB := ((((hB.st S118).st S121).st S126).st S135).st S138
      replace h8 := ((h8.st S126).st S135).st S138
      replace h11 := ((h11.st S126).st S135).st S138
      replace h14 := ((h14.st S126).st S135).st S138
      replace h23 := ((((h23.st S118).st S121).st S126).st S135).st S138
      replace h31 := ((((h31.st S118).st S121).st S126).st S135).st S138
      replace h43 := ((h43.st S126).st S135).st S138
      exact ⟨(), _, ⟨rfl, rfl, rfl, rfl, rfl, rfl, trivial⟩, hB, h43, h8, h11, h14, h53, h31, h34, h23⟩
     ·
      replace hy140 := im hy140 c174
      refine h_pf rfl rfl rfl rfl (h_mv rfl rfl rfl (hwp_o rfl (hwq_yes rfl rfl ?_)))
      replace h43 := ((h43.st S126).st S135).st S138
      refine g_laB (hl := rfl) (hb := fun w' ⟨O', hq⟩ => ((h43.st hq (by decide)).1).cellsAt) rfl rfl ?_
      refine hwp_o rfl (hwq_yes rfl rfl (g_fa rfl rfl (hwp_o rfl (hwq_yes rfl rfl ?_))))
      replace h119 := ((h119.st S126).st S135).st S138
      refine g_ldC (hc := fun w' ⟨O', hq⟩ => Blk.cell (i := 0) ((h119.st hq (by decide)).1) rfl) rfl rfl ?_
      refine hwp_o rfl (hwq_yes rfl rfl (g_fa rfl rfl (hwp_o rfl (hwq_yes rfl rfl (g_ldC (hc := fun w' ⟨O', hq⟩ => Blk.cell (i := 3) ((h53.st hq (by decide)).1) rfl) rfl rfl ?_)))))
      refine hwp_o rfl (hwq_yes rfl rfl (g_mv rfl rfl (hwp_o rfl (hwq_yes rfl rfl ?_))))
      obtain ⟨a175, e176, hy140⟩ := bs hy140
      obtain ⟨b177, o178, ce179, hA180, hF183, hl181, hd182, v184, rfl, h185, r188, r189⟩ := h34.elem e176
      obtain ⟨A186, c187, rfl⟩ := h185.form
      refine g_iaE (hA := hA180) (hj := rfl) (hlt := hl181) rfl rfl rfl ?_
      refine hwp_o rfl (hwq_yes rfl rfl (g_fa rfl rfl (hwp_o rfl (hwq_yes rfl rfl (g_ldC (hc := fun w' ⟨O', hq⟩ => cat0 (cellsAt_agree (hq.agree (i := 0) (by decide)) hF183 hd182)) rfl rfl ?_)))))
      refine hwp_nilT ?_
      refine x_one (i := 24) (by kernel_rfl) rfl ?_
      refine owp_yes rfl rfl ?_
      obtain ⟨q190, e191, hy140⟩ := bs hy140
      replace h8 := ((h8.st S126).st S135).st S138
      replace h11 := ((h11.st S126).st S135).st S138
      replace h14 := ((h14.st S126).st S135).st S138
      replace h110 := ((((h110.st S118).st S121).st S126).st S135).st S138
      refine l_call (O := O134) (R := fun w' F v => Vb w' F v q190) (c_ref51_Facts Fr.lt (Vb.ofAgg (cs := [(.slice A9 x0.vars.length c10), (.slice A12 x0.vals.length c13), (.slice A15 x0.ops.length c16)]) (x := x0) rfl ⟨_, _, _, rfl, h8, h11, h14⟩) h110 e191) rfl rfl fun v196 w192 O193 S194 h195 => ?_
      obtain ⟨A197, c198, rfl⟩ := h195.form
      have hZ := S194.lst [] (fun _ h => h.elim)
      refine x_go [(31, [])] hZ (by kernel_rfl) ?_
      refine x_one (i := 31) (by kernel_rfl) rfl ?_
      refine owp_yes rfl rfl ?_
      obtain ⟨q199, e200, hy140⟩ := bs hy140
      replace h185 := h185.st S194
      refine l_callA (O := O193) (A := All w192) (R := fun w' F v => Vb w' F v q199) (c_base_Facts (fun _ h => h) (Vb.mono (F := Fr 0 w192 O193) h195 Fr.lt) (Vb.mono (F := Fr 0 w192 O193) h185 Fr.lt) e200) rfl rfl fun v205 w201 O202 S203 h204 => ?_
      obtain rfl := h204.bool
      have hZ := S203.lst [] (fun _ h => h.elim)
      cases q199
      case false =>
       replace hy140 := iF hy140
       refine x_go [] hZ (by kernel_rfl) ?_
       refine x_pre (fuel := 0) [] [(32, true), (33, true)] (by kernel_rfl) rfl ?_
       refine hwp_o rfl (hwq_yes rfl rfl (g_nf rfl rfl (h_pf rfl rfl rfl rfl (hwp_nilT ?_))))
       refine x_nil (by kernel_rfl) ?_
       obtain rfl := sm hy140
       replace hB := ((((((hB.st S118).st S121).st S126).st S135).st S138).st S194).st S203
       replace h8 := (h8.st S194).st S203
       replace h11 := (h11.st S194).st S203
       replace h14 := (h14.st S194).st S203
       replace h23 := ((((((h23.st S118).st S121).st S126).st S135).st S138).st S194).st S203
       replace h31 := ((((((h31.st S118).st S121).st S126).st S135).st S138).st S194).st S203
       replace h34 := (h34.st S194).st S203
       replace h43 := (h43.st S194).st S203
       replace h53 := (h53.st S194).st S203
       exact ⟨(), _, ⟨rfl, rfl, rfl, rfl, rfl, rfl, trivial⟩, hB, h43, h8, h11, h14, h53, h31, h34, h23⟩
      replace hy140 := iT hy140
      refine x_go [] hZ (by kernel_rfl) ?_
      refine x_pre (fuel := 0) [] [(32, true), (33, true)] (by kernel_rfl) rfl ?_
      refine hwp_o rfl (hwq_yes rfl rfl (g_nt rfl rfl (h_pf rfl rfl rfl rfl (hwp_nilT ?_))))
      refine x_nil (by kernel_rfl) ?_
      obtain rfl := sm hy140
      replace hB := ((((((hB.st S118).st S121).st S126).st S135).st S138).st S194).st S203
      replace h8 := (h8.st S194).st S203
      replace h11 := (h11.st S194).st S203
      replace h14 := (h14.st S194).st S203
      replace h23 := ((((((h23.st S118).st S121).st S126).st S135).st S138).st S194).st S203
      replace h31 := ((((((h31.st S118).st S121).st S126).st S135).st S138).st S194).st S203
      replace h34 := (h34.st S194).st S203
      replace h43 := (h43.st S194).st S203
      replace h53 := (h53.st S194).st S203
      exact ⟨(), _, ⟨rfl, rfl, rfl, rfl, rfl, rfl, trivial⟩, hB, h43, h8, h11, h14, h53, h31, h34, h23⟩
   replace hB := ((((hB.st S118).st S121).st S126).st S135).st S138
   replace h8 := ((h8.st S126).st S135).st S138
   replace h11 := ((h11.st S126).st S135).st S138
   replace h14 := ((h14.st S126).st S135).st S138
   replace h23 := ((((h23.st S118).st S121).st S126).st S135).st S138
   replace h31 := ((((h31.st S118).st S121).st S126).st S135).st S138
   replace h34 := ((((h34.st S118).st S121).st S126).st S135).st S138
   replace h43 := ((h43.st S126).st S135).st S138
   replace h53 := ((((h53.st S118).st S121).st S126).st S135).st S138
   rintro l206 w207 ⟨x142, O208, hs209, hB, h43, h8, h11, h14, h53, h31, h34, h23⟩
   refine ewp_sub _ hs209 ?_
   refine ewp_cond rfl (fun c210 => ?_) (fun c210 => ?_)
   ·
    replace hf97 := ip hf97 c210
    refine ewp_seq (ewp_region (o_as rfl rfl (o_z ?_)))
    refine ewp_ret ?_
    obtain rfl := sm hf97
    obtain rfl := hret98 _ rfl
    obtain rfl := sm (fin_ret hm)
    exact ret1v rfl (res_tmp rfl) ⟨hB.ext, vBool⟩
   ·
    replace hf97 := im' hf97 c210
    refine ewp_skip ?_
    obtain rfl := sm hf97
    refine (?_ : Exists _)
    exact ⟨_, (), rfl, ⟨rfl, rfl, rfl, rfl, rfl, trivial⟩, _, hB, h43, h8, h11, h14, h53, h31, h34, h23⟩
  rintro l211 w212 ⟨s215, x216, rfl, hs214, O213, hB⟩
  replace hm := fin_done hm
  refine ewp_sub _ hs214 ?_
  refine ewp_seq (ewp_region (o_as rfl rfl (o_z ?_)))
  refine ewp_ret ?_
  obtain rfl := sm hm
  exact ret1v rfl (res_tmp rfl) ⟨hB.ext, vBool⟩
noncomputable def m_ref51_Check (x0 : Tsk) (x1 : Swp) : Option Bool :=
  bnd (bnd (m_base_Good x0) fun q47 => if q47 = true then bnd (m_ref51_shape x0 x1) fun q54 => if q54 = true then bnd (m_ref51_Facts x1 x0.goal) fun q61 => bnd (m_base_Facts q61 x0.goal) fun q70 => if q70 = true then some false else some true else some true else some true : Option Bool) fun y43 => if y43 = true then (some false) else (bnd (rng (ρ := Bool) (fun (k88 : Nat) (a89 : Opr) (s86 : Unit) => bnd (x1.ops[k88]?) fun a116 => bnd (atI x0.ops a116) fun a126 => bnd (m_ref51_fits x1 a89 a126) fun q147 => if q147 = true then some (.next ()) else some (.ret false)) x0.ops 0 ()) fun res84 => fin res84 fun (s158 : Unit) => some true)
theorem c_ref51_Check {w : World} {A : Nat → Prop} (hA : ∀ k, A k → k < w.heap.size) {vx0 : Value} {x0 : Tsk} (hx0 : Vb w A vx0 x0) {vx1 : Value} {x1 : Swp} (hx1 : Vb w A vx1 x1) {r : Bool} (hm : m_ref51_Check x0 x1 = some r) :
    Fn Try.prog 12 [vx0, vx1] w fun v w' => Ext w w' ∧ Vb w' (upA A w w') v r := by
 obtain ⟨O, hB, hA0⟩ := enter hA
 replace hx0 := hx0.mono hA0
 obtain ⟨cs3, rfl, v4, v5, v6, v7, rfl, h8, h11, h14, h17⟩ := hx0
 obtain ⟨A9, c10, rfl⟩ := h8.form
 obtain ⟨A12, c13, rfl⟩ := h11.form
 obtain ⟨A15, c16, rfl⟩ := h14.form
 obtain ⟨A18, c19, rfl⟩ := h17.form
 replace hx1 := hx1.mono hA0
 obtain ⟨cs20, rfl, v21, v22, v23, rfl, h24, h27, h30⟩ := hx1
 obtain ⟨A25, c26, rfl⟩ := h24.form
 obtain ⟨A28, c29, rfl⟩ := h27.form
 obtain ⟨A31, c32, rfl⟩ := h30.form
 refine fn_enter Try.func12 rfl Try.ntmps12 rfl ?_
 unfold m_ref51_Check at hm
 refine ewp_seq (ewp_region (l_box 2 O rfl rfl fun g33 w34 O35 S36 h37 => ?_))
 replace h37 : Lc 2 w34 O35 g33 26 [(.slice A9 x0.vars.length c10), (.slice A12 x0.init.length c13), (.slice A15 x0.goal.length c16), (.slice A18 x0.ops.length c19)] := h37
 refine l_box 3 O35 rfl rfl fun g38 w39 O40 S41 h42 => ?_
 replace h42 : Lc 3 w39 O40 g38 29 [(.slice A25 x1.vars.length c26), (.slice A28 x1.vals.length c29), (.slice A31 x1.ops.length c32)] := h42
 refine o_as rfl rfl (o_z ?_)
 refine ewp_seq (ewp_seq ?_)
 obtain ⟨y43, hy44, hm⟩ := bs hm
 refine ewp_join (fun l' w' => ∃ (x46 : Unit) (O' : Lab), subs l' [(2, (.pointer (some ⟨g33, 0, none⟩))), (3, (.pointer (some ⟨g38, 0, none⟩))), (24, (.bool y43))] ∧ Bs w A w' O' ∧ Lc 2 w' O' g33 26 [(.slice A9 x0.vars.length c10), (.slice A12 x0.init.length c13), (.slice A15 x0.goal.length c16), (.slice A18 x0.ops.length c19)] ∧ Vb w' (Fr 0 w' O') (.slice A9 x0.vars.length c10) x0.vars ∧ Vb w' (Fr 0 w' O') (.slice A12 x0.init.length c13) x0.init ∧ Vb w' (Fr 0 w' O') (.slice A15 x0.goal.length c16) x0.goal ∧ Vb w' (Fr 0 w' O') (.slice A18 x0.ops.length c19) x0.ops ∧ Lc 3 w' O' g38 29 [(.slice A25 x1.vars.length c26), (.slice A28 x1.vals.length c29), (.slice A31 x1.ops.length c32)] ∧ Vb w' (Fr 0 w' O') (.slice A25 x1.vars.length c26) x1.vars ∧ Vb w' (Fr 0 w' O') (.slice A28 x1.vals.length c29) x1.vals ∧ Vb w' (Fr 0 w' O') (.slice A31 x1.ops.length c32) x1.ops) ?_ ?_
 ·
  refine ewp_drawX [(1, []), (6, []), (13, []), (16, [])] O40 ?_
  refine x_pre (fuel := 18) [] [(0, true)] (by kernel_rfl) rfl ?_
  replace h37 := h37.st S41
  refine h_laB (hl := rfl) (hb := fun w' ⟨O', hq⟩ => ((h37.st hq (by decide)).1).cellsAt) rfl rfl rfl ?_
  refine hwp_nilT ?_
  refine x_one (i := 1) (by kernel_rfl) rfl ?_
  obtain ⟨q47, e48, hy44⟩ := bs hy44
  replace h8 := (h8.st S36).st S41
  replace h11 := (h11.st S36).st S41
  replace h14 := (h14.st S36).st S41
  replace h17 := (h17.st S36).st S41
  refine l_callA (O := O40) (A := All w39) (R := fun w' F v => Vb w' F v q47) (c_base_Good (fun _ h => h) (Vb.mono (F := Fr 0 w39 O40) (Vb.ofAgg (cs := [(.slice A9 x0.vars.length c10), (.slice A12 x0.init.length c13), (.slice A15 x0.goal.length c16), (.slice A18 x0.ops.length c19)]) (x := x0) rfl ⟨_, _, _, _, rfl, h8, h11, h14, h17⟩) Fr.lt) e48) rfl rfl fun v53 w49 O50 S51 h52 => ?_
  obtain rfl := h52.bool
  have hZ := S51.lst [] (fun _ h => h.elim)
  cases q47
  case false =>
   replace hy44 := iF hy44
   refine x_go [(6, []), (13, []), (16, [])] hZ (by kernel_rfl) ?_
   refine x_pre (fuel := 13) [] [(2, true), (3, true), (4, true), (5, true)] (by kernel_rfl) rfl ?_
   refine h_nf rfl rfl rfl (h_mv rfl rfl rfl (h_no rfl rfl rfl rfl rfl (h_no rfl rfl rfl rfl rfl (hwp_nilT ?_))))
   refine x_one (i := 6) (by kernel_rfl) rfl ?_
   refine owp_no rfl rfl rfl rfl (x_go [(13, []), (16, [])] ((St.refl nT _ _).lst [] (fun _ h => h.elim)) (by kernel_rfl) ?_)
   refine x_pre (fuel := 4) [] [(7, true), (8, true), (9, true), (10, true), (11, true), (12, true), (14, true), (15, true)] (by kernel_rfl) rfl ?_
   refine h_no rfl rfl rfl rfl rfl (h_pt rfl rfl rfl rfl (h_mv rfl rfl rfl (h_no rfl rfl rfl rfl rfl (h_no rfl rfl rfl rfl rfl (h_no rfl rfl rfl rfl rfl (h_no rfl rfl rfl rfl rfl (h_no rfl rfl rfl rfl rfl (hwp_nilT ?_))))))))
   refine x_one (i := 13) (by kernel_rfl) rfl ?_
   refine owp_no rfl rfl rfl rfl (x_go [(16, [])] ((St.refl nT _ _).lst [] (fun _ h => h.elim)) (by kernel_rfl) ?_)
   refine x_one (i := 16) (by kernel_rfl) rfl ?_
   refine owp_no rfl rfl rfl rfl (x_go [] ((St.refl nT _ _).lst [] (fun _ h => h.elim)) (by kernel_rfl) ?_)
   refine x_pre (fuel := 0) [] [(17, true), (18, true)] (by kernel_rfl) rfl ?_
   refine h_no rfl rfl rfl rfl rfl (h_pt rfl rfl rfl rfl (hwp_nilT ?_))
   refine x_nil (by kernel_rfl) ?_
   obtain rfl := sm hy44
   replace hB := ((hB.st S36).st S41).st S51
   replace h8 := h8.st S51
   replace h11 := h11.st S51
   replace h14 := h14.st S51
   replace h17 := h17.st S51
   replace h24 := ((h24.st S36).st S41).st S51
   replace h27 := ((h27.st S36).st S41).st S51
   replace h30 := ((h30.st S36).st S41).st S51
   replace h37 := h37.st S51
   replace h42 := h42.st S51
   exact ⟨(), _, ⟨rfl, rfl, rfl, trivial⟩, hB, h37, h8, h11, h14, h17, h42, h24, h27, h30⟩
  replace hy44 := iT hy44
  refine x_go [(6, []), (13, []), (16, [])] hZ (by kernel_rfl) ?_
  refine x_pre (fuel := 13) [] [(2, true), (3, true), (4, true), (5, true)] (by kernel_rfl) rfl ?_
  refine h_nt rfl rfl rfl (h_mv rfl rfl rfl (hwp_o rfl (hwq_yes rfl rfl ?_)))
  replace h37 := h37.st S51
  refine g_laB (hl := rfl) (hb := fun w' ⟨O', hq⟩ => ((h37.st hq (by decide)).1).cellsAt) rfl rfl ?_
  refine hwp_o rfl (hwq_yes rfl rfl ?_)
  replace h42 := h42.st S51
  refine g_laB (hl := rfl) (hb := fun w' ⟨O', hq⟩ => ((h42.st hq (by decide)).1).cellsAt) rfl rfl ?_
  refine hwp_nilT ?_
  refine x_one (i := 6) (by kernel_rfl) rfl ?_
  refine owp_yes rfl rfl ?_
  obtain ⟨q54, e55, hy44⟩ := bs hy44
  replace h8 := h8.st S51
  replace h11 := h11.st S51
  replace h14 := h14.st S51
  replace h17 := h17.st S51
  replace h24 := ((h24.st S36).st S41).st S51
  replace h27 := ((h27.st S36).st S41).st S51
  replace h30 := ((h30.st S36).st S41).st S51
  refine l_callA (O := O50) (A := All w49) (R := fun w' F v => Vb w' F v q54) (c_ref51_shape (fun _ h => h) (Vb.mono (F := Fr 0 w49 O50) (Vb.ofAgg (cs := [(.slice A9 x0.vars.length c10), (.slice A12 x0.init.length c13), (.slice A15 x0.goal.length c16), (.slice A18 x0.ops.length c19)]) (x := x0) rfl ⟨_, _, _, _, rfl, h8, h11, h14, h17⟩) Fr.lt) (Vb.mono (F := Fr 0 w49 O50) (Vb.ofAgg (cs := [(.slice A25 x1.vars.length c26), (.slice A28 x1.vals.length c29), (.slice A31 x1.ops.length c32)]) (x := x1) rfl ⟨_, _, _, rfl, h24, h27, h30⟩) Fr.lt) e55) rfl rfl fun v60 w56 O57 S58 h59 => ?_
  obtain rfl := h59.bool
  have hZ := S58.lst [] (fun _ h => h.elim)
  cases q54
  case false =>
   replace hy44 := iF hy44
   refine x_go [(13, []), (16, [])] hZ (by kernel_rfl) ?_
   refine x_pre (fuel := 4) [] [(7, true), (8, true), (9, true), (10, true), (11, true), (12, true), (14, true), (15, true)] (by kernel_rfl) rfl ?_
   refine hwp_o rfl (hwq_yes rfl rfl (g_nf rfl rfl (h_pf rfl rfl rfl rfl (h_mv rfl rfl rfl (h_no rfl rfl rfl rfl rfl (h_no rfl rfl rfl rfl rfl (h_no rfl rfl rfl rfl rfl (h_no rfl rfl rfl rfl rfl (h_no rfl rfl rfl rfl rfl (hwp_nilT ?_))))))))))
   refine x_one (i := 13) (by kernel_rfl) rfl ?_
   refine owp_no rfl rfl rfl rfl (x_go [(16, [])] ((St.refl nT _ _).lst [] (fun _ h => h.elim)) (by kernel_rfl) ?_)
   refine x_one (i := 16) (by kernel_rfl) rfl ?_
   refine owp_no rfl rfl rfl rfl (x_go [] ((St.refl nT _ _).lst [] (fun _ h => h.elim)) (by kernel_rfl) ?_)
   refine x_pre (fuel := 0) [] [(17, true), (18, true)] (by kernel_rfl) rfl ?_
   refine h_no rfl rfl rfl rfl rfl (h_pt rfl rfl rfl rfl (hwp_nilT ?_))
   refine x_nil (by kernel_rfl) ?_
   obtain rfl := sm hy44
   replace hB := (((hB.st S36).st S41).st S51).st S58
   replace h8 := h8.st S58
   replace h11 := h11.st S58
   replace h14 := h14.st S58
   replace h17 := h17.st S58
   replace h24 := h24.st S58
   replace h27 := h27.st S58
   replace h30 := h30.st S58
   replace h37 := h37.st S58
   replace h42 := h42.st S58
   exact ⟨(), _, ⟨rfl, rfl, rfl, trivial⟩, hB, h37, h8, h11, h14, h17, h42, h24, h27, h30⟩
  replace hy44 := iT hy44
  refine x_go [(13, []), (16, [])] hZ (by kernel_rfl) ?_
  refine x_pre (fuel := 4) [] [(7, true), (8, true), (9, true), (10, true), (11, true), (12, true), (14, true), (15, true)] (by kernel_rfl) rfl ?_
  refine hwp_o rfl (hwq_yes rfl rfl (g_nt rfl rfl (h_pf rfl rfl rfl rfl (h_mv rfl rfl rfl (hwp_o rfl (hwq_yes rfl rfl ?_))))))
  replace h42 := h42.st S58
  refine g_laB (hl := rfl) (hb := fun w' ⟨O', hq⟩ => ((h42.st hq (by decide)).1).cellsAt) rfl rfl ?_
  refine hwp_o rfl (hwq_yes rfl rfl (g_fa rfl rfl (hwp_o rfl (hwq_yes rfl rfl ?_))))
  replace h37 := h37.st S58
  refine g_ldC (hc := fun w' ⟨O', hq⟩ => Blk.cell (i := 2) ((h37.st hq (by decide)).1) rfl) rfl rfl ?_
  refine hwp_o rfl (hwq_yes rfl rfl (g_fa rfl rfl (hwp_o rfl (hwq_yes rfl rfl (g_ldC (hc := fun w' ⟨O', hq⟩ => Blk.cell (i := 2) ((h37.st hq (by decide)).1) rfl) rfl rfl ?_)))))
  refine hwp_nilT ?_
  refine x_one (i := 13) (by kernel_rfl) rfl ?_
  refine owp_yes rfl rfl ?_
  obtain ⟨q61, e62, hy44⟩ := bs hy44
  replace h14 := h14.st S58
  replace h24 := h24.st S58
  replace h27 := h27.st S58
  replace h30 := h30.st S58
  refine l_call (O := O57) (R := fun w' F v => Vb w' F v q61) (c_ref51_Facts Fr.lt (Vb.ofAgg (cs := [(.slice A25 x1.vars.length c26), (.slice A28 x1.vals.length c29), (.slice A31 x1.ops.length c32)]) (x := x1) rfl ⟨_, _, _, rfl, h24, h27, h30⟩) h14 e62) rfl rfl fun v67 w63 O64 S65 h66 => ?_
  obtain ⟨A68, c69, rfl⟩ := h66.form
  have hZ := S65.lst [] (fun _ h => h.elim)
  refine x_go [(16, [])] hZ (by kernel_rfl) ?_
  refine x_one (i := 16) (by kernel_rfl) rfl ?_
  refine owp_yes rfl rfl ?_
  obtain ⟨q70, e71, hy44⟩ := bs hy44
  replace h14 := h14.st S65
  refine l_callA (O := O64) (A := All w63) (R := fun w' F v => Vb w' F v q70) (c_base_Facts (fun _ h => h) (Vb.mono (F := Fr 0 w63 O64) h66 Fr.lt) (Vb.mono (F := Fr 0 w63 O64) h14 Fr.lt) e71) rfl rfl fun v76 w72 O73 S74 h75 => ?_
  obtain rfl := h75.bool
  have hZ := S74.lst [] (fun _ h => h.elim)
  cases q70
  case false =>
   replace hy44 := iF hy44
   refine x_go [] hZ (by kernel_rfl) ?_
   refine x_pre (fuel := 0) [] [(17, true), (18, true)] (by kernel_rfl) rfl ?_
   refine hwp_o rfl (hwq_yes rfl rfl (g_nf rfl rfl (h_pf rfl rfl rfl rfl (hwp_nilT ?_))))
   refine x_nil (by kernel_rfl) ?_
   obtain rfl := sm hy44
   replace hB := (((((hB.st S36).st S41).st S51).st S58).st S65).st S74
   replace h8 := ((h8.st S58).st S65).st S74
   replace h11 := ((h11.st S58).st S65).st S74
   replace h14 := h14.st S74
   replace h17 := ((h17.st S58).st S65).st S74
   replace h24 := (h24.st S65).st S74
   replace h27 := (h27.st S65).st S74
   replace h30 := (h30.st S65).st S74
   replace h37 := (h37.st S65).st S74
   replace h42 := (h42.st S65).st S74
   exact ⟨(), _, ⟨rfl, rfl, rfl, trivial⟩, hB, h37, h8, h11, h14, h17, h42, h24, h27, h30⟩
  replace hy44 := iT hy44
  refine x_go [] hZ (by kernel_rfl) ?_
  refine x_pre (fuel := 0) [] [(17, true), (18, true)] (by kernel_rfl) rfl ?_
  refine hwp_o rfl (hwq_yes rfl rfl (g_nt rfl rfl (h_pf rfl rfl rfl rfl (hwp_nilT ?_))))
  refine x_nil (by kernel_rfl) ?_
  obtain rfl := sm hy44
  replace hB := (((((hB.st S36).st S41).st S51).st S58).st S65).st S74
  replace h8 := ((h8.st S58).st S65).st S74
  replace h11 := ((h11.st S58).st S65).st S74
  replace h14 := h14.st S74
  replace h17 := ((h17.st S58).st S65).st S74
  replace h24 := (h24.st S65).st S74
  replace h27 := (h27.st S65).st S74
  replace h30 := (h30.st S65).st S74
  replace h37 := (h37.st S65).st S74
  replace h42 := (h42.st S65).st S74
  exact ⟨(), _, ⟨rfl, rfl, rfl, trivial⟩, hB, h37, h8, h11, h14, h17, h42, h24, h27, h30⟩
 replace hB := (hB.st S36).st S41
 replace h8 := (h8.st S36).st S41
 replace h11 := (h11.st S36).st S41
 replace h14 := (h14.st S36).st S41
 replace h17 := (h17.st S36).st S41
 replace h24 := (h24.st S36).st S41
 replace h27 := (h27.st S36).st S41
 replace h30 := (h30.st S36).st S41
 replace h37 := h37.st S41
 rintro l77 w78 ⟨x46, O79, hs80, hB, h37, h8, h11, h14, h17, h42, h24, h27, h30⟩
 refine ewp_sub _ hs80 ?_
 refine ewp_cond rfl (fun c81 => ?_) (fun c81 => ?_)
 ·
  replace hm := ip hm c81
  refine ewp_seq (ewp_region (o_as rfl rfl (o_z ?_)))
  refine ewp_ret ?_
  obtain rfl := sm hm
  exact ret1v rfl (res_tmp rfl) ⟨hB.ext, vBool⟩
 ·
  replace hm := im' hm c81
  refine ewp_skip (ewp_seq (ewp_seq (ewp_region (o_fa rfl rfl (o_ld (hc := Blk.cell (i := 3) (h37.1) rfl) rfl rfl ?_)))))
  refine o_ln rfl rfl ?_
  have l83 : x0.ops.length ≤ 9223372036854775807 := Nat.le_trans h17.len.2.1 h17.len.2.2
  have r82 : inI64 (x0.ops.length : Int) := rngNat l83
  refine o_mv rfl rfl (o_z ?_)
  obtain ⟨res84, hL85, hm⟩ := bs hm
  refine ewp_join (aft res84 (fun (s86 : Unit) (x87 : Unit) => []) (fun s86 x87 w' => ∃ O' : Lab, Bs w A w' O')) ?_ ?_
  ·
   refine ewp_block (ewp_rng (σ := Unit) (X := Unit) (x0.ops.length) hL85 rfl l83 (fun (s86 : Unit) (x87 : Unit) => [(2, (.pointer (some ⟨g33, 0, none⟩))), (3, (.pointer (some ⟨g38, 0, none⟩)))]) _ (fun s86 x87 w' => ∃ O' : Lab, Bs w A w' O' ∧ Lc 2 w' O' g33 26 [(.slice A9 x0.vars.length c10), (.slice A12 x0.init.length c13), (.slice A15 x0.goal.length c16), (.slice A18 x0.ops.length c19)] ∧ Vb w' (Fr 0 w' O') (.slice A9 x0.vars.length c10) x0.vars ∧ Vb w' (Fr 0 w' O') (.slice A12 x0.init.length c13) x0.init ∧ Vb w' (Fr 0 w' O') (.slice A15 x0.goal.length c16) x0.goal ∧ Vb w' (Fr 0 w' O') (.slice A18 x0.ops.length c19) x0.ops ∧ Lc 3 w' O' g38 29 [(.slice A25 x1.vars.length c26), (.slice A28 x1.vals.length c29), (.slice A31 x1.ops.length c32)] ∧ Vb w' (Fr 0 w' O') (.slice A25 x1.vars.length c26) x1.vars ∧ Vb w' (Fr 0 w' O') (.slice A28 x1.vals.length c29) x1.vals ∧ Vb w' (Fr 0 w' O') (.slice A31 x1.ops.length c32) x1.ops) _ () ⟨O79, hB, h37, h8, h11, h14, h17, h42, h24, h27, h30⟩ ⟨rfl, rfl, rfl, rfl, trivial⟩ (fun _ _ => ⟨rfl, rfl⟩) (fun _ _ => trivial) (fun _ _ _ ⟨O', hB, h37, h8, h11, h14, h17, h42, h24, h27, h30⟩ => ⟨O', hB⟩) ⟨rfl, rfl, rfl⟩ ⟨rfl, rfl⟩ ?_)
   rintro k88 a89 s86 x87 w90 cc92 hx93 ⟨O91, hB, h37, h8, h11, h14, h17, h42, h24, h27, h30⟩ hf94 hret95 hbrk96
   have rk88 : inI64 (k88 : Int) := rngK hx93 l83
   refine ewp_seq (ewp_region (o_mv rfl rfl (o_as rfl rfl (o_z ?_))))
   refine ewp_seq (ewp_drawX [(15, [])] O91 ?_)
   refine x_pre (fuel := 2) [] [(0, true), (1, true), (2, true), (3, true), (4, true), (5, true), (6, true), (7, true), (8, true), (9, true), (10, true), (11, true), (12, true), (13, true), (14, true)] (by kernel_rfl) rfl ?_
   refine h_laB (hl := rfl) (hb := fun w' ⟨O', hq⟩ => ((h42.st hq (by decide)).1).cellsAt) rfl rfl rfl ?_
   refine h_fa rfl rfl rfl (h_ldC (hc := fun w' ⟨O', hq⟩ => Blk.cell (i := 3) ((h37.st hq (by decide)).1) rfl) rfl rfl rfl ?_)
   refine h_mv rfl rfl rfl ?_
   obtain ⟨b99, o100, ce101, hA102, hF105, hl103, hd104, v106, v107, rfl, h108, h111, r114, z115⟩ := h17.elem hx93
   obtain ⟨A109, c110, rfl⟩ := h108.form
   obtain ⟨A112, c113, rfl⟩ := h111.form
   refine h_iaE (hA := hA102) (hj := rfl) (hlt := hl103) rfl rfl rfl rfl ?_
   refine h_laB (hl := rfl) (hb := fun w' ⟨O', hq⟩ => (cellsAt_agree (hq.agree (i := 0) (by decide)) hF105 hd104)) rfl rfl rfl ?_
   refine h_fa rfl rfl rfl (h_ldC (hc := fun w' ⟨O', hq⟩ => Blk.cell (i := 3) ((h37.st hq (by decide)).1) rfl) rfl rfl rfl ?_)
   refine h_fa rfl rfl rfl (h_ldC (hc := fun w' ⟨O', hq⟩ => Blk.cell (i := 2) ((h42.st hq (by decide)).1) rfl) rfl rfl rfl ?_)
   refine h_mv rfl rfl rfl ?_
   obtain ⟨a116, e117, hf94⟩ := bs hf94
   obtain ⟨b118, o119, ce120, hA121, hF124, hl122, hd123, rfl, r125⟩ := h30.elem e117
   refine h_iaE (hA := hA121) (hj := rfl) (hlt := hl122) rfl rfl rfl rfl ?_
   refine h_ldC (hc := fun w' ⟨O', hq⟩ => cat0 (cellsAt_agree (hq.agree (i := 0) (by decide)) hF124 hd123)) rfl rfl rfl ?_
   obtain ⟨a126, e127, hf94⟩ := bs hf94
   obtain ⟨p129, x128⟩ := atI_some' e127
   obtain ⟨b130, o131, ce132, hA133, hF136, hl134, hd135, v137, v138, rfl, h139, h142, r145, z146⟩ := h17.elem x128
   obtain ⟨A140, c141, rfl⟩ := h139.form
   obtain ⟨A143, c144, rfl⟩ := h142.form
   refine h_iaE (hA := hA133) (hj := (Int.toNat_of_nonneg p129).symm) (hlt := hl134) rfl rfl rfl rfl ?_
   refine h_laB (hl := rfl) (hb := fun w' ⟨O', hq⟩ => (cellsAt_agree (hq.agree (i := 0) (by decide)) hF136 hd135)) rfl rfl rfl ?_
   refine hwp_nilT ?_
   refine x_one (i := 15) (by kernel_rfl) rfl ?_
   obtain ⟨q147, e148, hf94⟩ := bs hf94
   refine l_callA (O := O91) (A := All w90) (R := fun w' F v => Vb w' F v q147) (c_ref51_fits (fun _ h => h) (Vb.mono (F := Fr 0 w90 O91) (Vb.ofAgg (cs := [(.slice A25 x1.vars.length c26), (.slice A28 x1.vals.length c29), (.slice A31 x1.ops.length c32)]) (x := x1) rfl ⟨_, _, _, rfl, h24, h27, h30⟩) Fr.lt) (Vb.mono (F := Fr 0 w90 O91) (Vb.ofAgg (cs := [(.string a89.name), (.int .i64 a89.cost), (.slice A109 a89.pre.length c110), (.slice A112 a89.effs.length c113)]) (x := a89) rfl ⟨_, _, rfl, h108, h111, r114, z115⟩) Fr.lt) (Vb.mono (F := Fr 0 w90 O91) (Vb.ofAgg (cs := [(.string a126.name), (.int .i64 a126.cost), (.slice A140 a126.pre.length c141), (.slice A143 a126.effs.length c144)]) (x := a126) rfl ⟨_, _, rfl, h139, h142, r145, z146⟩) Fr.lt) e148) rfl rfl fun v153 w149 O150 S151 h152 => ?_
   obtain rfl := h152.bool
   have hZ := S151.lst [] (fun _ h => h.elim)
   cases q147
   case false =>
    replace hf94 := iF hf94
    refine x_go [] hZ (by kernel_rfl) ?_
    refine x_pre (fuel := 0) [] [(16, true)] (by kernel_rfl) rfl ?_
    refine h_nf rfl rfl rfl (hwp_nilT ?_)
    refine x_nil (by kernel_rfl) ?_
    refine ewp_true rfl (ewp_seq (ewp_region (o_as rfl rfl (o_z ?_))))
    refine ewp_ret ?_
    obtain rfl := sm hf94
    obtain rfl := hret95 _ rfl
    obtain rfl := sm (fin_ret hm)
    replace hB := hB.st S151
    exact ret1v rfl (res_tmp rfl) ⟨hB.ext, vBool⟩
   replace hf94 := iT hf94
   refine x_go [] hZ (by kernel_rfl) ?_
   refine x_pre (fuel := 0) [] [(16, true)] (by kernel_rfl) rfl ?_
   refine h_nt rfl rfl rfl (hwp_nilT ?_)
   refine x_nil (by kernel_rfl) ?_
   refine ewp_false rfl (ewp_skip ?_)
   obtain rfl := sm hf94
   refine (?_ : Exists _)
   replace hB := hB.st S151
   replace h8 := h8.st S151
   replace h11 := h11.st S151
   replace h14 := h14.st S151
   replace h17 := h17.st S151
   replace h24 := h24.st S151
   replace h27 := h27.st S151
   replace h30 := h30.st S151
   replace h37 := h37.st S151
   replace h42 := h42.st S151
   exact ⟨_, (), rfl, ⟨rfl, rfl, rfl, rfl, trivial⟩, _, hB, h37, h8, h11, h14, h17, h42, h24, h27, h30⟩
  rintro l154 w155 ⟨s158, x159, rfl, hs157, O156, hB⟩
  replace hm := fin_done hm
  refine ewp_sub _ hs157 ?_
  refine ewp_seq (ewp_region (o_as rfl rfl (o_z ?_)))
  refine ewp_ret ?_
  obtain rfl := sm hm
  exact ret1v rfl (res_tmp rfl) ⟨hB.ext, vBool⟩
noncomputable def m_ref51_State (x0 : Swp) (x1 : List Int) : Option (List Int) :=
  bnd (mkI 8 (0 : Int) (x1.length : Int)) fun u25 => bnd (rng (ρ := (List Int)) (fun (k44 : Nat) (a45 : Int) (s42 : (List Int)) => bnd (x0.vars[k44]?) fun a59 => bnd (x0.vals[k44]?) fun a69 => bnd (atI a69 a45) fun a90 => bnd (atI s42 a59) fun a102 => some (.next (s42.set (a59 : Int).toNat a90))) x1 0 u25) fun res40 => fin res40 fun (s120 : (List Int)) => some s120
theorem c_ref51_State {w : World} {A : Nat → Prop} (hA : ∀ k, A k → k < w.heap.size) {vx0 : Value} {x0 : Swp} (hx0 : Vb w A vx0 x0) {vx1 : Value} {x1 : List Int} (hx1 : Vb w A vx1 x1) {r : (List Int)} (hm : m_ref51_State x0 x1 = some r) :
    Fn Try.prog 20 [vx0, vx1] w fun v w' => Ext w w' ∧ Vb w' (upA A w w') v r := by
 obtain ⟨O, hB, hA0⟩ := enter hA
 replace hx0 := hx0.mono hA0
 obtain ⟨cs3, rfl, v4, v5, v6, rfl, h7, h10, h13⟩ := hx0
 obtain ⟨A8, c9, rfl⟩ := h7.form
 obtain ⟨A11, c12, rfl⟩ := h10.form
 obtain ⟨A14, c15, rfl⟩ := h13.form
 replace hx1 := hx1.mono hA0
 obtain ⟨A16, c17, rfl⟩ := hx1.form
 refine fn_enter Try.func20 rfl Try.ntmps20 rfl ?_
 unfold m_ref51_State at hm
 refine ewp_seq (ewp_region (l_box 2 O rfl rfl fun g18 w19 O20 S21 h22 => ?_))
 replace h22 : Lc 2 w19 O20 g18 29 [(.slice A8 x0.vars.length c9), (.slice A11 x0.vals.length c12), (.slice A14 x0.ops.length c15)] := h22
 refine o_as rfl rfl (o_z ?_)
 refine ewp_seq (ewp_region (o_mv rfl rfl (o_ln rfl rfl ?_)))
 replace hx1 := hx1.st S21
 have l24 : x1.length ≤ 9223372036854775807 := Nat.le_trans hx1.len.2.1 hx1.len.2.2
 have r23 : inI64 (x1.length : Int) := rngNat l24
 obtain ⟨u25, e26, hm⟩ := bs hm
 obtain ⟨m27, e28, e29, e30, e31⟩ := mkI_some e26
 refine l_make 3 (by decide) O20 (z0 := (0 : Int)) rfl rfl rfl rfl rfl e28 (vInt (show inI64 0 from by decide)) e29 e30 rfl fun g32 w33 O34 S35 h36 => ?_
 rw [← e31] at h36 ⊢
 refine o_as rfl rfl (o_z ?_)
 refine ewp_seq (ewp_seq (ewp_region (o_mv rfl rfl (o_ln rfl rfl ?_))))
 replace hx1 := hx1.st S35
 have l39 : x1.length ≤ 9223372036854775807 := Nat.le_trans hx1.len.2.1 hx1.len.2.2
 have r38 : inI64 (x1.length : Int) := rngNat l39
 refine o_mv rfl rfl (o_z ?_)
 obtain ⟨res40, hL41, hm⟩ := bs hm
 refine ewp_join (aft res40 (fun (s42 : (List Int)) (x43 : Unit) => [(5, (.slice (some ⟨g32, 0, none⟩) u25.length m27))]) (fun s42 x43 w' => ∃ O' : Lab, Bs w A w' O' ∧ Rw 3 w' O' 3 (.slice (some ⟨g32, 0, none⟩) u25.length m27) s42)) ?_ ?_
 ·
  refine ewp_block ?_
  replace hB := (hB.st S21).st S35
  replace h7 := (h7.st S21).st S35
  replace h10 := (h10.st S21).st S35
  replace h13 := (h13.st S21).st S35
  replace h22 := h22.st S35
  refine ewp_rng (σ := (List Int)) (X := Unit) (x1.length) hL41 rfl l39 (fun (s42 : (List Int)) (x43 : Unit) => [(1, (.slice A16 x1.length c17)), (2, (.pointer (some ⟨g18, 0, none⟩))), (5, (.slice (some ⟨g32, 0, none⟩) u25.length m27))]) _ (fun s42 x43 w' => ∃ O' : Lab, Bs w A w' O' ∧ Vb w' (Fr 0 w' O') (.slice A16 x1.length c17) x1 ∧ Lc 2 w' O' g18 29 [(.slice A8 x0.vars.length c9), (.slice A11 x0.vals.length c12), (.slice A14 x0.ops.length c15)] ∧ Vb w' (Fr 0 w' O') (.slice A8 x0.vars.length c9) x0.vars ∧ Vb w' (Fr 0 w' O') (.slice A11 x0.vals.length c12) x0.vals ∧ Vb w' (Fr 0 w' O') (.slice A14 x0.ops.length c15) x0.ops ∧ Rw 3 w' O' 3 (.slice (some ⟨g32, 0, none⟩) u25.length m27) s42) _ () ⟨O34, hB, hx1, h22, h7, h10, h13, h36⟩ ⟨rfl, rfl, rfl, rfl, rfl, trivial⟩ (fun _ _ => ⟨rfl, rfl⟩) (fun _ _ => ⟨rfl, trivial⟩) (fun _ _ _ ⟨O', hB, hx1, h22, h7, h10, h13, h57⟩ => ⟨O', hB, h57⟩) ⟨rfl, rfl, rfl⟩ ⟨rfl, rfl⟩ ?_
  rintro k44 a45 s42 x43 w46 cc48 hx49 ⟨O47, hB, hx1, h22, h7, h10, h13, h57⟩ hf50 hret51 hbrk52
  have rk44 : inI64 (k44 : Int) := rngK hx49 l39
  refine ewp_seq (ewp_region (o_mv rfl rfl (o_as rfl rfl (o_z ?_))))
  refine ewp_drawX [] O47 ?_
  refine x_pre (fuel := 1) [] [(0, true), (1, true), (2, true), (3, true), (4, true), (5, true), (6, true), (7, true), (8, true), (9, true), (10, true), (11, true), (12, true), (13, true), (14, true), (15, true), (16, true), (17, true)] (by kernel_rfl) rfl ?_
  refine h_mv rfl rfl rfl (h_fa rfl rfl rfl (h_ldC (hc := fun w' ⟨O', hq⟩ => Blk.cell (i := 0) ((h22.st hq (by decide)).1) rfl) rfl rfl rfl ?_))
  refine h_mv rfl rfl rfl ?_
  obtain ⟨a59, e60, hf50⟩ := bs hf50
  obtain ⟨b61, o62, ce63, hA64, hF67, hl65, hd66, rfl, r68⟩ := h7.elem e60
  refine h_iaE (hA := hA64) (hj := rfl) (hlt := hl65) rfl rfl rfl rfl ?_
  refine h_ldC (hc := fun w' ⟨O', hq⟩ => cat0 (cellsAt_agree (hq.agree (i := 0) (by decide)) hF67 hd66)) rfl rfl rfl ?_
  refine h_fa rfl rfl rfl (h_ldC (hc := fun w' ⟨O', hq⟩ => Blk.cell (i := 1) ((h22.st hq (by decide)).1) rfl) rfl rfl rfl ?_)
  refine h_mv rfl rfl rfl ?_
  obtain ⟨a69, e70, hf50⟩ := bs hf50
  obtain ⟨b71, o72, ce73, hA74, hF77, hl75, hd76, v78, rfl, h79⟩ := h10.elem e70
  replace h79 := Vb.of_slice h79
  obtain ⟨A80, c81, rfl⟩ := h79.form
  refine h_iaE (hA := hA74) (hj := rfl) (hlt := hl75) rfl rfl rfl rfl ?_
  refine h_ldC (hc := fun w' ⟨O', hq⟩ => cat0 (cellsAt_agree (hq.agree (i := 0) (by decide)) hF77 hd76)) rfl rfl rfl ?_
  refine h_mv rfl rfl rfl (h_mv rfl rfl rfl ?_)
  obtain ⟨b82, o83, ce84, hA85, hF88, hl86, hd87, rfl, r89⟩ := hx1.elem hx49
  refine h_iaE (hA := hA85) (hj := rfl) (hlt := hl86) rfl rfl rfl rfl ?_
  refine h_ldC (hc := fun w' ⟨O', hq⟩ => cat0 (cellsAt_agree (hq.agree (i := 0) (by decide)) hF88 hd87)) rfl rfl rfl ?_
  obtain ⟨a90, e91, hf50⟩ := bs hf50
  obtain ⟨p93, x92⟩ := atI_some' e91
  obtain ⟨b94, o95, ce96, hA97, hF100, hl98, hd99, rfl, r101⟩ := h79.elem x92
  refine h_iaE (hA := hA97) (hj := (Int.toNat_of_nonneg p93).symm) (hlt := hl98) rfl rfl rfl rfl ?_
  refine h_ldC (hc := fun w' ⟨O', hq⟩ => cat0 (cellsAt_agree (hq.agree (i := 0) (by decide)) hF100 hd99)) rfl rfl rfl ?_
  obtain ⟨a102, e103, hf50⟩ := bs hf50
  obtain ⟨p105, x104⟩ := atI_some' e103
  obtain ⟨b106, o107, ce108, hA109, hF112, hl110, hd111, rfl, r113⟩ := h57.elemF x104
  refine h_iaE (hA := hA109) (hj := (Int.toNat_of_nonneg p105).symm) (hlt := hl110) rfl rfl rfl rfl ?_
  refine hwp_nilT ?_
  refine x_one (i := 18) (by kernel_rfl) rfl ?_
  refine l_setE rfl h57 (a := a90) (vInt r101) hA109 rfl rfl (lt_of_get x104) fun w114 S115 h57 => ?_
  refine x_end (by kernel_rfl) ?_
  refine x_nil (by kernel_rfl) ?_
  obtain rfl := sm hf50
  refine (?_ : Exists _)
  replace hB := hB.st S115
  replace hx1 := hx1.st S115
  replace h7 := h7.st S115
  replace h10 := h10.st S115
  replace h13 := h13.st S115
  replace h22 := h22.st S115
  exact ⟨_, (), rfl, ⟨rfl, rfl, rfl, rfl, rfl, trivial⟩, _, hB, hx1, h22, h7, h10, h13, h57⟩
 replace hB := (hB.st S21).st S35
 rintro l116 w117 ⟨s120, x121, rfl, hs119, O118, hB, h57⟩
 replace hm := fin_done hm
 refine ewp_sub _ hs119 ?_
 refine ewp_seq (ewp_region (o_mv rfl rfl (o_as rfl rfl (o_z ?_))))
 refine ewp_ret ?_
 obtain ⟨O122, S123, h57⟩ := h57.freeze
 obtain rfl := sm hm
 replace hB := hB.st S123
 exact ret1v rfl (res_tmp rfl) ⟨hB.ext, (Vb.mono (F := Fr 0 w117 O122) h57 hB.out)⟩
end
section
open Go Go.RowKit Go.ChangeShapes Go.WideShapes Go.Deep
instance : Reads Try.prog 27 (List (List Int)) := readsSlice Try.underlying27 c_ints (by decide)
instance : Reads Try.prog 29 Swp := ⟨fun {H enc w n cs x} h => by
  obtain ⟨hl, m, hf⟩ := readsField Try.underlying29 h
  obtain ⟨v0, v1, v2, rfl⟩ := len3 (hl.trans (by kernel_rfl : Try.prog.cellsOf 29 = 3))
  obtain ⟨x0, g0⟩ := hf 0 22 0 1 rfl (by kernel_rfl)
  replace g0 : DataW.trod enc Try.prog w 0 (fun _ => true) true m 22 [v0] = some x0 := g0
  obtain ⟨x1, g1⟩ := hf 1 27 1 1 rfl (by kernel_rfl)
  replace g1 : DataW.trod enc Try.prog w 0 (fun _ => true) true m 27 [v1] = some x1 := g1
  obtain ⟨x2, g2⟩ := hf 2 22 2 1 rfl (by kernel_rfl)
  replace g2 : DataW.trod enc Try.prog w 0 (fun _ => true) true m 22 [v2] = some x2 := g2
  obtain ⟨z0, q0⟩ := (inferInstance : Reads Try.prog 22 (List Int)).of g0
  obtain ⟨z1, q1⟩ := (inferInstance : Reads Try.prog 27 (List (List Int))).of g1
  obtain ⟨z2, q2⟩ := (inferInstance : Reads Try.prog 22 (List Int)).of g2
  exact ⟨⟨z0, z1, z2⟩, v0, v1, v2, rfl, q0, q1, q2⟩⟩
end
section
open Go.Shelf
def Try.laysS_f86_ren : Go.Shelf.Ren := ⟨fun | 6 => 86 | 15 => 82 | 14 => 104 | 28 => 101 | 29 => 102 | 20 => 110 | 21 => 111 | 22 => 112 | 23 => 113 | 24 => 114 | 25 => 115 | 26 => 116 | 27 => 117 | 46 => 119 | 47 => 106 | 48 => 107 | 49 => 120 | 50 => 121 | 57 => 122 | n => n, fun | 22 => 23 | 24 => 103 | 25 => 121 | 3 => 3 | 39 => 116 | 0 => 0 | 53 => 135 | 55 => 137 | 4 => 4 | 46 => 129 | 45 => 128 | 50 => 71 | 5 => 5 | 9 => 9 | 66 => 140 | 70 => 144 | 76 => 151 | 77 => 152 | n => n, fun | n => n⟩
theorem Try.laysS_f86 : Go.Proofs.SlLaysF0.n6 Try.prog Try.laysS_f86_ren := {
  mixed := by kernel_rfl
  f6 := ⟨Try.f86.name, by decide, Try.func86.trans (congrArg some (by kernel_rfl))⟩
  f14 := ⟨Try.f104.name, by decide, Try.func104.trans (congrArg some (by kernel_rfl))⟩
  f15 := Try.func82.trans (congrArg some (by kernel_rfl))
  f20 := ⟨Try.f110.name, by decide, Try.func110.trans (congrArg some (by kernel_rfl))⟩
  f21 := ⟨Try.f111.name, by decide, Try.func111.trans (congrArg some (by kernel_rfl))⟩
  f22 := ⟨Try.f112.name, by decide, Try.func112.trans (congrArg some (by kernel_rfl))⟩
  f23 := ⟨Try.f113.name, by decide, Try.func113.trans (congrArg some (by kernel_rfl))⟩
  f24 := ⟨Try.f114.name, by decide, Try.func114.trans (congrArg some (by kernel_rfl))⟩
  f25 := ⟨Try.f115.name, by decide, Try.func115.trans (congrArg some (by kernel_rfl))⟩
  f26 := ⟨Try.f116.name, by decide, Try.func116.trans (congrArg some (by kernel_rfl))⟩
  f27 := ⟨Try.f117.name, by decide, Try.func117.trans (congrArg some (by kernel_rfl))⟩
  f28 := Try.func101.trans (congrArg some (by kernel_rfl))
  f29 := Try.func102.trans (congrArg some (by kernel_rfl))
  f46 := ⟨Try.f119.name, by decide, Try.func119.trans (congrArg some (by kernel_rfl))⟩
  f47 := Try.func106.trans (congrArg some (by kernel_rfl))
  f48 := Try.func107.trans (congrArg some (by kernel_rfl))
  f49 := ⟨Try.f120.name, by decide, Try.func120.trans (congrArg some (by kernel_rfl))⟩
  f50 := ⟨Try.f121.name, by decide, Try.func121.trans (congrArg some (by kernel_rfl))⟩
  f57 := ⟨Try.f122.name, by decide, Try.func122.trans (congrArg some (by kernel_rfl))⟩
  t0 := Try.underlying0
  a0 := Try.isAgg0
  z0 := Try.sizeOf0
  v0 := Try.zeroValue0
  t3 := Try.underlying3
  a3 := Try.isAgg3
  z3 := Try.sizeOf3
  v3 := Try.zeroValue3
  t4 := Try.underlying4
  a4 := Try.isAgg4
  z4 := Try.sizeOf4
  v4 := Try.zeroValue4
  t5 := Try.underlying5
  a5 := Try.isAgg5
  z5 := Try.sizeOf5
  v5 := Try.zeroValue5
  t9 := Try.underlying9
  a9 := Try.isAgg9
  z9 := Try.sizeOf9
  v9 := Try.zeroValue9
  t22 := Try.underlying23
  a22 := Try.isAgg23
  z22 := Try.sizeOf23
  v22 := Try.zeroValue23
  t25 := Try.underlying121
  a25 := Try.isAgg121
  z25 := Try.sizeOf121
  v25 := Try.zeroValue121
  t39 := Try.underlying116
  a39 := Try.isAgg116
  z39 := Try.sizeOf116
  v39 := Try.zeroValue116
  t45 := Try.underlying128
  a45 := Try.isAgg128
  z45 := Try.sizeOf128
  v45 := Try.zeroValue128
  t46 := Try.underlying129
  a46 := Try.isAgg129
  z46 := Try.sizeOf129
  v46 := Try.zeroValue129
  t50 := Try.underlying71
  a50 := Try.isAgg71
  z50 := Try.sizeOf71
  v50 := Try.zeroValue71
  t53 := Try.underlying135
  a53 := Try.isAgg135
  z53 := Try.sizeOf135
  v53 := Try.zeroValue135
  t55 := Try.underlying137
  a55 := Try.isAgg137
  z55 := Try.sizeOf137
  v55 := Try.zeroValue137
  t66 := Try.underlying140
  a66 := Try.isAgg140
  z66 := Try.sizeOf140
  v66 := Try.zeroValue140
  t70 := Try.underlying144
  a70 := Try.isAgg144
  z70 := Try.sizeOf144
  v70 := Try.zeroValue144
  t76 := Try.underlying151
  a76 := Try.isAgg151
  z76 := Try.sizeOf151
  v76 := Try.zeroValue151
  t77 := Try.underlying152
  a77 := Try.isAgg152
  z77 := Try.sizeOf152
  v77 := Try.zeroValue152 }
open Go.RowKit Go.Lib Go.Sort in
theorem Try.sortF_eq {α : Type} [Inhabited α] (k : Nat) (aE : ∀ w, (isAgg 103).run Try.prog w = .ok true w) (zE : ∀ w, (Go.sizeOf 103).run Try.prog w = .ok k w) (enc : α → List Value) (hk : ∀ x, (enc x).length = k) (h1 : ∀ x, ∀ v ∈ enc x, v.oneCell' = true) (cf : α → α → Int) (hO : SWO (ltOf cf)) (g : Nat) (cb : Array Value) (blk off cap : Nat) (d : Array α) (w : World) (eg : ∀ args w, (callFunc g args).run Try.prog w = .ok (.enter g args) w) (hcmp : CmpLays Try.prog g cb enc k cf blk off d.size w) (hH : HoldsK enc k w blk off d) (hblk : blk < w.heap.size) (hsz : d.size < 4611686018427387904) :
    Calls Try.prog 86 #[.slice (some ⟨blk, off, none⟩) d.size cap, .func (.func g) #[] cb] w fun e w' =>
      e = .returned (.tuple #[]) ∧ ∃ n os, w' = sortWorldK enc k w blk off n (pdq (ltOf cf) d 0 d.size (Lib.bitLen d.size) true true) os := AnyQ.slices_SortFunc_eq Try.laysS_f86 k aE zE enc hk h1 cf hO g cb blk off cap d w eg hcmp hH hblk hsz
open Go.RowKit Go.Lib Go.Sort in
theorem Try.sortF_none {α : Type} [Inhabited α] (p : Option Addr) (cap : Nat) (fv : Value) (w : World) :
    Calls Try.prog 86 #[.slice p 0 cap, fv] w fun e w' => e = .returned (.tuple #[]) ∧ w' = w := AnyF.slices_SortFunc_none Try.laysS_f86 p cap fv w
end
section
open Go Go.RowKit Go.Lib Go.Sort
instance : Inhabited Fct := ⟨⟨0, 0⟩⟩
def encF (x : Fct) : List Value := [.int .i64 x.var, .int .i64 x.val]
def cfF (x y : Fct) : Int := Lib.compareInt x.var y.var
theorem ltF (x y : Fct) : ltOf cfF x y = decide (x.var < y.var) := by
  unfold ltOf cfF Lib.compareInt
  by_cases h : x.var < y.var
  · simp [h]
  · by_cases h2 : y.var < x.var <;> simp [h, h2]
theorem swoF : SWO (ltOf cfF) where
  irrefl x := by rw [ltF]; simp
  trans x y z h1 h2 := by rw [ltF] at *; simp at *; omega
  ntrans x y z h1 h2 := by rw [ltF] at *; simp at *; omega
theorem compareI (a b : Int) (W : World) : Calls Try.prog 80 #[.int .i64 a, .int .i64 b] W fun e w' => e = .returned (.int .i64 (Lib.compareInt a b)) ∧ w' = W := by
  go_enter Try.func80, Try.ntmps80
  go_wp2
  · go_ret
    have h : a < b := by assumption
    exact ⟨by simp [Lib.compareInt, h], rfl⟩
  · go_ret
    have h : b < a := by assumption
    have h2 : ¬ a < b := by omega
    exact ⟨by simp [Lib.compareInt, h, h2], rfl⟩
  · go_ret
    have h1 : b ≤ a := by assumption
    have h2 : a ≤ b := by assumption
    have h3 : ¬ a < b := by omega
    have h4 : ¬ b < a := by omega
    exact ⟨by simp [Lib.compareInt, h3, h4], rfl⟩
theorem closureF (x y : Fct) (W : World) : Calls Try.prog 87 #[.agg #[.int .i64 x.var, .int .i64 x.val], .agg #[.int .i64 y.var, .int .i64 y.val]] W fun e w' => e = .returned (.int .i64 (cfF x y)) ∧ ∃ q os', w' = grow (W.drewN q) os' := by
  have hcon := fun W' => compareI x.var y.var W'
  unfold cfF
  generalize Lib.compareInt x.var y.var = r at hcon ⊢
  go_enter Try.func87, Try.ntmps87
  go_wp2_with (go_at_call 80; refine (hcon _).mono ?_; rintro e w' ⟨rfl, rfl⟩)
  go_ret
  exact ⟨rfl, 0, _, by rw [alloc_eq_grow, alloc_eq_grow, grow_grow]; rfl⟩
theorem cmpLaysF (blk off size : Nat) (w : World) : CmpLays Try.prog 87 #[] encF 2 cfF blk off size w := fun _ _ _ _ x y => closureF x y _
/-- Facts, sorted by the variable, as the library does it. -/
def srt_symmetry_mapped_l1 (xs : List Fct) : List Fct := (pdq (ltOf cfF) xs.toArray 0 xs.length (Lib.bitLen xs.length) true true).toList
theorem srtF_in (xs : List Fct) : PermIn 0 xs.toArray.size xs.toArray (srt_symmetry_mapped_l1 xs).toArray ∧ SortedIn (ltOf cfF) 0 xs.toArray.size (srt_symmetry_mapped_l1 xs).toArray := by
  have := pdq_sorts (ltOf cfF) swoF xs.toArray 0 xs.toArray.size (Lib.bitLen xs.length) true true (Nat.zero_le _) (Nat.le_refl _) (Or.inl rfl)
  simpa [srt_symmetry_mapped_l1] using this
theorem srtF_perm (xs : List Fct) : (srt_symmetry_mapped_l1 xs).Perm xs := by
  obtain ⟨⟨hsz, _, hperm⟩, _⟩ := srtF_in xs
  have e1 : (srt_symmetry_mapped_l1 xs).toArray.extract 0 xs.toArray.size = (srt_symmetry_mapped_l1 xs).toArray := by rw [← hsz]; exact Array.extract_size
  rw [e1, Array.extract_size] at hperm
  simpa using hperm
theorem srt_symmetry_mapped_l1_len (xs : List Fct) : (srt_symmetry_mapped_l1 xs).length = xs.length := (srtF_perm xs).length_eq
theorem srtF_sorted (xs : List Fct) : (srt_symmetry_mapped_l1 xs).Pairwise fun x y => x.var ≤ y.var := by
  obtain ⟨_, hs⟩ := srtF_in xs
  have hl := srt_symmetry_mapped_l1_len xs
  rw [List.pairwise_iff_getElem]
  intro i j hi hj hij
  have := hs i j (Nat.zero_le _) hij (by simp; omega)
  rw [getElem!_pos _ j (by simpa using hj), getElem!_pos _ i (by simpa using hi), ltF] at this
  simpa using this
theorem flatF : ∀ (xs : List Fct), (flatK encF 2 xs.toArray).toList = xs.flatMap encF := fun xs => by
  apply List.ext_getElem?
  intro t
  have key : ∀ (l : List Fct) (t : Nat), (l.flatMap encF)[t]? = (l[t / 2]?).bind fun x => (encF x)[t % 2]? := by
    intro l
    induction l with
    | nil => intro t; simp
    | cons x l ih =>
      intro t
      rw [List.flatMap_cons]
      match t with
      | 0 => rfl
      | 1 => rfl
      | t + 2 =>
        rw [List.getElem?_append_right (by simp [encF]), show t + 2 - (encF x).length = t from by simp [encF], ih]
        rw [show (t + 2) / 2 = t / 2 + 1 from by omega, show (t + 2) % 2 = t % 2 from by omega]
        simp
  rw [key]
  by_cases ht : t < xs.length * 2
  · have h1 : t / 2 < xs.length := by omega
    have hsz : t < (flatK encF 2 xs.toArray).size := by simpa using ht
    rw [Array.getElem?_toList, Array.getElem?_eq_getElem hsz, List.getElem?_eq_getElem h1, Option.bind_some]
    have := get_flatK encF 2 xs.toArray t (by simpa using ht)
    rw [getElem!_pos (flatK encF 2 xs.toArray) t hsz, getElem!_pos xs.toArray (t / 2) (by simpa using h1)] at this
    rw [this]
    have h2 : t % 2 < (encF xs[t / 2]).length := by simp [encF]; omega
    rw [List.getElem?_eq_getElem h2, List.getElem_toArray, getElem!_pos (encF xs[t / 2]) (t % 2) h2]
  · have h1 : (flatK encF 2 xs.toArray).size ≤ t := by rw [size_flatK]; simpa using (by omega : xs.length * 2 ≤ t)
    have h2 : xs[t / 2]? = none := List.getElem?_eq_none (by omega)
    rw [Array.getElem?_toList, Array.getElem?_eq_none h1, h2]
    rfl
theorem chunksF_eq {w : World} {F : Nat → Prop} : ∀ {xs : List Fct} {cells : List Value}, Chunks w F cells xs → cells = xs.flatMap encF ∧ ∀ x ∈ xs, inI64 x.var ∧ inI64 x.val
  | [], _, h => ⟨h, fun _ hx => by simp at hx⟩
  | x :: xs, cells, ⟨cs, rest, he, hr, hc⟩ => by
    obtain ⟨h1, h2⟩ := chunksF_eq hc
    obtain ⟨h3, h4⟩ := hr
    refine ⟨by rw [he, h3, h1]; rfl, fun y hy => ?_⟩
    rcases List.mem_cons.1 hy with rfl | hy
    · exact h4
    · exact h2 y hy
theorem chunksF_mk {w : World} {F : Nat → Prop} : ∀ {xs : List Fct}, (∀ x ∈ xs, inI64 x.var ∧ inI64 x.val) → Chunks w F (xs.flatMap encF) xs
  | [], _ => rfl
  | x :: xs, h => ⟨encF x, xs.flatMap encF, rfl, ⟨rfl, h x (by simp)⟩, chunksF_mk fun y hy => h y (by simp [hy])⟩
theorem flatF_len (xs : List Fct) : (xs.flatMap encF).length = xs.length * 2 := by rw [← flatF, Array.length_toList, size_flatK]; simp
theorem s_symmetry_mapped_l1 {i : Nat} {w : World} {O : Lab} {v : Value} {xs : List Fct} (hR : Rw i w O 103 v xs) (hl : xs.length < 4611686018427387904) :
    Fn Try.prog 86 [v, .func (.func 87) #[] #[]] w fun _ w' => ∃ O', St (eT i) w O w' O' ∧ Rw i w' O' 103 v (srt_symmetry_mapped_l1 xs) := by
  intro d
  rcases Nat.eq_zero_or_pos xs.length with h0 | h0
  · have hx : xs = [] := List.eq_nil_of_length_eq_zero h0
    subst hx
    obtain ⟨p, c, rfl⟩ := hR.form
    have hs : srt_symmetry_mapped_l1 [] = [] := List.eq_nil_of_length_eq_zero (srt_symmetry_mapped_l1_len [])
    exact (Try.sortF_none (α := Fct) p c _ (dr w d)).mono fun e w' ⟨he, hw⟩ => ⟨_, w, d, he, hw, O, St.refl _ _ _, by rw [hs]; exact hR⟩
  · obtain ⟨g, cap, cells, sp, rfl, hg, hFg, hb, hc, hlen, hnc, hcm, htot⟩ := hR.1.open h0
    obtain ⟨rfl, hin⟩ := chunksF_eq hc
    have hfl := flatF xs
    have hH : HoldsK encF 2 (dr w d) g 0 xs.toArray := fun j hj => by
      have hj' : j < xs.length * 2 := by simpa using hj
      refine ⟨?_, by rw [Nat.zero_add]; exact hb.frozen j⟩
      rw [Nat.zero_add]
      refine hb.cell ?_
      rw [List.getElem?_append_left (by rw [flatF_len]; exact hj'), ← hfl, Array.getElem?_toList, Array.getElem?_eq_getElem hj, getElem!_pos _ j hj]
      rfl
    have aE : ∀ w, (isAgg 103).run Try.prog w = .ok true w := fun w => run_isAgg_yes w
    have zE : ∀ w, (Go.sizeOf 103).run Try.prog w = .ok 2 w := fun w => run_sizeOf w
    have eg : ∀ args w, (callFunc 87 args).run Try.prog w = .ok (.enter 87 args) w := enters_of Try.func87 (by kernel_rfl) rfl
    have hcall := Try.sortF_eq 2 aE zE encF (fun _ => rfl) (fun x v hv => by simp [encF] at hv; rcases hv with rfl | rfl <;> rfl) cfF swoF 87 #[] g 0 cap xs.toArray (dr w d) eg (cmpLaysF g 0 _ _) hH hb.lt (by simpa using hl)
    have e1 : xs.toArray.size = xs.length := by simp
    rw [e1] at hcall
    refine hcall.mono fun e w' ⟨he, n, os, hw⟩ => ⟨_, w', w'.drawn, he, rfl, upO O w.heap.size (fun _ => 0), ?_, ?_⟩
    · subst hw
      refine ⟨rfl, rfl, rfl, ?_, fun k hk hne => ⟨?_, upO_old hk⟩⟩
      · show w.heap.size ≤ ((w.heap.modify g _) ++ os).size
        simp
      · have hkg : g ≠ k := fun e => hne (by rw [← e]; exact hR.2.1 g rfl)
        show ((w.heap.modify g _) ++ os)[k]? = _
        rw [Array.getElem?_append_left (by simpa using hk), Array.getElem?_modify, if_neg hkg]
    · have hpd : pdq (ltOf cfF) xs.toArray 0 xs.length (Lib.bitLen xs.length) true true = (srt_symmetry_mapped_l1 xs).toArray := by simp [srt_symmetry_mapped_l1]
      rw [hpd] at hw
      have hsl := srt_symmetry_mapped_l1_len xs
      have hf2 := flatF (srt_symmetry_mapped_l1 xs)
      have hblk : Blk w' g 103 ((srt_symmetry_mapped_l1 xs).flatMap encF ++ sp) := by
        subst hw
        unfold Blk at hb ⊢
        have hsz : g < w.heap.size := Blk.lt hb
        show ((w.heap.modify g _) ++ os)[g]? = _
        rw [Array.getElem?_append_left (by simpa using hsz), Array.getElem?_modify, if_pos rfl, hb]
        simp only [Option.map_some, Go.Sort.onCells]
        congr 2
        apply Array.ext
        · simp only [Go.Sort.putCells, Array.size_mapIdx, List.size_toArray, List.length_append, flatF_len, hsl]
        · intro i h1 h2
          simp only [Go.Sort.putCells, Array.getElem_mapIdx, Nat.zero_add, Nat.sub_zero, Nat.zero_le, true_and]
          have e2 : (flatK encF 2 (srt_symmetry_mapped_l1 xs).toArray).size = xs.length * 2 := by rw [size_flatK]; simp [hsl]
          by_cases hi : i < xs.length * 2
          · rw [if_pos (by rw [e2]; exact hi)]
            simp only [List.getElem_toArray]
            rw [List.getElem_append_left (by rw [flatF_len, hsl]; exact hi)]
            rw [getElem!_pos _ _ (by rw [e2]; exact hi)]
            have := congrArg (·[i]?) hf2
            simp only [Array.getElem?_toList] at this
            rw [Array.getElem?_eq_getElem (by rw [e2]; exact hi), List.getElem?_eq_getElem (by rw [flatF_len, hsl]; exact hi)] at this
            exact Option.some.inj this
          · rw [if_neg (by rw [e2]; exact hi)]
            simp only [List.getElem_toArray]
            rw [List.getElem_append_right (by rw [flatF_len]; omega), List.getElem_append_right (by rw [flatF_len, hsl]; omega)]
            simp only [flatF_len, hsl]
      have hS : ∀ k, Fr 0 w O k → Fr 0 w' (upO O w.heap.size fun _ => 0) k := fun k hk => ⟨by subst hw; show k < ((w.heap.modify g _) ++ os).size; have := hk.1; simp; omega, (upO_old hk.1).trans hk.2⟩
      have := Own.close (w := w') (base := 0) (F := Fr 0 w O) (cap := cap) (Nat.zero_le _) hFg hblk (chunksF_mk (F := Fr 0 w O) (w := w') fun x hx => hin x ((srtF_perm xs).mem_iff.1 hx)) (by rw [hsl]; exact hnc) hcm (by rw [List.length_append, flatF_len] at htot ⊢; rw [hsl]; exact htot)
      rw [hsl] at this
      exact this.rw hS (fun g' hg' => by
        have : g = g' := by simpa [Value.ownBlock] using hg'
        subst this
        exact (upO_old hb.lt).trans (hR.2.1 g rfl)) hR.2.2
end
end Go.Proofs.Ytdhaelekmjgbmaa

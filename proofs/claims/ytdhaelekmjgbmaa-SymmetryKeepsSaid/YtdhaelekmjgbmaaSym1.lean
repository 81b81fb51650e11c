/- Own text: the planner's other structs as plain data; models of functions of chapter 51 and their proofs (written by gen2.py). -/
import Derived.Test.YtdhaelekmjgbmaaW0
namespace Go.Proofs.Ytdhaelekmjgbmaa
open Go Go.RowKit
attribute [local irreducible] ewp owp hwp hwq hws Ev Evg Fn retPost loud loudS Res1
structure Swp where
  vars : List Int
  vals : List (List Int)
  ops : List Int
instance : Rp Swp where
  isAgg := true
  size := 3
  R w F cs x := ∃ v0 v1 v2, cs = [v0, v1, v2] ∧ Vb w F v0 x.vars ∧ Vb w F v1 x.vals ∧ Vb w F v2 x.ops
  len := by rintro w F cs x ⟨v0, v1, v2, rfl, h0, h1, h2⟩; rfl
  one := by rintro w F cs x ⟨v0, v1, v2, rfl, h0, h1, h2⟩ u hu; simp at hu; rcases hu with rfl | rfl | rfl <;> first | rfl | exact Vb.one rfl (by assumption)
  agree := by rintro w w' F cs x ⟨v0, v1, v2, rfl, h0, h1, h2⟩ ha; exact ⟨v0, v1, v2, rfl, h0.agree ha, h1.agree ha, h2.agree ha⟩
  mono := by rintro w F G cs x ⟨v0, v1, v2, rfl, h0, h1, h2⟩ ha; exact ⟨v0, v1, v2, rfl, h0.mono ha, h1.mono ha, h2.mono ha⟩
noncomputable def m_slices_Equal_Lapi_Fact_api_Fact (x0 : List Fct) (x1 : List Fct) : Option Bool :=
  if (x0.length : Int) ≠ (x1.length : Int) then (some false) else (bnd (rng (ρ := Bool) (fun (k16 : Nat) (a17 : Fct) (s14 : Unit) => bnd (x1[k16]?) fun a36 => if ¬ (a17.var = a36.var ∧ a17.val = a36.val) then (some (.ret false)) else (some (.next ()))) x0 0 ()) fun res12 => fin res12 fun (s52 : Unit) => some true)
theorem c_slices_Equal_Lapi_Fact_api_Fact {w : World} {A : Nat → Prop} (hA : ∀ k, A k → k < w.heap.size) {vx0 : Value} {x0 : List Fct} (hx0 : Vb w A vx0 x0) {vx1 : Value} {x1 : List Fct} (hx1 : Vb w A vx1 x1) {r : Bool} (hm : m_slices_Equal_Lapi_Fact_api_Fact x0 x1 = some r) :
    Fn Try.prog 71 [vx0, vx1] w fun v w' => Ext w w' ∧ Vb w' (upA A w w') v r := by
  obtain ⟨O, hB, hA0⟩ := enter hA
  replace hx0 := hx0.mono hA0
  obtain ⟨A1, c2, rfl⟩ := hx0.form
  replace hx1 := hx1.mono hA0
  obtain ⟨A3, c4, rfl⟩ := hx1.form
  refine fn_enter Try.func71 rfl Try.ntmps71 rfl ?_
  unfold m_slices_Equal_Lapi_Fact_api_Fact at hm
  refine ewp_seq ?_
  refine ewp_region ?_
  refine o_as rfl rfl  ?_
  (first | refine owp_nilT ?_ | refine owp_nilB ?_ | refine owp_nilBB ?_ | refine owp_nil ?_)
  refine ewp_seq ?_
  refine ewp_seq ?_
  refine ewp_region ?_
  refine o_mv rfl rfl  ?_
  refine o_ln rfl rfl  ?_
  have l6 : x0.length ≤ 9223372036854775807 := Nat.le_trans hx0.len.2.1 hx0.len.2.2
  have r5 : inI64 (x0.length : Int) := rngNat l6
  refine o_mv rfl rfl  ?_
  refine o_ln rfl rfl  ?_
  have l8 : x1.length ≤ 9223372036854775807 := Nat.le_trans hx1.len.2.1 hx1.len.2.2
  have r7 : inI64 (x1.length : Int) := rngNat l8
  refine o_neS rfl rfl rfl (fun c9 => ?_) fun c9 => ?_
  · replace hm := ip hm c9
    (first | refine owp_nilT ?_ | refine owp_nilB ?_ | refine owp_nilBB ?_ | refine owp_nil ?_)
    refine ewp_true rfl ?_
    refine ewp_seq ?_
    refine ewp_region ?_
    refine o_as rfl rfl  ?_
    (first | refine owp_nilT ?_ | refine owp_nilB ?_ | refine owp_nilBB ?_ | refine owp_nil ?_)
    refine ewp_ret ?_
    obtain rfl := sm hm
    exact ret1v rfl (res_tmp rfl) ⟨hB.ext, vBool⟩
  · replace hm := im hm c9
    (first | refine owp_nilT ?_ | refine owp_nilB ?_ | refine owp_nilBB ?_ | refine owp_nil ?_)
    refine ewp_false rfl ?_
    refine ewp_skip ?_
    refine ewp_seq ?_
    refine ewp_seq ?_
    refine ewp_region ?_
    refine o_mv rfl rfl  ?_
    refine o_ln rfl rfl  ?_
    have l11 : x0.length ≤ 9223372036854775807 := Nat.le_trans hx0.len.2.1 hx0.len.2.2
    have r10 : inI64 (x0.length : Int) := rngNat l11
    refine o_mv rfl rfl  ?_
    (first | refine owp_nilT ?_ | refine owp_nilB ?_ | refine owp_nilBB ?_ | refine owp_nil ?_)
    obtain ⟨res12, hL13, hm⟩ := bs hm
    refine ewp_join (aft res12 (fun (s14 : Unit) (x15 : Unit) => []) (fun s14 x15 w' => ∃ O' : Lab, Bs w A w' O')) ?_ ?_
    · refine ewp_block ?_
      refine ewp_rng (σ := Unit) (X := Unit) (x0.length) hL13 rfl l11 (fun (s14 : Unit) (x15 : Unit) => [(0, (.slice A1 x0.length c2)), (1, (.slice A3 x1.length c4))]) _ (fun s14 x15 w' => ∃ O' : Lab, Bs w A w' O' ∧ Vb w' (Fr 0 w' O') (.slice A1 x0.length c2) x0 ∧ Vb w' (Fr 0 w' O') (.slice A3 x1.length c4) x1) _ () ⟨O, hB, hx0, hx1⟩ ⟨rfl, rfl, rfl, rfl, trivial⟩ (fun _ _ => ⟨rfl, rfl⟩) (fun _ _ => trivial) (fun _ _ _ ⟨O', hB, hx0, hx1⟩ => ⟨O', hB⟩) ⟨rfl, rfl, rfl⟩ ⟨rfl, rfl⟩ ?_
      rintro k16 a17 s14 x15 w18 cc20 hx21 ⟨O19, hB, hx0, hx1⟩ hf22 hret23 hbrk24
      have rk16 : inI64 (k16 : Int) := rngK hx21 l11
      refine ewp_seq ?_
      refine ewp_region ?_
      refine o_mv rfl rfl  ?_
      refine o_as rfl rfl  ?_
      (first | refine owp_nilT ?_ | refine owp_nilB ?_ | refine owp_nilBB ?_ | refine owp_nil ?_)
      refine ewp_seq ?_
      refine ewp_draw (· = w18) [(0, true), (1, true), (2, true), (3, true), (4, true), (5, true), (6, true), (7, true), (8, true)] (by kernel_rfl) rfl (by kernel_rfl) rfl ?_
      refine h_mv rfl rfl rfl  ?_
      refine h_mv rfl rfl rfl  ?_
      obtain ⟨b27, o28, ce29, hA30, hl31, hd32, rfl, r34, r35⟩ := hx0.elem' hx21
      refine h_iaE (hA := hA30) (hj := rfl) (hlt := hl31) rfl rfl rfl rfl  ?_
      refine h_laA (hl := rfl) (hc := hd32) rfl rfl rfl  ?_
      refine h_mv rfl rfl rfl  ?_
      refine h_mv rfl rfl rfl  ?_
      obtain ⟨a36, e37, hf22⟩ := bs hf22
      obtain ⟨b38, o39, ce40, hA41, hl42, hd43, rfl, r45, r46⟩ := hx1.elem' e37
      refine h_iaE (hA := hA41) (hj := rfl) (hlt := hl42) rfl rfl rfl rfl  ?_
      refine h_laA (hl := rfl) (hc := hd43) rfl rfl rfl  ?_
      refine h_fnS rfl rfl rfl rfl (fun c47 => ?_) fun c47 => ?_
      · replace hf22 := ip hf22 c47
        (first | refine hwp_nilT ?_ | refine hwp_nilB ?_ | refine hwp_nil ?_)
        refine ewp_true rfl ?_
        refine ewp_seq ?_
        refine ewp_region ?_
        refine o_as rfl rfl  ?_
        (first | refine owp_nilT ?_ | refine owp_nilB ?_ | refine owp_nilBB ?_ | refine owp_nil ?_)
        refine ewp_ret ?_
        obtain rfl := sm hf22
        obtain rfl := hret23 _ rfl
        obtain rfl := sm (fin_ret hm)
        exact ret1v rfl (res_tmp rfl) ⟨hB.ext, vBool⟩
      · replace hf22 := im hf22 c47
        (first | refine hwp_nilT ?_ | refine hwp_nilB ?_ | refine hwp_nil ?_)
        refine ewp_false rfl ?_
        refine ewp_skip ?_
        obtain rfl := sm hf22
        refine (?_ : Exists _)
        exact ⟨_, (), rfl, ⟨rfl, rfl, rfl, rfl, trivial⟩, _, hB, hx0, hx1⟩
    rintro l48 w49 ⟨s52, x53, rfl, hs51, O50, hB⟩
    replace hm := fin_done hm
    refine ewp_sub _ hs51 ?_
    refine ewp_seq ?_
    refine ewp_region ?_
    refine o_as rfl rfl  ?_
    (first | refine owp_nilT ?_ | refine owp_nilB ?_ | refine owp_nilBB ?_ | refine owp_nil ?_)
    refine ewp_ret ?_
    obtain rfl := sm hm
    exact ret1v rfl (res_tmp rfl) ⟨hB.ext, vBool⟩
noncomputable def m_symmetry_permutation (x0 : List Int) (x1 : Int) : Option Bool :=
  if (x0.length : Int) ≠ x1 then (some false) else (bnd (mkI 1 (false : Bool) x1) fun u6 => bnd (rng (ρ := Bool) (fun (k25 : Nat) (a26 : Int) (s23 : (List Bool)) => bnd (if a26 < 0 then (some true) else (if x1 ≤ a26 then (some true) else (bnd (atI s23 a26) fun a54 => some a54)) : Option Bool) fun y48 => if y48 = true then (some (.ret false)) else (bnd (atI s23 a26) fun a70 => some (.next (s23.set (a26).toNat true)))) x0 0 u6) fun res21 => fin res21 fun (s87 : (List Bool)) => some true)
theorem c_symmetry_permutation {w : World} {A : Nat → Prop} (hA : ∀ k, A k → k < w.heap.size) {vx0 : Value} {x0 : List Int} (hx0 : Vb w A vx0 x0) {x1 : Int} (rx1 : inI64 x1) {r : Bool} (hm : m_symmetry_permutation x0 x1 = some r) :
    Fn Try.prog 70 [vx0, (.int .i64 x1)] w fun v w' => Ext w w' ∧ Vb w' (upA A w w') v r := by
  obtain ⟨O, hB, hA0⟩ := enter hA
  replace hx0 := hx0.mono hA0
  obtain ⟨A1, c2, rfl⟩ := hx0.form
  refine fn_enter Try.func70 rfl Try.ntmps70 rfl ?_
  unfold m_symmetry_permutation at hm
  refine ewp_seq ?_
  refine ewp_region ?_
  refine o_as rfl rfl  ?_
  (first | refine owp_nilT ?_ | refine owp_nilB ?_ | refine owp_nilBB ?_ | refine owp_nil ?_)
  refine ewp_seq ?_
  refine ewp_seq ?_
  refine ewp_region ?_
  refine o_mv rfl rfl  ?_
  refine o_ln rfl rfl  ?_
  have l4 : x0.length ≤ 9223372036854775807 := Nat.le_trans hx0.len.2.1 hx0.len.2.2
  have r3 : inI64 (x0.length : Int) := rngNat l4
  refine o_mv rfl rfl  ?_
  refine o_neS rfl rfl rfl (fun c5 => ?_) fun c5 => ?_
  · replace hm := ip hm c5
    (first | refine owp_nilT ?_ | refine owp_nilB ?_ | refine owp_nilBB ?_ | refine owp_nil ?_)
    refine ewp_true rfl ?_
    refine ewp_seq ?_
    refine ewp_region ?_
    refine o_as rfl rfl  ?_
    (first | refine owp_nilT ?_ | refine owp_nilB ?_ | refine owp_nilBB ?_ | refine owp_nil ?_)
    refine ewp_ret ?_
    obtain rfl := sm hm
    exact ret1v rfl (res_tmp rfl) ⟨hB.ext, vBool⟩
  · replace hm := im hm c5
    (first | refine owp_nilT ?_ | refine owp_nilB ?_ | refine owp_nilBB ?_ | refine owp_nil ?_)
    refine ewp_false rfl ?_
    refine ewp_skip ?_
    refine ewp_seq ?_
    refine ewp_region ?_
    refine o_mv rfl rfl  ?_
    obtain ⟨u6, e7, hm⟩ := bs hm
    obtain ⟨m8, e9, e10, e11, e12⟩ := mkI_some e7
    refine l_make 2 (by decide) O (z0 := (false : Bool)) rfl rfl rfl rfl rfl e9 vBool e10 e11 rfl fun g13 w14 O15 S16 h17 => ?_
    rw [← e12] at h17 ⊢
    replace hB := hB.st S16 (fun h => h) (fun h => h)
    replace hx0 := hx0.st S16 (fun h => h)
    refine o_as rfl rfl  ?_
    (first | refine owp_nilT ?_ | refine owp_nilB ?_ | refine owp_nilBB ?_ | refine owp_nil ?_)
    refine ewp_seq ?_
    refine ewp_seq ?_
    refine ewp_region ?_
    refine o_mv rfl rfl  ?_
    refine o_ln rfl rfl  ?_
    have l20 : x0.length ≤ 9223372036854775807 := Nat.le_trans hx0.len.2.1 hx0.len.2.2
    have r19 : inI64 (x0.length : Int) := rngNat l20
    refine o_mv rfl rfl  ?_
    (first | refine owp_nilT ?_ | refine owp_nilB ?_ | refine owp_nilBB ?_ | refine owp_nil ?_)
    obtain ⟨res21, hL22, hm⟩ := bs hm
    refine ewp_join (aft res21 (fun (s23 : (List Bool)) (x24 : (Option Addr × Nat)) => []) (fun s23 x24 w' => ∃ O' : Lab, Bs w A w' O')) ?_ ?_
    · refine ewp_block ?_
      refine ewp_rng (σ := (List Bool)) (X := (Option Addr × Nat)) (x0.length) hL22 rfl l20 (fun (s23 : (List Bool)) (x24 : (Option Addr × Nat)) => [(1, (.int .i64 x1)), (5, (.slice x24.1 s23.length x24.2)), (14, (.slice A1 x0.length c2))]) _ (fun s23 x24 w' => ∃ O' : Lab, Bs w A w' O' ∧ Rw 2 w' O' 4 (.slice x24.1 s23.length x24.2) s23 ∧ Vb w' (Fr 0 w' O') (.slice A1 x0.length c2) x0) _ ((some ⟨g13, 0, none⟩), m8) ⟨O15, hB, h17, hx0⟩ ⟨rfl, rfl, rfl, rfl, rfl, trivial⟩ (fun _ _ => ⟨rfl, rfl⟩) (fun _ _ => trivial) (fun _ _ _ ⟨O', hB, h38, hx0⟩ => ⟨O', hB⟩) ⟨rfl, rfl, rfl⟩ ⟨rfl, rfl⟩ ?_
      rintro k25 a26 s23 x24 w27 cc29 hx30 ⟨O28, hB, h38, hx0⟩ hf31 hret32 hbrk33
      have rk25 : inI64 (k25 : Int) := rngK hx30 l20
      refine ewp_seq ?_
      refine ewp_region ?_
      obtain ⟨b40, o41, ce42, hA43, hl44, hd45, rfl, r47⟩ := hx0.elem' hx30
      refine o_iaE (hA := hA43) (hj := rfl) (hlt := hl44) rfl rfl rfl  ?_
      refine o_ld (hc := cat0 hd45) rfl rfl  ?_
      refine o_as rfl rfl  ?_
      (first | refine owp_nilT ?_ | refine owp_nilB ?_ | refine owp_nilBB ?_ | refine owp_nil ?_)
      refine ewp_seq ?_
      refine ewp_seq ?_
      obtain ⟨y48, hy49, hf31⟩ := bs hf31
      refine ewp_join (fun l' w' => ∃ (x51 : Unit) (O' : Lab), subs l' [(1, (.int .i64 x1)), (5, (.slice x24.1 s23.length x24.2)), (7, (.int .i64 a26)), (14, (.slice A1 x0.length c2)), (15, (.int .i64 (x0.length : Int))), (16, (.int .i64 (k25 : Int))), (32, (.bool y48))] ∧ Bs w A w' O' ∧ Rw 2 w' O' 4 (.slice x24.1 s23.length x24.2) s23 ∧ Vb w' (Fr 0 w' O') (.slice A1 x0.length c2) x0) ?_ ?_
      · skip
        refine ewp_region ?_
        refine o_mv rfl rfl  ?_
        refine o_ltS rfl rfl rfl (fun c52 => ?_) fun c52 => ?_
        · replace hy49 := ip hy49 c52
          refine o_mv rfl rfl  ?_
          refine owp_no rfl rfl rfl rfl ?_
          refine owp_no rfl rfl rfl rfl ?_
          refine owp_no rfl rfl rfl rfl ?_
          refine o_pt rfl rfl rfl  ?_
          refine o_mv rfl rfl  ?_
          refine owp_no rfl rfl rfl rfl ?_
          refine owp_no rfl rfl rfl rfl ?_
          refine owp_no rfl rfl rfl rfl ?_
          refine owp_no rfl rfl rfl rfl ?_
          refine o_pt rfl rfl rfl  ?_
          (first | refine owp_nilT ?_ | refine owp_nilB ?_ | refine owp_nilBB ?_ | refine owp_nil ?_)
          obtain rfl := sm hy49
          exact ⟨(), _, ⟨rfl, rfl, rfl, rfl, rfl, rfl, rfl, trivial⟩, hB, h38, hx0⟩
        · replace hy49 := im hy49 c52
          refine o_mv rfl rfl  ?_
          refine owp_yes rfl rfl ?_
          refine o_mv rfl rfl  ?_
          refine owp_yes rfl rfl ?_
          refine o_mv rfl rfl  ?_
          refine owp_yes rfl rfl ?_
          refine o_geS rfl rfl rfl (fun c53 => ?_) fun c53 => ?_
          · replace hy49 := ip hy49 c53
            refine o_pf rfl rfl rfl  ?_
            refine o_mv rfl rfl  ?_
            refine owp_no rfl rfl rfl rfl ?_
            refine owp_no rfl rfl rfl rfl ?_
            refine owp_no rfl rfl rfl rfl ?_
            refine owp_no rfl rfl rfl rfl ?_
            refine o_pt rfl rfl rfl  ?_
            (first | refine owp_nilT ?_ | refine owp_nilB ?_ | refine owp_nilBB ?_ | refine owp_nil ?_)
            obtain rfl := sm hy49
            exact ⟨(), _, ⟨rfl, rfl, rfl, rfl, rfl, rfl, rfl, trivial⟩, hB, h38, hx0⟩
          · replace hy49 := im hy49 c53
            refine o_pf rfl rfl rfl  ?_
            refine o_mv rfl rfl  ?_
            refine owp_yes rfl rfl ?_
            refine o_mv rfl rfl  ?_
            refine owp_yes rfl rfl ?_
            refine o_mv rfl rfl  ?_
            refine owp_yes rfl rfl ?_
            obtain ⟨a54, e55, hy49⟩ := bs hy49
            obtain ⟨p57, x56⟩ := atI_some' e55
            obtain ⟨b58, o59, ce60, hA61, hl62, hd63, rfl⟩ := h38.elem x56
            refine o_iaE (hA := hA61) (hj := (Int.toNat_of_nonneg p57).symm) (hlt := hl62) rfl rfl rfl  ?_
            refine owp_yes rfl rfl ?_
            refine o_ld (hc := cat0 hd63) rfl rfl  ?_
            refine o_pf rfl rfl rfl  ?_
            (first | refine owp_nilT ?_ | refine owp_nilB ?_ | refine owp_nilBB ?_ | refine owp_nil ?_)
            obtain rfl := sm hy49
            exact ⟨(), _, ⟨rfl, rfl, rfl, rfl, rfl, rfl, rfl, trivial⟩, hB, h38, hx0⟩
      rintro l65 w66 ⟨x51, O67, hs68, hB, h38, hx0⟩
      refine ewp_sub _ hs68 ?_
      refine ewp_cond rfl (fun c69 => ?_) (fun c69 => ?_)
      · replace hf31 := ip hf31 c69
        refine ewp_seq ?_
        refine ewp_region ?_
        refine o_as rfl rfl  ?_
        (first | refine owp_nilT ?_ | refine owp_nilB ?_ | refine owp_nilBB ?_ | refine owp_nil ?_)
        refine ewp_ret ?_
        obtain rfl := sm hf31
        obtain rfl := hret32 _ rfl
        obtain rfl := sm (fin_ret hm)
        exact ret1v rfl (res_tmp rfl) ⟨hB.ext, vBool⟩
      · replace hf31 := im' hf31 c69
        refine ewp_skip ?_
        refine ewp_region ?_
        refine o_mv rfl rfl  ?_
        refine o_mv rfl rfl  ?_
        obtain ⟨a70, e71, hf31⟩ := bs hf31
        obtain ⟨p73, x72⟩ := atI_some' e71
        obtain ⟨b74, o75, ce76, hA77, hl78, hd79, rfl⟩ := h38.elem x72
        refine o_iaE (hA := hA77) (hj := (Int.toNat_of_nonneg p73).symm) (hlt := hl78) rfl rfl rfl  ?_
        refine l_setE rfl h38 (a := true) vBool hA77 rfl rfl (lt_of_get x72) fun w81 S82 h38 => ?_
        replace hB := hB.st S82 (by decide) (by decide)
        replace hx0 := hx0.st S82 (by decide)
        (first | refine owp_nilT ?_ | refine owp_nilB ?_ | refine owp_nilBB ?_ | refine owp_nil ?_)
        obtain rfl := sm hf31
        refine (?_ : Exists _)
        exact ⟨_, (x24.1, x24.2), rfl, ⟨rfl, rfl, rfl, (congrArg (fun n => some (Value.slice _ n _)) ((by simp : (s23.set (a26).toNat true).length = s23.length).trans rfl).symm), rfl, trivial⟩, _, hB, h38.relen, hx0⟩
    rintro l83 w84 ⟨s87, x88, rfl, hs86, O85, hB⟩
    replace hm := fin_done hm
    refine ewp_sub _ hs86 ?_
    refine ewp_seq ?_
    refine ewp_region ?_
    refine o_as rfl rfl  ?_
    (first | refine owp_nilT ?_ | refine owp_nilB ?_ | refine owp_nilBB ?_ | refine owp_nil ?_)
    refine ewp_ret ?_
    obtain rfl := sm hm
    exact ret1v rfl (res_tmp rfl) ⟨hB.ext, vBool⟩
noncomputable def m_symmetry_facts (x0 : Tsk) (x1 : Swp) : Option Bool :=
  bnd (bnd (m_symmetry_permutation x1.vars (x0.vars.length : Int)) fun q47 => if q47 = true then if (x1.vals.length : Int) ≠ (x0.vars.length : Int) then (some true) else (some false) else some true : Option Bool) fun y41 => if y41 = true then (some false) else (bnd (rng (ρ := Bool) (fun (k70 : Nat) (a71 : Int) (s68 : Unit) => bnd (bnd (x1.vars[k70]?) fun a93 => bnd (atI x0.vars a93) fun a103 => if a103 ≠ a71 then (some true) else (bnd (x1.vals[k70]?) fun a116 => bnd (m_symmetry_permutation a116 a71) fun q129 => if q129 = true then some false else some true) : Option Bool) fun y89 => if y89 = true then (some (.ret false)) else (some (.next ()))) x0.vars 0 ()) fun res66 => fin res66 fun (s145 : Unit) => some true)
theorem c_symmetry_facts {w : World} {A : Nat → Prop} (hA : ∀ k, A k → k < w.heap.size) {vx0 : Value} {x0 : Tsk} (hx0 : Vb w A vx0 x0) {vx1 : Value} {x1 : Swp} (hx1 : Vb w A vx1 x1) {r : Bool} (hm : m_symmetry_facts x0 x1 = some r) :
    Fn Try.prog 69 [vx0, vx1] w fun v w' => Ext w w' ∧ Vb w' (upA A w w') v r := by
  obtain ⟨O, hB, hA0⟩ := enter hA
  replace hx0 := hx0.mono hA0
  obtain ⟨cs1, rfl, v2, v3, v4, v5, rfl, h6, h9, h12, h15⟩ := hx0
  obtain ⟨A7, c8, rfl⟩ := h6.form
  obtain ⟨A10, c11, rfl⟩ := h9.form
  obtain ⟨A13, c14, rfl⟩ := h12.form
  obtain ⟨A16, c17, rfl⟩ := h15.form
  replace hx1 := hx1.mono hA0
  obtain ⟨cs18, rfl, v19, v20, v21, rfl, h22, h25, h28⟩ := hx1
  obtain ⟨A23, c24, rfl⟩ := h22.form
  obtain ⟨A26, c27, rfl⟩ := h25.form
  obtain ⟨A29, c30, rfl⟩ := h28.form
  refine fn_enter Try.func69 rfl Try.ntmps69 rfl ?_
  unfold m_symmetry_facts at hm
  refine ewp_seq ?_
  refine ewp_region ?_
  refine l_box 2 O rfl rfl fun g31 w32 O33 S34 h35 => ?_
  replace h35 : Lc 2 w32 O33 g31 26 [(.slice A7 x0.vars.length c8), (.slice A10 x0.init.length c11), (.slice A13 x0.goal.length c14), (.slice A16 x0.ops.length c17)] := h35
  replace hB := hB.st S34 (fun h => h) (fun h => h)
  replace h22 := h22.st S34 (fun h => h)
  replace h25 := h25.st S34 (fun h => h)
  replace h28 := h28.st S34 (fun h => h)
  replace h6 := h6.st S34 (fun h => h)
  replace h9 := h9.st S34 (fun h => h)
  replace h12 := h12.st S34 (fun h => h)
  replace h15 := h15.st S34 (fun h => h)
  refine l_box 3 O33 rfl rfl fun g36 w37 O38 S39 h40 => ?_
  replace h40 : Lc 3 w37 O38 g36 29 [(.slice A23 x1.vars.length c24), (.slice A26 x1.vals.length c27), (.slice A29 x1.ops.length c30)] := h40
  replace hB := hB.st S39 (fun h => h) (fun h => h)
  replace h35 := h35.st S39 (fun h => h)
  replace h6 := h6.st S39 (fun h => h)
  replace h9 := h9.st S39 (fun h => h)
  replace h12 := h12.st S39 (fun h => h)
  replace h15 := h15.st S39 (fun h => h)
  replace h22 := h22.st S39 (fun h => h)
  replace h25 := h25.st S39 (fun h => h)
  replace h28 := h28.st S39 (fun h => h)
  refine o_as rfl rfl  ?_
  (first | refine owp_nilT ?_ | refine owp_nilB ?_ | refine owp_nilBB ?_ | refine owp_nil ?_)
  refine ewp_seq ?_
  refine ewp_seq ?_
  obtain ⟨y41, hy42, hm⟩ := bs hm
  refine ewp_join (fun l' w' => ∃ (x44 : Unit) (O' : Lab), subs l' [(2, (.pointer (some ⟨g31, 0, none⟩))), (3, (.pointer (some ⟨g36, 0, none⟩))), (22, (.bool y41))] ∧ Bs w A w' O' ∧ Lc 2 w' O' g31 26 [(.slice A7 x0.vars.length c8), (.slice A10 x0.init.length c11), (.slice A13 x0.goal.length c14), (.slice A16 x0.ops.length c17)] ∧ Vb w' (Fr 0 w' O') (.slice A7 x0.vars.length c8) x0.vars ∧ Vb w' (Fr 0 w' O') (.slice A10 x0.init.length c11) x0.init ∧ Vb w' (Fr 0 w' O') (.slice A13 x0.goal.length c14) x0.goal ∧ Vb w' (Fr 0 w' O') (.slice A16 x0.ops.length c17) x0.ops ∧ Lc 3 w' O' g36 29 [(.slice A23 x1.vars.length c24), (.slice A26 x1.vals.length c27), (.slice A29 x1.ops.length c30)] ∧ Vb w' (Fr 0 w' O') (.slice A23 x1.vars.length c24) x1.vars ∧ Vb w' (Fr 0 w' O') (.slice A26 x1.vals.length c27) x1.vals ∧ Vb w' (Fr 0 w' O') (.slice A29 x1.ops.length c30) x1.ops) ?_ ?_
  · skip
    refine ewp_region ?_
    refine o_fa rfl rfl  ?_
    refine o_ld (hc := Blk.cell (i := 0) (h40.1) rfl) rfl rfl  ?_
    refine o_fa rfl rfl  ?_
    refine o_ld (hc := Blk.cell (i := 0) (h35.1) rfl) rfl rfl  ?_
    refine o_ln rfl rfl  ?_
    have l46 : x0.vars.length ≤ 9223372036854775807 := Nat.le_trans h6.len.2.1 h6.len.2.2
    have r45 : inI64 (x0.vars.length : Int) := rngNat l46
    obtain ⟨q47, e48, hy42⟩ := bs hy42
    refine l_callA (O := O38) (A := All w37) (R := fun w' F v => Vb w' F v q47) (c_symmetry_permutation (fun _ h => h) (Vb.mono (F := Fr 0 w37 O38) h22 Fr.lt) r45 e48) rfl rfl fun v53 w49 O50 S51 h52 => ?_
    obtain rfl := h52.bool
    replace hB := hB.st S51 (fun h => h) (fun h => h)
    replace h35 := h35.st S51 (fun h => h)
    replace h6 := h6.st S51 (fun h => h)
    replace h9 := h9.st S51 (fun h => h)
    replace h12 := h12.st S51 (fun h => h)
    replace h15 := h15.st S51 (fun h => h)
    replace h40 := h40.st S51 (fun h => h)
    replace h22 := h22.st S51 (fun h => h)
    replace h25 := h25.st S51 (fun h => h)
    replace h28 := h28.st S51 (fun h => h)
    cases q47
    case false =>
      replace hy42 := iF hy42
      refine o_nf rfl rfl  ?_
      refine o_mv rfl rfl  ?_
      refine owp_no rfl rfl rfl rfl ?_
      refine owp_no rfl rfl rfl rfl ?_
      refine owp_no rfl rfl rfl rfl ?_
      refine owp_no rfl rfl rfl rfl ?_
      refine owp_no rfl rfl rfl rfl ?_
      refine owp_no rfl rfl rfl rfl ?_
      refine owp_no rfl rfl rfl rfl ?_
      refine o_pt rfl rfl rfl  ?_
      (first | refine owp_nilT ?_ | refine owp_nilB ?_ | refine owp_nilBB ?_ | refine owp_nil ?_)
      obtain rfl := sm hy42
      exact ⟨(), _, ⟨rfl, rfl, rfl, trivial⟩, hB, h35, h6, h9, h12, h15, h40, h22, h25, h28⟩
    replace hy42 := iT hy42
    refine o_nt rfl rfl  ?_
    refine o_mv rfl rfl  ?_
    refine owp_yes rfl rfl ?_
    refine o_fa rfl rfl  ?_
    refine owp_yes rfl rfl ?_
    refine o_ld (hc := Blk.cell (i := 1) (h40.1) rfl) rfl rfl  ?_
    refine owp_yes rfl rfl ?_
    refine o_ln rfl rfl  ?_
    have l55 : x1.vals.length ≤ 9223372036854775807 := Nat.le_trans h25.len.2.1 h25.len.2.2
    have r54 : inI64 (x1.vals.length : Int) := rngNat l55
    refine owp_yes rfl rfl ?_
    refine o_fa rfl rfl  ?_
    refine owp_yes rfl rfl ?_
    refine o_ld (hc := Blk.cell (i := 0) (h35.1) rfl) rfl rfl  ?_
    refine owp_yes rfl rfl ?_
    refine o_ln rfl rfl  ?_
    have l57 : x0.vars.length ≤ 9223372036854775807 := Nat.le_trans h6.len.2.1 h6.len.2.2
    have r56 : inI64 (x0.vars.length : Int) := rngNat l57
    refine owp_yes rfl rfl ?_
    refine o_neS rfl rfl rfl (fun c58 => ?_) fun c58 => ?_
    · replace hy42 := ip hy42 c58
      refine o_pf rfl rfl rfl  ?_
      (first | refine owp_nilT ?_ | refine owp_nilB ?_ | refine owp_nilBB ?_ | refine owp_nil ?_)
      obtain rfl := sm hy42
      exact ⟨(), _, ⟨rfl, rfl, rfl, trivial⟩, hB, h35, h6, h9, h12, h15, h40, h22, h25, h28⟩
    · replace hy42 := im hy42 c58
      refine o_pf rfl rfl rfl  ?_
      (first | refine owp_nilT ?_ | refine owp_nilB ?_ | refine owp_nilBB ?_ | refine owp_nil ?_)
      obtain rfl := sm hy42
      exact ⟨(), _, ⟨rfl, rfl, rfl, trivial⟩, hB, h35, h6, h9, h12, h15, h40, h22, h25, h28⟩
  rintro l59 w60 ⟨x44, O61, hs62, hB, h35, h6, h9, h12, h15, h40, h22, h25, h28⟩
  refine ewp_sub _ hs62 ?_
  refine ewp_cond rfl (fun c63 => ?_) (fun c63 => ?_)
  · replace hm := ip hm c63
    refine ewp_seq ?_
    refine ewp_region ?_
    refine o_as rfl rfl  ?_
    (first | refine owp_nilT ?_ | refine owp_nilB ?_ | refine owp_nilBB ?_ | refine owp_nil ?_)
    refine ewp_ret ?_
    obtain rfl := sm hm
    exact ret1v rfl (res_tmp rfl) ⟨hB.ext, vBool⟩
  · replace hm := im' hm c63
    refine ewp_skip ?_
    refine ewp_seq ?_
    refine ewp_seq ?_
    refine ewp_region ?_
    refine o_fa rfl rfl  ?_
    refine o_ld (hc := Blk.cell (i := 0) (h35.1) rfl) rfl rfl  ?_
    refine o_ln rfl rfl  ?_
    have l65 : x0.vars.length ≤ 9223372036854775807 := Nat.le_trans h6.len.2.1 h6.len.2.2
    have r64 : inI64 (x0.vars.length : Int) := rngNat l65
    refine o_mv rfl rfl  ?_
    (first | refine owp_nilT ?_ | refine owp_nilB ?_ | refine owp_nilBB ?_ | refine owp_nil ?_)
    obtain ⟨res66, hL67, hm⟩ := bs hm
    refine ewp_join (aft res66 (fun (s68 : Unit) (x69 : Unit) => []) (fun s68 x69 w' => ∃ O' : Lab, Bs w A w' O')) ?_ ?_
    · refine ewp_block ?_
      refine ewp_rng (σ := Unit) (X := Unit) (x0.vars.length) hL67 rfl l65 (fun (s68 : Unit) (x69 : Unit) => [(2, (.pointer (some ⟨g31, 0, none⟩))), (3, (.pointer (some ⟨g36, 0, none⟩))), (24, (.slice A7 x0.vars.length c8))]) _ (fun s68 x69 w' => ∃ O' : Lab, Bs w A w' O' ∧ Lc 2 w' O' g31 26 [(.slice A7 x0.vars.length c8), (.slice A10 x0.init.length c11), (.slice A13 x0.goal.length c14), (.slice A16 x0.ops.length c17)] ∧ Vb w' (Fr 0 w' O') (.slice A7 x0.vars.length c8) x0.vars ∧ Vb w' (Fr 0 w' O') (.slice A10 x0.init.length c11) x0.init ∧ Vb w' (Fr 0 w' O') (.slice A13 x0.goal.length c14) x0.goal ∧ Vb w' (Fr 0 w' O') (.slice A16 x0.ops.length c17) x0.ops ∧ Lc 3 w' O' g36 29 [(.slice A23 x1.vars.length c24), (.slice A26 x1.vals.length c27), (.slice A29 x1.ops.length c30)] ∧ Vb w' (Fr 0 w' O') (.slice A23 x1.vars.length c24) x1.vars ∧ Vb w' (Fr 0 w' O') (.slice A26 x1.vals.length c27) x1.vals ∧ Vb w' (Fr 0 w' O') (.slice A29 x1.ops.length c30) x1.ops) _ () ⟨O61, hB, h35, h6, h9, h12, h15, h40, h22, h25, h28⟩ ⟨rfl, rfl, rfl, rfl, rfl, trivial⟩ (fun _ _ => ⟨rfl, rfl⟩) (fun _ _ => trivial) (fun _ _ _ ⟨O', hB, h35, h6, h9, h12, h15, h40, h22, h25, h28⟩ => ⟨O', hB⟩) ⟨rfl, rfl, rfl⟩ ⟨rfl, rfl⟩ ?_
      rintro k70 a71 s68 x69 w72 cc74 hx75 ⟨O73, hB, h35, h6, h9, h12, h15, h40, h22, h25, h28⟩ hf76 hret77 hbrk78
      have rk70 : inI64 (k70 : Int) := rngK hx75 l65
      refine ewp_seq ?_
      refine ewp_region ?_
      refine o_mv rfl rfl  ?_
      obtain ⟨b81, o82, ce83, hA84, hl85, hd86, rfl, r88⟩ := h6.elem' hx75
      refine o_iaE (hA := hA84) (hj := rfl) (hlt := hl85) rfl rfl rfl  ?_
      refine o_ld (hc := cat0 hd86) rfl rfl  ?_
      refine o_as rfl rfl  ?_
      refine o_as rfl rfl  ?_
      (first | refine owp_nilT ?_ | refine owp_nilB ?_ | refine owp_nilBB ?_ | refine owp_nil ?_)
      refine ewp_seq ?_
      obtain ⟨y89, hy90, hf76⟩ := bs hf76
      refine ewp_join (fun l' w' => ∃ (x92 : Unit) (O' : Lab), subs l' [(2, (.pointer (some ⟨g31, 0, none⟩))), (3, (.pointer (some ⟨g36, 0, none⟩))), (24, (.slice A7 x0.vars.length c8)), (25, (.int .i64 (x0.vars.length : Int))), (26, (.int .i64 (k70 : Int))), (51, (.bool y89))] ∧ Bs w A w' O' ∧ Lc 2 w' O' g31 26 [(.slice A7 x0.vars.length c8), (.slice A10 x0.init.length c11), (.slice A13 x0.goal.length c14), (.slice A16 x0.ops.length c17)] ∧ Vb w' (Fr 0 w' O') (.slice A7 x0.vars.length c8) x0.vars ∧ Vb w' (Fr 0 w' O') (.slice A10 x0.init.length c11) x0.init ∧ Vb w' (Fr 0 w' O') (.slice A13 x0.goal.length c14) x0.goal ∧ Vb w' (Fr 0 w' O') (.slice A16 x0.ops.length c17) x0.ops ∧ Lc 3 w' O' g36 29 [(.slice A23 x1.vars.length c24), (.slice A26 x1.vals.length c27), (.slice A29 x1.ops.length c30)] ∧ Vb w' (Fr 0 w' O') (.slice A23 x1.vars.length c24) x1.vars ∧ Vb w' (Fr 0 w' O') (.slice A26 x1.vals.length c27) x1.vals ∧ Vb w' (Fr 0 w' O') (.slice A29 x1.ops.length c30) x1.ops) ?_ ?_
      · skip
        have hZ := St.refl (nT) w72 O73
        have zh35 := h35
        have zh6 := h6
        have zh9 := h9
        have zh12 := h12
        have zh15 := h15
        have zh40 := h40
        have zh22 := h22
        have zh25 := h25
        have zh28 := h28
        refine ewp_drawS (fun w' => ∃ O', St (nT) w72 O73 w' O') ?_
        refine hws_pre (fuel := 3) [(0, true), (1, true), (2, true), (3, true), (4, true), (5, true), (6, true), (7, true), (8, true), (9, true), (10, true), (11, true), (12, true), (13, true), (14, true), (15, true), (16, true), (17, true)] (by kernel_rfl) (by kernel_rfl) (by kernel_rfl) ⟨_, hZ⟩ ?_
        refine h_fa rfl rfl rfl  ?_
        refine h_ldC (hc := fun w' ⟨O', hq⟩ => Blk.cell (i := 0) ((zh35.st hq (by decide)).1) rfl) rfl rfl rfl  ?_
        refine h_fa rfl rfl rfl  ?_
        refine h_ldC (hc := fun w' ⟨O', hq⟩ => Blk.cell (i := 0) ((zh40.st hq (by decide)).1) rfl) rfl rfl rfl  ?_
        refine h_mv rfl rfl rfl  ?_
        obtain ⟨a93, e94, hy90⟩ := bs hy90
        obtain ⟨b95, o96, ce97, hA98, hF101, hl99, hd100, rfl, r102⟩ := zh22.elem e94
        refine h_iaE (hA := hA98) (hj := rfl) (hlt := hl99) rfl rfl rfl rfl  ?_
        refine h_ldC (hc := fun w' ⟨O', hq⟩ => cat0 (cellsAt_agree (hq.agree (i := 0) (by decide)) hF101 hd100)) rfl rfl rfl  ?_
        obtain ⟨a103, e104, hy90⟩ := bs hy90
        obtain ⟨p106, x105⟩ := atI_some' e104
        obtain ⟨b107, o108, ce109, hA110, hF113, hl111, hd112, rfl, r114⟩ := zh6.elem x105
        refine h_iaE (hA := hA110) (hj := (Int.toNat_of_nonneg p106).symm) (hlt := hl111) rfl rfl rfl rfl  ?_
        refine h_ldC (hc := fun w' ⟨O', hq⟩ => cat0 (cellsAt_agree (hq.agree (i := 0) (by decide)) hF113 hd112)) rfl rfl rfl  ?_
        refine h_mv rfl rfl rfl  ?_
        refine h_neS rfl rfl rfl rfl (fun c115 => ?_) fun c115 => ?_
        · replace hy90 := ip hy90 c115
          refine h_mv rfl rfl rfl  ?_
          refine h_no rfl rfl rfl rfl rfl ?_
          refine h_no rfl rfl rfl rfl rfl ?_
          refine h_no rfl rfl rfl rfl rfl ?_
          refine h_no rfl rfl rfl rfl rfl ?_
          refine h_no rfl rfl rfl rfl rfl ?_
          refine h_no rfl rfl rfl rfl rfl ?_
          refine hwp_nilT ?_
          refine hws_one (i := 18) (by kernel_rfl) rfl ?_
          refine owp_no rfl rfl rfl rfl ?_
          refine owp_loudS ⟨_, hZ⟩ ?_
          refine hws_pre (fuel := 0) [(19, true), (20, true)] (by kernel_rfl) (by kernel_rfl) (by kernel_rfl) ⟨_, hZ⟩ ?_
          refine h_no rfl rfl rfl rfl rfl ?_
          refine h_pt rfl rfl rfl rfl  ?_
          refine hwp_nilT ?_
          refine hws_nil (by kernel_rfl) ?_
          obtain rfl := sm hy90
          exact ⟨(), _, ⟨rfl, rfl, rfl, rfl, rfl, rfl, trivial⟩, hB, h35, h6, h9, h12, h15, h40, h22, h25, h28⟩
        · replace hy90 := im hy90 c115
          refine h_mv rfl rfl rfl  ?_
          refine hwp_o rfl ?_
          refine hwq_yes rfl rfl ?_
          refine g_fa rfl rfl  ?_
          refine hwp_o rfl ?_
          refine hwq_yes rfl rfl ?_
          refine g_ldC (hc := fun w' ⟨O', hq⟩ => Blk.cell (i := 1) ((zh40.st hq (by decide)).1) rfl) rfl rfl  ?_
          refine hwp_o rfl ?_
          refine hwq_yes rfl rfl ?_
          refine g_mv rfl rfl  ?_
          refine hwp_o rfl ?_
          refine hwq_yes rfl rfl ?_
          obtain ⟨a116, e117, hy90⟩ := bs hy90
          obtain ⟨b118, o119, ce120, hA121, hF124, hl122, hd123, v125, rfl, h126⟩ := zh25.elem e117
          replace h126 := Vb.of_slice h126
          obtain ⟨A127, c128, rfl⟩ := h126.form
          have zh126 := h126
          refine g_iaE (hA := hA121) (hj := rfl) (hlt := hl122) rfl rfl rfl  ?_
          refine hwp_o rfl ?_
          refine hwq_yes rfl rfl ?_
          refine g_ldC (hc := fun w' ⟨O', hq⟩ => cat0 (cellsAt_agree (hq.agree (i := 0) (by decide)) hF124 hd123)) rfl rfl  ?_
          refine hwp_o rfl ?_
          refine hwq_yes rfl rfl ?_
          refine g_mv rfl rfl  ?_
          refine hwp_nilT ?_
          refine hws_one (i := 18) (by kernel_rfl) rfl ?_
          refine owp_yes rfl rfl ?_
          obtain ⟨q129, e130, hy90⟩ := bs hy90
          refine l_callA (O := O73) (A := All w72) (R := fun w' F v => Vb w' F v q129) (c_symmetry_permutation (fun _ h => h) (Vb.mono (F := Fr 0 w72 O73) h126 Fr.lt) r88 e130) rfl rfl fun v135 w131 O132 S133 h134 => ?_
          obtain rfl := h134.bool
          replace hZ := hZ.comp S133 (fun _ h => h.elim)
          replace hB := hB.st S133 (fun h => h) (fun h => h)
          replace h35 := h35.st S133 (fun h => h)
          replace h6 := h6.st S133 (fun h => h)
          replace h9 := h9.st S133 (fun h => h)
          replace h12 := h12.st S133 (fun h => h)
          replace h15 := h15.st S133 (fun h => h)
          replace h40 := h40.st S133 (fun h => h)
          replace h22 := h22.st S133 (fun h => h)
          replace h25 := h25.st S133 (fun h => h)
          replace h28 := h28.st S133 (fun h => h)
          cases q129
          case false =>
            replace hy90 := iF hy90
            refine owp_loudS ⟨_, hZ⟩ ?_
            refine hws_pre (fuel := 0) [(19, true), (20, true)] (by kernel_rfl) (by kernel_rfl) (by kernel_rfl) ⟨_, hZ⟩ ?_
            refine hwp_o rfl ?_
            refine hwq_yes rfl rfl ?_
            refine g_nf rfl rfl  ?_
            refine h_pf rfl rfl rfl rfl  ?_
            refine hwp_nilT ?_
            refine hws_nil (by kernel_rfl) ?_
            obtain rfl := sm hy90
            exact ⟨(), _, ⟨rfl, rfl, rfl, rfl, rfl, rfl, trivial⟩, hB, h35, h6, h9, h12, h15, h40, h22, h25, h28⟩
          replace hy90 := iT hy90
          refine owp_loudS ⟨_, hZ⟩ ?_
          refine hws_pre (fuel := 0) [(19, true), (20, true)] (by kernel_rfl) (by kernel_rfl) (by kernel_rfl) ⟨_, hZ⟩ ?_
          refine hwp_o rfl ?_
          refine hwq_yes rfl rfl ?_
          refine g_nt rfl rfl  ?_
          refine h_pf rfl rfl rfl rfl  ?_
          refine hwp_nilT ?_
          refine hws_nil (by kernel_rfl) ?_
          obtain rfl := sm hy90
          exact ⟨(), _, ⟨rfl, rfl, rfl, rfl, rfl, rfl, trivial⟩, hB, h35, h6, h9, h12, h15, h40, h22, h25, h28⟩
      rintro l136 w137 ⟨x92, O138, hs139, hB, h35, h6, h9, h12, h15, h40, h22, h25, h28⟩
      refine ewp_sub _ hs139 ?_
      refine ewp_cond rfl (fun c140 => ?_) (fun c140 => ?_)
      · replace hf76 := ip hf76 c140
        refine ewp_seq ?_
        refine ewp_region ?_
        refine o_as rfl rfl  ?_
        (first | refine owp_nilT ?_ | refine owp_nilB ?_ | refine owp_nilBB ?_ | refine owp_nil ?_)
        refine ewp_ret ?_
        obtain rfl := sm hf76
        obtain rfl := hret77 _ rfl
        obtain rfl := sm (fin_ret hm)
        exact ret1v rfl (res_tmp rfl) ⟨hB.ext, vBool⟩
      · replace hf76 := im' hf76 c140
        refine ewp_skip ?_
        obtain rfl := sm hf76
        refine (?_ : Exists _)
        exact ⟨_, (), rfl, ⟨rfl, rfl, rfl, rfl, rfl, trivial⟩, _, hB, h35, h6, h9, h12, h15, h40, h22, h25, h28⟩
    rintro l141 w142 ⟨s145, x146, rfl, hs144, O143, hB⟩
    replace hm := fin_done hm
    refine ewp_sub _ hs144 ?_
    refine ewp_seq ?_
    refine ewp_region ?_
    refine o_as rfl rfl  ?_
    (first | refine owp_nilT ?_ | refine owp_nilB ?_ | refine owp_nilBB ?_ | refine owp_nil ?_)
    refine ewp_ret ?_
    obtain rfl := sm hm
    exact ret1v rfl (res_tmp rfl) ⟨hB.ext, vBool⟩
noncomputable def m_symmetry_moved (x0 : Swp) (x1 : List Int) : Option (List Int) :=
  bnd (mkI 8 (0 : Int) (x1.length : Int)) fun u23 => bnd (rng (ρ := (List Int)) (fun (k42 : Nat) (a43 : Int) (s40 : (List Int)) => bnd (x0.vars[k42]?) fun a65 => bnd (x0.vals[k42]?) fun a75 => bnd (atI a75 a43) fun a88 => bnd (atI s40 a65) fun a100 => some (.next (s40.set (a65).toNat a88))) x1 0 u23) fun res38 => fin res38 fun (s118 : (List Int)) => some s118
theorem c_symmetry_moved {w : World} {A : Nat → Prop} (hA : ∀ k, A k → k < w.heap.size) {vx0 : Value} {x0 : Swp} (hx0 : Vb w A vx0 x0) {vx1 : Value} {x1 : List Int} (hx1 : Vb w A vx1 x1) {r : (List Int)} (hm : m_symmetry_moved x0 x1 = some r) :
    Fn Try.prog 47 [vx0, vx1] w fun v w' => Ext w w' ∧ Vb w' (upA A w w') v r := by
  obtain ⟨O, hB, hA0⟩ := enter hA
  replace hx0 := hx0.mono hA0
  obtain ⟨cs1, rfl, v2, v3, v4, rfl, h5, h8, h11⟩ := hx0
  obtain ⟨A6, c7, rfl⟩ := h5.form
  obtain ⟨A9, c10, rfl⟩ := h8.form
  obtain ⟨A12, c13, rfl⟩ := h11.form
  replace hx1 := hx1.mono hA0
  obtain ⟨A14, c15, rfl⟩ := hx1.form
  refine fn_enter Try.func47 rfl Try.ntmps47 rfl ?_
  unfold m_symmetry_moved at hm
  refine ewp_seq ?_
  refine ewp_region ?_
  refine l_box 2 O rfl rfl fun g16 w17 O18 S19 h20 => ?_
  replace h20 : Lc 2 w17 O18 g16 29 [(.slice A6 x0.vars.length c7), (.slice A9 x0.vals.length c10), (.slice A12 x0.ops.length c13)] := h20
  replace hB := hB.st S19 (fun h => h) (fun h => h)
  replace hx1 := hx1.st S19 (fun h => h)
  replace h5 := h5.st S19 (fun h => h)
  replace h8 := h8.st S19 (fun h => h)
  replace h11 := h11.st S19 (fun h => h)
  refine o_as rfl rfl  ?_
  (first | refine owp_nilT ?_ | refine owp_nilB ?_ | refine owp_nilBB ?_ | refine owp_nil ?_)
  refine ewp_seq ?_
  refine ewp_region ?_
  refine o_mv rfl rfl  ?_
  refine o_ln rfl rfl  ?_
  have l22 : x1.length ≤ 9223372036854775807 := Nat.le_trans hx1.len.2.1 hx1.len.2.2
  have r21 : inI64 (x1.length : Int) := rngNat l22
  obtain ⟨u23, e24, hm⟩ := bs hm
  obtain ⟨m25, e26, e27, e28, e29⟩ := mkI_some e24
  refine l_make 3 (by decide) O18 (z0 := (0 : Int)) rfl rfl rfl rfl rfl e26 (vInt (show inI64 0 from by decide)) e27 e28 rfl fun g30 w31 O32 S33 h34 => ?_
  rw [← e29] at h34 ⊢
  replace hB := hB.st S33 (fun h => h) (fun h => h)
  replace hx1 := hx1.st S33 (fun h => h)
  replace h20 := h20.st S33 (fun h => h)
  replace h5 := h5.st S33 (fun h => h)
  replace h8 := h8.st S33 (fun h => h)
  replace h11 := h11.st S33 (fun h => h)
  refine o_as rfl rfl  ?_
  (first | refine owp_nilT ?_ | refine owp_nilB ?_ | refine owp_nilBB ?_ | refine owp_nil ?_)
  refine ewp_seq ?_
  refine ewp_seq ?_
  refine ewp_region ?_
  refine o_mv rfl rfl  ?_
  refine o_ln rfl rfl  ?_
  have l37 : x1.length ≤ 9223372036854775807 := Nat.le_trans hx1.len.2.1 hx1.len.2.2
  have r36 : inI64 (x1.length : Int) := rngNat l37
  refine o_mv rfl rfl  ?_
  (first | refine owp_nilT ?_ | refine owp_nilB ?_ | refine owp_nilBB ?_ | refine owp_nil ?_)
  obtain ⟨res38, hL39, hm⟩ := bs hm
  refine ewp_join (aft res38 (fun (s40 : (List Int)) (x41 : (Option Addr × Nat)) => [(5, (.slice x41.1 s40.length x41.2))]) (fun s40 x41 w' => ∃ O' : Lab, Bs w A w' O' ∧ Rw 3 w' O' 3 (.slice x41.1 s40.length x41.2) s40)) ?_ ?_
  · refine ewp_block ?_
    refine ewp_rng (σ := (List Int)) (X := (Option Addr × Nat)) (x1.length) hL39 rfl l37 (fun (s40 : (List Int)) (x41 : (Option Addr × Nat)) => [(2, (.pointer (some ⟨g16, 0, none⟩))), (5, (.slice x41.1 s40.length x41.2)), (11, (.slice A14 x1.length c15))]) _ (fun s40 x41 w' => ∃ O' : Lab, Bs w A w' O' ∧ Lc 2 w' O' g16 29 [(.slice A6 x0.vars.length c7), (.slice A9 x0.vals.length c10), (.slice A12 x0.ops.length c13)] ∧ Vb w' (Fr 0 w' O') (.slice A6 x0.vars.length c7) x0.vars ∧ Vb w' (Fr 0 w' O') (.slice A9 x0.vals.length c10) x0.vals ∧ Vb w' (Fr 0 w' O') (.slice A12 x0.ops.length c13) x0.ops ∧ Rw 3 w' O' 3 (.slice x41.1 s40.length x41.2) s40 ∧ Vb w' (Fr 0 w' O') (.slice A14 x1.length c15) x1) _ ((some ⟨g30, 0, none⟩), m25) ⟨O32, hB, h20, h5, h8, h11, h34, hx1⟩ ⟨rfl, rfl, rfl, rfl, rfl, trivial⟩ (fun _ _ => ⟨rfl, rfl⟩) (fun _ _ => ⟨rfl, trivial⟩) (fun _ _ _ ⟨O', hB, h20, h5, h8, h11, h55, hx1⟩ => ⟨O', hB, h55⟩) ⟨rfl, rfl, rfl⟩ ⟨rfl, rfl⟩ ?_
    rintro k42 a43 s40 x41 w44 cc46 hx47 ⟨O45, hB, h20, h5, h8, h11, h55, hx1⟩ hf48 hret49 hbrk50
    have rk42 : inI64 (k42 : Int) := rngK hx47 l37
    refine ewp_seq ?_
    refine ewp_region ?_
    refine o_mv rfl rfl  ?_
    obtain ⟨b57, o58, ce59, hA60, hl61, hd62, rfl, r64⟩ := hx1.elem' hx47
    refine o_iaE (hA := hA60) (hj := rfl) (hlt := hl61) rfl rfl rfl  ?_
    refine o_ld (hc := cat0 hd62) rfl rfl  ?_
    refine o_as rfl rfl  ?_
    refine o_as rfl rfl  ?_
    (first | refine owp_nilT ?_ | refine owp_nilB ?_ | refine owp_nilBB ?_ | refine owp_nil ?_)
    have hZ := St.refl (nT) w44 O45
    have zh20 := h20
    have zh5 := h5
    have zh8 := h8
    have zh11 := h11
    have zh55 := h55
    have zhx1 := hx1
    refine ewp_drawS (fun w' => ∃ O', St (nT) w44 O45 w' O') ?_
    refine hws_pre (fuel := 1) [(0, true), (1, true), (2, true), (3, true), (4, true), (5, true), (6, true), (7, true), (8, true), (9, true), (10, true), (11, true), (12, true), (13, true), (14, true)] (by kernel_rfl) (by kernel_rfl) (by kernel_rfl) ⟨_, hZ⟩ ?_
    refine h_mv rfl rfl rfl  ?_
    refine h_fa rfl rfl rfl  ?_
    refine h_ldC (hc := fun w' ⟨O', hq⟩ => Blk.cell (i := 0) ((zh20.st hq (by decide)).1) rfl) rfl rfl rfl  ?_
    refine h_mv rfl rfl rfl  ?_
    obtain ⟨a65, e66, hf48⟩ := bs hf48
    obtain ⟨b67, o68, ce69, hA70, hF73, hl71, hd72, rfl, r74⟩ := zh5.elem e66
    refine h_iaE (hA := hA70) (hj := rfl) (hlt := hl71) rfl rfl rfl rfl  ?_
    refine h_ldC (hc := fun w' ⟨O', hq⟩ => cat0 (cellsAt_agree (hq.agree (i := 0) (by decide)) hF73 hd72)) rfl rfl rfl  ?_
    refine h_fa rfl rfl rfl  ?_
    refine h_ldC (hc := fun w' ⟨O', hq⟩ => Blk.cell (i := 1) ((zh20.st hq (by decide)).1) rfl) rfl rfl rfl  ?_
    refine h_mv rfl rfl rfl  ?_
    obtain ⟨a75, e76, hf48⟩ := bs hf48
    obtain ⟨b77, o78, ce79, hA80, hF83, hl81, hd82, v84, rfl, h85⟩ := zh8.elem e76
    replace h85 := Vb.of_slice h85
    obtain ⟨A86, c87, rfl⟩ := h85.form
    have zh85 := h85
    refine h_iaE (hA := hA80) (hj := rfl) (hlt := hl81) rfl rfl rfl rfl  ?_
    refine h_ldC (hc := fun w' ⟨O', hq⟩ => cat0 (cellsAt_agree (hq.agree (i := 0) (by decide)) hF83 hd82)) rfl rfl rfl  ?_
    refine h_mv rfl rfl rfl  ?_
    obtain ⟨a88, e89, hf48⟩ := bs hf48
    obtain ⟨p91, x90⟩ := atI_some' e89
    obtain ⟨b92, o93, ce94, hA95, hF98, hl96, hd97, rfl, r99⟩ := zh85.elem x90
    refine h_iaE (hA := hA95) (hj := (Int.toNat_of_nonneg p91).symm) (hlt := hl96) rfl rfl rfl rfl  ?_
    refine h_ldC (hc := fun w' ⟨O', hq⟩ => cat0 (cellsAt_agree (hq.agree (i := 0) (by decide)) hF98 hd97)) rfl rfl rfl  ?_
    obtain ⟨a100, e101, hf48⟩ := bs hf48
    obtain ⟨p103, x102⟩ := atI_some' e101
    obtain ⟨b104, o105, ce106, hA107, hF110, hl108, hd109, rfl, r111⟩ := zh55.elemF x102
    refine h_iaE (hA := hA107) (hj := (Int.toNat_of_nonneg p103).symm) (hlt := hl108) rfl rfl rfl rfl  ?_
    refine hwp_nilT ?_
    refine hws_one (i := 15) (by kernel_rfl) rfl ?_
    refine l_setE rfl h55 (a := a88) (vInt r99) hA107 rfl rfl (lt_of_get x102) fun w112 S113 h55 => ?_
    replace hB := hB.st S113 (by decide) (by decide)
    replace h20 := h20.st S113 (by decide)
    replace h5 := h5.st S113 (by decide)
    replace h8 := h8.st S113 (by decide)
    replace h11 := h11.st S113 (by decide)
    replace hx1 := hx1.st S113 (by decide)
    refine owp_loudSE (by kernel_rfl) ?_
    refine hws_nil (by kernel_rfl) ?_
    obtain rfl := sm hf48
    refine (?_ : Exists _)
    exact ⟨_, (x41.1, x41.2), rfl, ⟨rfl, rfl, rfl, (congrArg (fun n => some (Value.slice _ n _)) ((by simp : (s40.set (a65).toNat a88).length = s40.length).trans rfl).symm), rfl, trivial⟩, _, hB, h20, h5, h8, h11, h55.relen, hx1⟩
  rintro l114 w115 ⟨s118, x119, rfl, hs117, O116, hB, h55⟩
  replace hm := fin_done hm
  refine ewp_sub _ hs117 ?_
  refine ewp_seq ?_
  refine ewp_region ?_
  refine o_mv rfl rfl  ?_
  refine o_as rfl rfl  ?_
  (first | refine owp_nilT ?_ | refine owp_nilB ?_ | refine owp_nilBB ?_ | refine owp_nil ?_)
  refine ewp_ret ?_
  obtain ⟨O120, S121, h55⟩ := h55.freeze
  replace hB := hB.st S121 (by decide) (by decide)
  obtain rfl := sm hm
  exact ret1v rfl (res_tmp rfl) ⟨hB.ext, (Vb.mono (F := Fr 0 w115 O120) h55 hB.out)⟩
noncomputable def m_symmetry_alike_l1 (x0 : Eff) (x1 : Eff) : Option Bool :=
  bnd (if x0.var = x1.var then (if x0.val = x1.val then (bnd (m_slices_Equal_Lapi_Fact_api_Fact x0.cond x1.cond) fun q31 => if q31 = true then some true else some false) else (some false)) else (some false) : Option Bool) fun y25 => some y25
theorem c_symmetry_alike_l1 {w : World} {A : Nat → Prop} (hA : ∀ k, A k → k < w.heap.size) {vx0 : Value} {x0 : Eff} (hx0 : Vb w A vx0 x0) {vx1 : Value} {x1 : Eff} (hx1 : Vb w A vx1 x1) {r : Bool} (hm : m_symmetry_alike_l1 x0 x1 = some r) :
    Fn Try.prog 89 [vx0, vx1] w fun v w' => Ext w w' ∧ Vb w' (upA A w w') v r := by
  obtain ⟨O, hB, hA0⟩ := enter hA
  replace hx0 := hx0.mono hA0
  obtain ⟨cs1, rfl, v2, rfl, h3, r6, r7⟩ := hx0
  obtain ⟨A4, c5, rfl⟩ := h3.form
  replace hx1 := hx1.mono hA0
  obtain ⟨cs8, rfl, v9, rfl, h10, r13, r14⟩ := hx1
  obtain ⟨A11, c12, rfl⟩ := h10.form
  refine fn_enter Try.func89 rfl Try.ntmps89 rfl ?_
  unfold m_symmetry_alike_l1 at hm
  refine ewp_seq ?_
  refine ewp_region ?_
  refine l_box 2 O rfl rfl fun g15 w16 O17 S18 h19 => ?_
  replace h19 : Lc 2 w16 O17 g15 74 [(.slice A4 x0.cond.length c5), (.int .i64 x0.var), (.int .i64 x0.val)] := h19
  replace hB := hB.st S18 (fun h => h) (fun h => h)
  replace h10 := h10.st S18 (fun h => h)
  replace h3 := h3.st S18 (fun h => h)
  refine l_box 3 O17 rfl rfl fun g20 w21 O22 S23 h24 => ?_
  replace h24 : Lc 3 w21 O22 g20 74 [(.slice A11 x1.cond.length c12), (.int .i64 x1.var), (.int .i64 x1.val)] := h24
  replace hB := hB.st S23 (fun h => h) (fun h => h)
  replace h19 := h19.st S23 (fun h => h)
  replace h3 := h3.st S23 (fun h => h)
  replace h10 := h10.st S23 (fun h => h)
  refine o_as rfl rfl  ?_
  (first | refine owp_nilT ?_ | refine owp_nilB ?_ | refine owp_nilBB ?_ | refine owp_nil ?_)
  refine ewp_seq ?_
  obtain ⟨y25, hy26, hm⟩ := bs hm
  refine ewp_join (fun l' w' => ∃ (x28 : Unit) (O' : Lab), subs l' [(4, (.bool y25))] ∧ Bs w A w' O') ?_ ?_
  · skip
    refine ewp_region ?_
    refine o_fa rfl rfl  ?_
    refine o_ld (hc := Blk.cell (i := 1) (h19.1) rfl) rfl rfl  ?_
    refine o_fa rfl rfl  ?_
    refine o_ld (hc := Blk.cell (i := 1) (h24.1) rfl) rfl rfl  ?_
    refine o_eeS rfl rfl rfl (fun c29 => ?_) fun c29 => ?_
    · replace hy26 := ip hy26 c29
      refine o_mv rfl rfl  ?_
      refine owp_yes rfl rfl ?_
      refine o_fa rfl rfl  ?_
      refine owp_yes rfl rfl ?_
      refine o_ld (hc := Blk.cell (i := 2) (h19.1) rfl) rfl rfl  ?_
      refine owp_yes rfl rfl ?_
      refine o_fa rfl rfl  ?_
      refine owp_yes rfl rfl ?_
      refine o_ld (hc := Blk.cell (i := 2) (h24.1) rfl) rfl rfl  ?_
      refine owp_yes rfl rfl ?_
      refine o_eeS rfl rfl rfl (fun c30 => ?_) fun c30 => ?_
      · replace hy26 := ip hy26 c30
        refine o_pt rfl rfl rfl  ?_
        refine o_mv rfl rfl  ?_
        refine owp_yes rfl rfl ?_
        refine o_fa rfl rfl  ?_
        refine owp_yes rfl rfl ?_
        refine o_ld (hc := Blk.cell (i := 0) (h19.1) rfl) rfl rfl  ?_
        refine owp_yes rfl rfl ?_
        refine o_fa rfl rfl  ?_
        refine owp_yes rfl rfl ?_
        refine o_ld (hc := Blk.cell (i := 0) (h24.1) rfl) rfl rfl  ?_
        refine owp_yes rfl rfl ?_
        obtain ⟨q31, e32, hy26⟩ := bs hy26
        refine l_callA (O := O22) (A := All w21) (R := fun w' F v => Vb w' F v q31) (c_slices_Equal_Lapi_Fact_api_Fact (fun _ h => h) (Vb.mono (F := Fr 0 w21 O22) h3 Fr.lt) (Vb.mono (F := Fr 0 w21 O22) h10 Fr.lt) e32) rfl rfl fun v37 w33 O34 S35 h36 => ?_
        obtain rfl := h36.bool
        replace hB := hB.st S35 (fun h => h) (fun h => h)
        cases q31
        case false =>
          replace hy26 := iF hy26
          refine o_pt rfl rfl rfl  ?_
          refine o_as rfl rfl  ?_
          (first | refine owp_nilT ?_ | refine owp_nilB ?_ | refine owp_nilBB ?_ | refine owp_nil ?_)
          obtain rfl := sm hy26
          exact ⟨(), _, ⟨rfl, trivial⟩, hB⟩
        replace hy26 := iT hy26
        refine o_pt rfl rfl rfl  ?_
        refine o_as rfl rfl  ?_
        (first | refine owp_nilT ?_ | refine owp_nilB ?_ | refine owp_nilBB ?_ | refine owp_nil ?_)
        obtain rfl := sm hy26
        exact ⟨(), _, ⟨rfl, trivial⟩, hB⟩
      · replace hy26 := im hy26 c30
        refine o_pt rfl rfl rfl  ?_
        refine o_mv rfl rfl  ?_
        refine owp_no rfl rfl rfl rfl ?_
        refine owp_no rfl rfl rfl rfl ?_
        refine owp_no rfl rfl rfl rfl ?_
        refine owp_no rfl rfl rfl rfl ?_
        refine owp_no rfl rfl rfl rfl ?_
        refine o_pf rfl rfl rfl  ?_
        refine o_as rfl rfl  ?_
        (first | refine owp_nilT ?_ | refine owp_nilB ?_ | refine owp_nilBB ?_ | refine owp_nil ?_)
        obtain rfl := sm hy26
        exact ⟨(), _, ⟨rfl, trivial⟩, hB⟩
    · replace hy26 := im hy26 c29
      refine o_mv rfl rfl  ?_
      refine owp_no rfl rfl rfl rfl ?_
      refine owp_no rfl rfl rfl rfl ?_
      refine owp_no rfl rfl rfl rfl ?_
      refine owp_no rfl rfl rfl rfl ?_
      refine owp_no rfl rfl rfl rfl ?_
      refine o_pf rfl rfl rfl  ?_
      refine o_mv rfl rfl  ?_
      refine owp_no rfl rfl rfl rfl ?_
      refine owp_no rfl rfl rfl rfl ?_
      refine owp_no rfl rfl rfl rfl ?_
      refine owp_no rfl rfl rfl rfl ?_
      refine owp_no rfl rfl rfl rfl ?_
      refine o_pf rfl rfl rfl  ?_
      refine o_as rfl rfl  ?_
      (first | refine owp_nilT ?_ | refine owp_nilB ?_ | refine owp_nilBB ?_ | refine owp_nil ?_)
      obtain rfl := sm hy26
      exact ⟨(), _, ⟨rfl, trivial⟩, hB⟩
  rintro l38 w39 ⟨x28, O40, hs41, hB⟩
  refine ewp_sub _ hs41 ?_
  refine ewp_ret ?_
  obtain rfl := sm hm
  exact ret1v rfl (res_tmp rfl) ⟨hB.ext, vBool⟩
noncomputable def m_slices_EqualFunc_Lapi_Effect_Lapi_Effect_api_Effect_api_Effect__symmetry_alike_l1 (x0 : List Eff) (x1 : List Eff) : Option Bool :=
  if (x0.length : Int) ≠ (x1.length : Int) then (some false) else (bnd (rng (ρ := Bool) (fun (k16 : Nat) (a17 : Eff) (s14 : Unit) => bnd (x1[k16]?) fun a47 => bnd (m_symmetry_alike_l1 a17 a47) fun q69 => if q69 = true then some (.next ()) else some (.ret false)) x0 0 ()) fun res12 => fin res12 fun (s80 : Unit) => some true)
theorem c_slices_EqualFunc_Lapi_Effect_Lapi_Effect_api_Effect_api_Effect__symmetry_alike_l1 {w : World} {A : Nat → Prop} (hA : ∀ k, A k → k < w.heap.size) {vx0 : Value} {x0 : List Eff} (hx0 : Vb w A vx0 x0) {vx1 : Value} {x1 : List Eff} (hx1 : Vb w A vx1 x1) {r : Bool} (hm : m_slices_EqualFunc_Lapi_Effect_Lapi_Effect_api_Effect_api_Effect__symmetry_alike_l1 x0 x1 = some r) :
    Fn Try.prog 88 [vx0, vx1, (.func (.func 89) #[] #[])] w fun v w' => Ext w w' ∧ Vb w' (upA A w w') v r := by
  obtain ⟨O, hB, hA0⟩ := enter hA
  replace hx0 := hx0.mono hA0
  obtain ⟨A1, c2, rfl⟩ := hx0.form
  replace hx1 := hx1.mono hA0
  obtain ⟨A3, c4, rfl⟩ := hx1.form
  refine fn_enter Try.func88 rfl Try.ntmps88 rfl ?_
  unfold m_slices_EqualFunc_Lapi_Effect_Lapi_Effect_api_Effect_api_Effect__symmetry_alike_l1 at hm
  refine ewp_seq ?_
  refine ewp_region ?_
  refine o_as rfl rfl  ?_
  (first | refine owp_nilT ?_ | refine owp_nilB ?_ | refine owp_nilBB ?_ | refine owp_nil ?_)
  refine ewp_seq ?_
  refine ewp_seq ?_
  refine ewp_region ?_
  refine o_mv rfl rfl  ?_
  refine o_ln rfl rfl  ?_
  have l6 : x0.length ≤ 9223372036854775807 := Nat.le_trans hx0.len.2.1 hx0.len.2.2
  have r5 : inI64 (x0.length : Int) := rngNat l6
  refine o_mv rfl rfl  ?_
  refine o_ln rfl rfl  ?_
  have l8 : x1.length ≤ 9223372036854775807 := Nat.le_trans hx1.len.2.1 hx1.len.2.2
  have r7 : inI64 (x1.length : Int) := rngNat l8
  refine o_neS rfl rfl rfl (fun c9 => ?_) fun c9 => ?_
  · replace hm := ip hm c9
    (first | refine owp_nilT ?_ | refine owp_nilB ?_ | refine owp_nilBB ?_ | refine owp_nil ?_)
    refine ewp_true rfl ?_
    refine ewp_seq ?_
    refine ewp_region ?_
    refine o_as rfl rfl  ?_
    (first | refine owp_nilT ?_ | refine owp_nilB ?_ | refine owp_nilBB ?_ | refine owp_nil ?_)
    refine ewp_ret ?_
    obtain rfl := sm hm
    exact ret1v rfl (res_tmp rfl) ⟨hB.ext, vBool⟩
  · replace hm := im hm c9
    (first | refine owp_nilT ?_ | refine owp_nilB ?_ | refine owp_nilBB ?_ | refine owp_nil ?_)
    refine ewp_false rfl ?_
    refine ewp_skip ?_
    refine ewp_seq ?_
    refine ewp_seq ?_
    refine ewp_region ?_
    refine o_mv rfl rfl  ?_
    refine o_ln rfl rfl  ?_
    have l11 : x0.length ≤ 9223372036854775807 := Nat.le_trans hx0.len.2.1 hx0.len.2.2
    have r10 : inI64 (x0.length : Int) := rngNat l11
    refine o_mv rfl rfl  ?_
    (first | refine owp_nilT ?_ | refine owp_nilB ?_ | refine owp_nilBB ?_ | refine owp_nil ?_)
    obtain ⟨res12, hL13, hm⟩ := bs hm
    refine ewp_join (aft res12 (fun (s14 : Unit) (x15 : Unit) => []) (fun s14 x15 w' => ∃ O' : Lab, Bs w A w' O')) ?_ ?_
    · refine ewp_block ?_
      refine ewp_rng (σ := Unit) (X := Unit) (x0.length) hL13 rfl l11 (fun (s14 : Unit) (x15 : Unit) => [(1, (.slice A3 x1.length c4)), (2, (.func (.func 89) #[] #[])), (15, (.slice A1 x0.length c2))]) _ (fun s14 x15 w' => ∃ O' : Lab, Bs w A w' O' ∧ Vb w' (Fr 0 w' O') (.slice A3 x1.length c4) x1 ∧ Vb w' (Fr 0 w' O') (.slice A1 x0.length c2) x0) _ () ⟨O, hB, hx1, hx0⟩ ⟨rfl, rfl, rfl, rfl, rfl, trivial⟩ (fun _ _ => ⟨rfl, rfl⟩) (fun _ _ => trivial) (fun _ _ _ ⟨O', hB, hx1, hx0⟩ => ⟨O', hB⟩) ⟨rfl, rfl, rfl⟩ ⟨rfl, rfl⟩ ?_
      rintro k16 a17 s14 x15 w18 cc20 hx21 ⟨O19, hB, hx1, hx0⟩ hf22 hret23 hbrk24
      have rk16 : inI64 (k16 : Int) := rngK hx21 l11
      refine ewp_seq ?_
      refine ewp_region ?_
      refine o_mv rfl rfl  ?_
      obtain ⟨b27, o28, ce29, hA30, hl31, hd32, v34, rfl, h35, r38, r39⟩ := hx0.elem' hx21
      obtain ⟨A36, c37, rfl⟩ := h35.form
      refine o_iaE (hA := hA30) (hj := rfl) (hlt := hl31) rfl rfl rfl  ?_
      refine o_la (hl := rfl) (hc := hd32) rfl rfl  ?_
      refine l_alloc 2 O19 rfl fun g40 w41 O42 S43 h44 => ?_
      replace hB := hB.st S43 (fun h => h) (fun h => h)
      replace hx1 := hx1.st S43 (fun h => h)
      replace hx0 := hx0.st S43 (fun h => h)
      replace h35 := h35.st S43 (fun h => h)
      refine o_as rfl rfl  ?_
      refine l_store h44 rfl rfl rfl (Nat.le_of_ble_eq_true rfl) (by first | exact allOne rfl | simp [Value.cells, Value.oneCell', errV_one]) fun w45 S46 h44 => ?_
      replace h44 : Lc 2 w45 O42 g40 74 [(.slice A36 a17.cond.length c37), (.int .i64 a17.var), (.int .i64 a17.val)] := h44
      replace hB := hB.st S46 (by decide) (by decide)
      replace hx1 := hx1.st S46 (by decide)
      replace h35 := h35.st S46 (by decide)
      replace hx0 := hx0.st S46 (by decide)
      (first | refine owp_nilT ?_ | refine owp_nilB ?_ | refine owp_nilBB ?_ | refine owp_nil ?_)
      refine ewp_seq ?_
      refine ewp_region ?_
      refine o_mv rfl rfl  ?_
      refine o_mv rfl rfl  ?_
      obtain ⟨a47, e48, hf22⟩ := bs hf22
      obtain ⟨b49, o50, ce51, hA52, hl53, hd54, v56, rfl, h57, r60, r61⟩ := hx1.elem' e48
      obtain ⟨A58, c59, rfl⟩ := h57.form
      refine o_iaE (hA := hA52) (hj := rfl) (hlt := hl53) rfl rfl rfl  ?_
      refine o_la (hl := rfl) (hc := hd54) rfl rfl  ?_
      refine l_alloc 3 O42 rfl fun g62 w63 O64 S65 h66 => ?_
      replace hB := hB.st S65 (fun h => h) (fun h => h)
      replace hx1 := hx1.st S65 (fun h => h)
      replace h44 := h44.st S65 (fun h => h)
      replace h35 := h35.st S65 (fun h => h)
      replace hx0 := hx0.st S65 (fun h => h)
      replace h57 := h57.st S65 (fun h => h)
      refine l_store h66 rfl rfl rfl (Nat.le_of_ble_eq_true rfl) (by first | exact allOne rfl | simp [Value.cells, Value.oneCell', errV_one]) fun w67 S68 h66 => ?_
      replace h66 : Lc 3 w67 O64 g62 74 [(.slice A58 a47.cond.length c59), (.int .i64 a47.var), (.int .i64 a47.val)] := h66
      replace hB := hB.st S68 (by decide) (by decide)
      replace hx1 := hx1.st S68 (by decide)
      replace h44 := h44.st S68 (by decide)
      replace h35 := h35.st S68 (by decide)
      replace h57 := h57.st S68 (by decide)
      replace hx0 := hx0.st S68 (by decide)
      (first | refine owp_nilT ?_ | refine owp_nilB ?_ | refine owp_nilBB ?_ | refine owp_nil ?_)
      refine ewp_seq ?_
      refine ewp_region ?_
      refine o_mv rfl rfl  ?_
      refine o_la (hl := rfl) (hc := (h44.1).cellsAt) rfl rfl  ?_
      refine o_la (hl := rfl) (hc := (h66.1).cellsAt) rfl rfl  ?_
      obtain ⟨q69, e70, hf22⟩ := bs hf22
      refine l_callAv (O := O64) (A := All w67) (R := fun w' F v => Vb w' F v q69) (c_symmetry_alike_l1 (fun _ h => h) (Vb.mono (F := Fr 0 w67 O64) (Vb.ofAgg (cs := [(.slice A36 a17.cond.length c37), (.int .i64 a17.var), (.int .i64 a17.val)]) (x := a17) rfl ⟨_, rfl, h35, r38, r39⟩) Fr.lt) (Vb.mono (F := Fr 0 w67 O64) (Vb.ofAgg (cs := [(.slice A58 a47.cond.length c59), (.int .i64 a47.var), (.int .i64 a47.val)]) (x := a47) rfl ⟨_, rfl, h57, r60, r61⟩) Fr.lt) e70) rfl rfl rfl fun v75 w71 O72 S73 h74 => ?_
      obtain rfl := h74.bool
      replace hB := hB.st S73 (fun h => h) (fun h => h)
      replace hx1 := hx1.st S73 (fun h => h)
      replace hx0 := hx0.st S73 (fun h => h)
      cases q69
      case false =>
        replace hf22 := iF hf22
        refine o_nf rfl rfl  ?_
        (first | refine owp_nilT ?_ | refine owp_nilB ?_ | refine owp_nilBB ?_ | refine owp_nil ?_)
        refine ewp_true rfl ?_
        refine ewp_seq ?_
        refine ewp_region ?_
        refine o_as rfl rfl  ?_
        (first | refine owp_nilT ?_ | refine owp_nilB ?_ | refine owp_nilBB ?_ | refine owp_nil ?_)
        refine ewp_ret ?_
        obtain rfl := sm hf22
        obtain rfl := hret23 _ rfl
        obtain rfl := sm (fin_ret hm)
        exact ret1v rfl (res_tmp rfl) ⟨hB.ext, vBool⟩
      replace hf22 := iT hf22
      refine o_nt rfl rfl  ?_
      (first | refine owp_nilT ?_ | refine owp_nilB ?_ | refine owp_nilBB ?_ | refine owp_nil ?_)
      refine ewp_false rfl ?_
      refine ewp_skip ?_
      obtain rfl := sm hf22
      refine (?_ : Exists _)
      exact ⟨_, (), rfl, ⟨rfl, rfl, rfl, rfl, rfl, trivial⟩, _, hB, hx1, hx0⟩
    rintro l76 w77 ⟨s80, x81, rfl, hs79, O78, hB⟩
    replace hm := fin_done hm
    refine ewp_sub _ hs79 ?_
    refine ewp_seq ?_
    refine ewp_region ?_
    refine o_as rfl rfl  ?_
    (first | refine owp_nilT ?_ | refine owp_nilB ?_ | refine owp_nilBB ?_ | refine owp_nil ?_)
    refine ewp_ret ?_
    obtain rfl := sm hm
    exact ret1v rfl (res_tmp rfl) ⟨hB.ext, vBool⟩
noncomputable def m_symmetry_alike (x0 : Opr) (x1 : Opr) : Option Bool :=
  bnd (if x0.cost = x1.cost then (bnd (m_slices_Equal_Lapi_Fact_api_Fact x0.pre x1.pre) fun q38 => if q38 = true then bnd (m_slices_EqualFunc_Lapi_Effect_Lapi_Effect_api_Effect_api_Effect__symmetry_alike_l1 x0.effs x1.effs) fun q45 => if q45 = true then some true else some false else some false) else (some false) : Option Bool) fun y33 => some y33
theorem c_symmetry_alike {w : World} {A : Nat → Prop} (hA : ∀ k, A k → k < w.heap.size) {vx0 : Value} {x0 : Opr} (hx0 : Vb w A vx0 x0) {vx1 : Value} {x1 : Opr} (hx1 : Vb w A vx1 x1) {r : Bool} (hm : m_symmetry_alike x0 x1 = some r) :
    Fn Try.prog 73 [vx0, vx1] w fun v w' => Ext w w' ∧ Vb w' (upA A w w') v r := by
  obtain ⟨O, hB, hA0⟩ := enter hA
  replace hx0 := hx0.mono hA0
  obtain ⟨cs1, rfl, v2, v3, rfl, h4, h7, r10, z11⟩ := hx0
  obtain ⟨A5, c6, rfl⟩ := h4.form
  obtain ⟨A8, c9, rfl⟩ := h7.form
  replace hx1 := hx1.mono hA0
  obtain ⟨cs12, rfl, v13, v14, rfl, h15, h18, r21, z22⟩ := hx1
  obtain ⟨A16, c17, rfl⟩ := h15.form
  obtain ⟨A19, c20, rfl⟩ := h18.form
  refine fn_enter Try.func73 rfl Try.ntmps73 rfl ?_
  unfold m_symmetry_alike at hm
  refine ewp_seq ?_
  refine ewp_region ?_
  refine l_box 2 O rfl rfl fun g23 w24 O25 S26 h27 => ?_
  replace h27 : Lc 2 w24 O25 g23 77 [(.string x0.name), (.int .i64 x0.cost), (.slice A5 x0.pre.length c6), (.slice A8 x0.effs.length c9)] := h27
  replace hB := hB.st S26 (fun h => h) (fun h => h)
  replace h15 := h15.st S26 (fun h => h)
  replace h18 := h18.st S26 (fun h => h)
  replace h4 := h4.st S26 (fun h => h)
  replace h7 := h7.st S26 (fun h => h)
  refine l_box 3 O25 rfl rfl fun g28 w29 O30 S31 h32 => ?_
  replace h32 : Lc 3 w29 O30 g28 77 [(.string x1.name), (.int .i64 x1.cost), (.slice A16 x1.pre.length c17), (.slice A19 x1.effs.length c20)] := h32
  replace hB := hB.st S31 (fun h => h) (fun h => h)
  replace h27 := h27.st S31 (fun h => h)
  replace h4 := h4.st S31 (fun h => h)
  replace h7 := h7.st S31 (fun h => h)
  replace h15 := h15.st S31 (fun h => h)
  replace h18 := h18.st S31 (fun h => h)
  refine o_as rfl rfl  ?_
  (first | refine owp_nilT ?_ | refine owp_nilB ?_ | refine owp_nilBB ?_ | refine owp_nil ?_)
  refine ewp_seq ?_
  obtain ⟨y33, hy34, hm⟩ := bs hm
  refine ewp_join (fun l' w' => ∃ (x36 : Unit) (O' : Lab), subs l' [(4, (.bool y33))] ∧ Bs w A w' O') ?_ ?_
  · skip
    refine ewp_region ?_
    refine o_fa rfl rfl  ?_
    refine o_ld (hc := Blk.cell (i := 1) (h27.1) rfl) rfl rfl  ?_
    refine o_fa rfl rfl  ?_
    refine o_ld (hc := Blk.cell (i := 1) (h32.1) rfl) rfl rfl  ?_
    refine o_eeS rfl rfl rfl (fun c37 => ?_) fun c37 => ?_
    · replace hy34 := ip hy34 c37
      refine o_mv rfl rfl  ?_
      refine owp_yes rfl rfl ?_
      refine o_fa rfl rfl  ?_
      refine owp_yes rfl rfl ?_
      refine o_ld (hc := Blk.cell (i := 2) (h27.1) rfl) rfl rfl  ?_
      refine owp_yes rfl rfl ?_
      refine o_fa rfl rfl  ?_
      refine owp_yes rfl rfl ?_
      refine o_ld (hc := Blk.cell (i := 2) (h32.1) rfl) rfl rfl  ?_
      refine owp_yes rfl rfl ?_
      obtain ⟨q38, e39, hy34⟩ := bs hy34
      refine l_callA (O := O30) (A := All w29) (R := fun w' F v => Vb w' F v q38) (c_slices_Equal_Lapi_Fact_api_Fact (fun _ h => h) (Vb.mono (F := Fr 0 w29 O30) h4 Fr.lt) (Vb.mono (F := Fr 0 w29 O30) h15 Fr.lt) e39) rfl rfl fun v44 w40 O41 S42 h43 => ?_
      obtain rfl := h43.bool
      replace hB := hB.st S42 (fun h => h) (fun h => h)
      replace h27 := h27.st S42 (fun h => h)
      replace h4 := h4.st S42 (fun h => h)
      replace h7 := h7.st S42 (fun h => h)
      replace h32 := h32.st S42 (fun h => h)
      replace h15 := h15.st S42 (fun h => h)
      replace h18 := h18.st S42 (fun h => h)
      cases q38
      case false =>
        replace hy34 := iF hy34
        refine o_pt rfl rfl rfl  ?_
        refine o_mv rfl rfl  ?_
        refine owp_no rfl rfl rfl rfl ?_
        refine owp_no rfl rfl rfl rfl ?_
        refine owp_no rfl rfl rfl rfl ?_
        refine owp_no rfl rfl rfl rfl ?_
        refine owp_no rfl rfl rfl rfl ?_
        refine o_pf rfl rfl rfl  ?_
        refine o_as rfl rfl  ?_
        (first | refine owp_nilT ?_ | refine owp_nilB ?_ | refine owp_nilBB ?_ | refine owp_nil ?_)
        obtain rfl := sm hy34
        exact ⟨(), _, ⟨rfl, trivial⟩, hB⟩
      replace hy34 := iT hy34
      refine o_pt rfl rfl rfl  ?_
      refine o_mv rfl rfl  ?_
      refine owp_yes rfl rfl ?_
      refine o_fa rfl rfl  ?_
      refine owp_yes rfl rfl ?_
      refine o_ld (hc := Blk.cell (i := 3) (h27.1) rfl) rfl rfl  ?_
      refine owp_yes rfl rfl ?_
      refine o_fa rfl rfl  ?_
      refine owp_yes rfl rfl ?_
      refine o_ld (hc := Blk.cell (i := 3) (h32.1) rfl) rfl rfl  ?_
      refine owp_yes rfl rfl ?_
      obtain ⟨q45, e46, hy34⟩ := bs hy34
      refine l_callA (O := O41) (A := All w40) (R := fun w' F v => Vb w' F v q45) (c_slices_EqualFunc_Lapi_Effect_Lapi_Effect_api_Effect_api_Effect__symmetry_alike_l1 (fun _ h => h) (Vb.mono (F := Fr 0 w40 O41) h7 Fr.lt) (Vb.mono (F := Fr 0 w40 O41) h18 Fr.lt) e46) rfl rfl fun v51 w47 O48 S49 h50 => ?_
      obtain rfl := h50.bool
      replace hB := hB.st S49 (fun h => h) (fun h => h)
      cases q45
      case false =>
        replace hy34 := iF hy34
        refine o_pt rfl rfl rfl  ?_
        refine o_as rfl rfl  ?_
        (first | refine owp_nilT ?_ | refine owp_nilB ?_ | refine owp_nilBB ?_ | refine owp_nil ?_)
        obtain rfl := sm hy34
        exact ⟨(), _, ⟨rfl, trivial⟩, hB⟩
      replace hy34 := iT hy34
      refine o_pt rfl rfl rfl  ?_
      refine o_as rfl rfl  ?_
      (first | refine owp_nilT ?_ | refine owp_nilB ?_ | refine owp_nilBB ?_ | refine owp_nil ?_)
      obtain rfl := sm hy34
      exact ⟨(), _, ⟨rfl, trivial⟩, hB⟩
    · replace hy34 := im hy34 c37
      refine o_mv rfl rfl  ?_
      refine owp_no rfl rfl rfl rfl ?_
      refine owp_no rfl rfl rfl rfl ?_
      refine owp_no rfl rfl rfl rfl ?_
      refine owp_no rfl rfl rfl rfl ?_
      refine owp_no rfl rfl rfl rfl ?_
      refine o_pf rfl rfl rfl  ?_
      refine o_mv rfl rfl  ?_
      refine owp_no rfl rfl rfl rfl ?_
      refine owp_no rfl rfl rfl rfl ?_
      refine owp_no rfl rfl rfl rfl ?_
      refine owp_no rfl rfl rfl rfl ?_
      refine owp_no rfl rfl rfl rfl ?_
      refine o_pf rfl rfl rfl  ?_
      refine o_as rfl rfl  ?_
      (first | refine owp_nilT ?_ | refine owp_nilB ?_ | refine owp_nilBB ?_ | refine owp_nil ?_)
      obtain rfl := sm hy34
      exact ⟨(), _, ⟨rfl, trivial⟩, hB⟩
  rintro l52 w53 ⟨x36, O54, hs55, hB⟩
  refine ewp_sub _ hs55 ?_
  refine ewp_ret ?_
  obtain rfl := sm hm
  exact ret1v rfl (res_tmp rfl) ⟨hB.ext, vBool⟩
noncomputable def m_symmetry_upTo (x0 : Int) : Option (List Int) :=
  bnd (mkI 8 (0 : Int) x0) fun u1 => bnd (rngN (ρ := (List Int)) (fun (k20 : Nat) (s18 : (List Int)) => bnd (s18[k20]?) fun a39 => some (.next (s18.set k20 (k20 : Int)))) u1.length u1) fun res16 => fin res16 fun (s55 : (List Int)) => some s55
theorem c_symmetry_upTo {w : World} {A : Nat → Prop} (hA : ∀ k, A k → k < w.heap.size) {x0 : Int} (rx0 : inI64 x0) {r : (List Int)} (hm : m_symmetry_upTo x0 = some r) :
    Fn Try.prog 53 [(.int .i64 x0)] w fun v w' => Ext w w' ∧ Vb w' (upA A w w') v r := by
  obtain ⟨O, hB, hA0⟩ := enter hA
  refine fn_enter Try.func53 rfl Try.ntmps53 rfl ?_
  unfold m_symmetry_upTo at hm
  refine ewp_seq ?_
  refine ewp_region ?_
  refine o_as rfl rfl  ?_
  (first | refine owp_nilT ?_ | refine owp_nilB ?_ | refine owp_nilBB ?_ | refine owp_nil ?_)
  refine ewp_seq ?_
  refine ewp_region ?_
  refine o_mv rfl rfl  ?_
  obtain ⟨u1, e2, hm⟩ := bs hm
  obtain ⟨m3, e4, e5, e6, e7⟩ := mkI_some e2
  refine l_make 2 (by decide) O (z0 := (0 : Int)) rfl rfl rfl rfl rfl e4 (vInt (show inI64 0 from by decide)) e5 e6 rfl fun g8 w9 O10 S11 h12 => ?_
  rw [← e7] at h12 ⊢
  replace hB := hB.st S11 (fun h => h) (fun h => h)
  refine o_as rfl rfl  ?_
  (first | refine owp_nilT ?_ | refine owp_nilB ?_ | refine owp_nilBB ?_ | refine owp_nil ?_)
  refine ewp_seq ?_
  refine ewp_seq ?_
  refine ewp_region ?_
  refine o_mv rfl rfl  ?_
  refine o_ln rfl rfl  ?_
  have l15 : u1.length ≤ 9223372036854775807 := Nat.le_trans h12.len.2.1 h12.len.2.2
  have r14 : inI64 (u1.length : Int) := rngNat l15
  refine o_mv rfl rfl  ?_
  (first | refine owp_nilT ?_ | refine owp_nilB ?_ | refine owp_nilBB ?_ | refine owp_nil ?_)
  obtain ⟨res16, hL17, hm⟩ := bs hm
  refine ewp_join (aft res16 (fun (s18 : (List Int)) (x19 : (Option Addr × Nat)) => [(3, (.slice x19.1 s18.length x19.2))]) (fun s18 x19 w' => ∃ O' : Lab, Bs w A w' O' ∧ Rw 2 w' O' 3 (.slice x19.1 s18.length x19.2) s18)) ?_ ?_
  · refine ewp_block ?_
    refine ewp_rngN (σ := (List Int)) (X := (Option Addr × Nat)) (u1.length) hL17 l15 (fun (s18 : (List Int)) (x19 : (Option Addr × Nat)) => [(3, (.slice x19.1 s18.length x19.2))]) _ (fun s18 x19 w' => ∃ O' : Lab, Bs w A w' O' ∧ Rw 2 w' O' 3 (.slice x19.1 s18.length x19.2) s18) _ ((some ⟨g8, 0, none⟩), m3) ⟨O10, hB, h12⟩ ⟨rfl, rfl, rfl, trivial⟩ (fun _ _ => ⟨rfl, rfl⟩) (fun _ _ => ⟨rfl, trivial⟩) (fun _ _ _ ⟨O', hB, h37⟩ => ⟨O', hB, h37⟩) ⟨rfl, rfl, rfl⟩ ⟨rfl, rfl⟩ ?_
    rintro k20 s18 x19 w22 cc24 hx25 ⟨O23, hB, h37⟩ hf26 hret27 hbrk28
    have rk20 : inI64 (k20 : Int) := rngKN hx25 l15
    refine ewp_seq ?_
    refine ewp_region ?_
    refine o_mv rfl rfl  ?_
    refine o_as rfl rfl  ?_
    (first | refine owp_nilT ?_ | refine owp_nilB ?_ | refine owp_nilBB ?_ | refine owp_nil ?_)
    refine ewp_region ?_
    refine o_mv rfl rfl  ?_
    refine o_mv rfl rfl  ?_
    refine o_mv rfl rfl  ?_
    obtain ⟨a39, e40, hf26⟩ := bs hf26
    obtain ⟨b41, o42, ce43, hA44, hl45, hd46, rfl, r48⟩ := h37.elem e40
    refine o_iaE (hA := hA44) (hj := rfl) (hlt := hl45) rfl rfl rfl  ?_
    refine l_setE rfl h37 (a := (k20 : Int)) (vInt rk20) hA44 rfl rfl (lt_of_get e40) fun w49 S50 h37 => ?_
    replace hB := hB.st S50 (by decide) (by decide)
    (first | refine owp_nilT ?_ | refine owp_nilB ?_ | refine owp_nilBB ?_ | refine owp_nil ?_)
    obtain rfl := sm hf26
    refine (?_ : Exists _)
    exact ⟨_, (x19.1, x19.2), rfl, ⟨rfl, rfl, (congrArg (fun n => some (Value.slice _ n _)) ((by simp : (s18.set k20 (k20 : Int)).length = s18.length).trans rfl).symm), trivial⟩, _, hB, h37.relen⟩
  rintro l51 w52 ⟨s55, x56, rfl, hs54, O53, hB, h37⟩
  replace hm := fin_done hm
  refine ewp_sub _ hs54 ?_
  refine ewp_seq ?_
  refine ewp_region ?_
  refine o_mv rfl rfl  ?_
  refine o_as rfl rfl  ?_
  (first | refine owp_nilT ?_ | refine owp_nilB ?_ | refine owp_nilBB ?_ | refine owp_nil ?_)
  refine ewp_ret ?_
  obtain ⟨O57, S58, h37⟩ := h37.freeze
  replace hB := hB.st S58 (by decide) (by decide)
  obtain rfl := sm hm
  exact ret1v rfl (res_tmp rfl) ⟨hB.ext, (Vb.mono (F := Fr 0 w52 O57) h37 hB.out)⟩
noncomputable def m_symmetry_along (x0 : List Int) (x1 : List Int) : Option (List Int) :=
  bnd (mkI 8 (0 : Int) (x0.length : Int)) fun u7 => bnd (rng (ρ := (List Int)) (fun (k26 : Nat) (a27 : Int) (s24 : (List Int)) => bnd (atI x1 a27) fun a49 => bnd (s24[k26]?) fun a61 => some (.next (s24.set k26 a49))) x0 0 u7) fun res22 => fin res22 fun (s77 : (List Int)) => some s77
theorem c_symmetry_along {w : World} {A : Nat → Prop} (hA : ∀ k, A k → k < w.heap.size) {vx0 : Value} {x0 : List Int} (hx0 : Vb w A vx0 x0) {vx1 : Value} {x1 : List Int} (hx1 : Vb w A vx1 x1) {r : (List Int)} (hm : m_symmetry_along x0 x1 = some r) :
    Fn Try.prog 54 [vx0, vx1] w fun v w' => Ext w w' ∧ Vb w' (upA A w w') v r := by
  obtain ⟨O, hB, hA0⟩ := enter hA
  replace hx0 := hx0.mono hA0
  obtain ⟨A1, c2, rfl⟩ := hx0.form
  replace hx1 := hx1.mono hA0
  obtain ⟨A3, c4, rfl⟩ := hx1.form
  refine fn_enter Try.func54 rfl Try.ntmps54 rfl ?_
  unfold m_symmetry_along at hm
  refine ewp_seq ?_
  refine ewp_region ?_
  refine o_as rfl rfl  ?_
  (first | refine owp_nilT ?_ | refine owp_nilB ?_ | refine owp_nilBB ?_ | refine owp_nil ?_)
  refine ewp_seq ?_
  refine ewp_region ?_
  refine o_mv rfl rfl  ?_
  refine o_ln rfl rfl  ?_
  have l6 : x0.length ≤ 9223372036854775807 := Nat.le_trans hx0.len.2.1 hx0.len.2.2
  have r5 : inI64 (x0.length : Int) := rngNat l6
  obtain ⟨u7, e8, hm⟩ := bs hm
  obtain ⟨m9, e10, e11, e12, e13⟩ := mkI_some e8
  refine l_make 2 (by decide) O (z0 := (0 : Int)) rfl rfl rfl rfl rfl e10 (vInt (show inI64 0 from by decide)) e11 e12 rfl fun g14 w15 O16 S17 h18 => ?_
  rw [← e13] at h18 ⊢
  replace hB := hB.st S17 (fun h => h) (fun h => h)
  replace hx0 := hx0.st S17 (fun h => h)
  replace hx1 := hx1.st S17 (fun h => h)
  refine o_as rfl rfl  ?_
  (first | refine owp_nilT ?_ | refine owp_nilB ?_ | refine owp_nilBB ?_ | refine owp_nil ?_)
  refine ewp_seq ?_
  refine ewp_seq ?_
  refine ewp_region ?_
  refine o_mv rfl rfl  ?_
  refine o_ln rfl rfl  ?_
  have l21 : x0.length ≤ 9223372036854775807 := Nat.le_trans hx0.len.2.1 hx0.len.2.2
  have r20 : inI64 (x0.length : Int) := rngNat l21
  refine o_mv rfl rfl  ?_
  (first | refine owp_nilT ?_ | refine owp_nilB ?_ | refine owp_nilBB ?_ | refine owp_nil ?_)
  obtain ⟨res22, hL23, hm⟩ := bs hm
  refine ewp_join (aft res22 (fun (s24 : (List Int)) (x25 : (Option Addr × Nat)) => [(5, (.slice x25.1 s24.length x25.2))]) (fun s24 x25 w' => ∃ O' : Lab, Bs w A w' O' ∧ Rw 2 w' O' 3 (.slice x25.1 s24.length x25.2) s24)) ?_ ?_
  · refine ewp_block ?_
    refine ewp_rng (σ := (List Int)) (X := (Option Addr × Nat)) (x0.length) hL23 rfl l21 (fun (s24 : (List Int)) (x25 : (Option Addr × Nat)) => [(1, (.slice A3 x1.length c4)), (5, (.slice x25.1 s24.length x25.2)), (11, (.slice A1 x0.length c2))]) _ (fun s24 x25 w' => ∃ O' : Lab, Bs w A w' O' ∧ Vb w' (Fr 0 w' O') (.slice A3 x1.length c4) x1 ∧ Rw 2 w' O' 3 (.slice x25.1 s24.length x25.2) s24 ∧ Vb w' (Fr 0 w' O') (.slice A1 x0.length c2) x0) _ ((some ⟨g14, 0, none⟩), m9) ⟨O16, hB, hx1, h18, hx0⟩ ⟨rfl, rfl, rfl, rfl, rfl, trivial⟩ (fun _ _ => ⟨rfl, rfl⟩) (fun _ _ => ⟨rfl, trivial⟩) (fun _ _ _ ⟨O', hB, hx1, h39, hx0⟩ => ⟨O', hB, h39⟩) ⟨rfl, rfl, rfl⟩ ⟨rfl, rfl⟩ ?_
    rintro k26 a27 s24 x25 w28 cc30 hx31 ⟨O29, hB, hx1, h39, hx0⟩ hf32 hret33 hbrk34
    have rk26 : inI64 (k26 : Int) := rngK hx31 l21
    refine ewp_seq ?_
    refine ewp_region ?_
    refine o_mv rfl rfl  ?_
    obtain ⟨b41, o42, ce43, hA44, hl45, hd46, rfl, r48⟩ := hx0.elem' hx31
    refine o_iaE (hA := hA44) (hj := rfl) (hlt := hl45) rfl rfl rfl  ?_
    refine o_ld (hc := cat0 hd46) rfl rfl  ?_
    refine o_as rfl rfl  ?_
    refine o_as rfl rfl  ?_
    (first | refine owp_nilT ?_ | refine owp_nilB ?_ | refine owp_nilBB ?_ | refine owp_nil ?_)
    refine ewp_region ?_
    refine o_mv rfl rfl  ?_
    refine o_mv rfl rfl  ?_
    refine o_mv rfl rfl  ?_
    refine o_mv rfl rfl  ?_
    obtain ⟨a49, e50, hf32⟩ := bs hf32
    obtain ⟨p52, x51⟩ := atI_some' e50
    obtain ⟨b53, o54, ce55, hA56, hl57, hd58, rfl, r60⟩ := hx1.elem' x51
    refine o_iaE (hA := hA56) (hj := (Int.toNat_of_nonneg p52).symm) (hlt := hl57) rfl rfl rfl  ?_
    refine o_ld (hc := cat0 hd58) rfl rfl  ?_
    obtain ⟨a61, e62, hf32⟩ := bs hf32
    obtain ⟨b63, o64, ce65, hA66, hl67, hd68, rfl, r70⟩ := h39.elem e62
    refine o_iaE (hA := hA66) (hj := rfl) (hlt := hl67) rfl rfl rfl  ?_
    refine l_setE rfl h39 (a := a49) (vInt r60) hA66 rfl rfl (lt_of_get e62) fun w71 S72 h39 => ?_
    replace hB := hB.st S72 (by decide) (by decide)
    replace hx1 := hx1.st S72 (by decide)
    replace hx0 := hx0.st S72 (by decide)
    (first | refine owp_nilT ?_ | refine owp_nilB ?_ | refine owp_nilBB ?_ | refine owp_nil ?_)
    obtain rfl := sm hf32
    refine (?_ : Exists _)
    exact ⟨_, (x25.1, x25.2), rfl, ⟨rfl, rfl, rfl, (congrArg (fun n => some (Value.slice _ n _)) ((by simp : (s24.set k26 a49).length = s24.length).trans rfl).symm), rfl, trivial⟩, _, hB, hx1, h39.relen, hx0⟩
  rintro l73 w74 ⟨s77, x78, rfl, hs76, O75, hB, h39⟩
  replace hm := fin_done hm
  refine ewp_sub _ hs76 ?_
  refine ewp_seq ?_
  refine ewp_region ?_
  refine o_mv rfl rfl  ?_
  refine o_as rfl rfl  ?_
  (first | refine owp_nilT ?_ | refine owp_nilB ?_ | refine owp_nilBB ?_ | refine owp_nil ?_)
  refine ewp_ret ?_
  obtain ⟨O79, S80, h39⟩ := h39.freeze
  replace hB := hB.st S80 (by decide) (by decide)
  obtain rfl := sm hm
  exact ret1v rfl (res_tmp rfl) ⟨hB.ext, (Vb.mono (F := Fr 0 w74 O79) h39 hB.out)⟩
noncomputable def m_symmetry_back (x0 : List Int) : Option (List Int) :=
  bnd (mkI 8 (0 : Int) (x0.length : Int)) fun u5 => bnd (rng (ρ := (List Int)) (fun (k24 : Nat) (a25 : Int) (s22 : (List Int)) => bnd (atI s22 a25) fun a47 => some (.next (s22.set (a25).toNat (k24 : Int)))) x0 0 u5) fun res20 => fin res20 fun (s65 : (List Int)) => some s65
theorem c_symmetry_back {w : World} {A : Nat → Prop} (hA : ∀ k, A k → k < w.heap.size) {vx0 : Value} {x0 : List Int} (hx0 : Vb w A vx0 x0) {r : (List Int)} (hm : m_symmetry_back x0 = some r) :
    Fn Try.prog 55 [vx0] w fun v w' => Ext w w' ∧ Vb w' (upA A w w') v r := by
  obtain ⟨O, hB, hA0⟩ := enter hA
  replace hx0 := hx0.mono hA0
  obtain ⟨A1, c2, rfl⟩ := hx0.form
  refine fn_enter Try.func55 rfl Try.ntmps55 rfl ?_
  unfold m_symmetry_back at hm
  refine ewp_seq ?_
  refine ewp_region ?_
  refine o_as rfl rfl  ?_
  (first | refine owp_nilT ?_ | refine owp_nilB ?_ | refine owp_nilBB ?_ | refine owp_nil ?_)
  refine ewp_seq ?_
  refine ewp_region ?_
  refine o_mv rfl rfl  ?_
  refine o_ln rfl rfl  ?_
  have l4 : x0.length ≤ 9223372036854775807 := Nat.le_trans hx0.len.2.1 hx0.len.2.2
  have r3 : inI64 (x0.length : Int) := rngNat l4
  obtain ⟨u5, e6, hm⟩ := bs hm
  obtain ⟨m7, e8, e9, e10, e11⟩ := mkI_some e6
  refine l_make 2 (by decide) O (z0 := (0 : Int)) rfl rfl rfl rfl rfl e8 (vInt (show inI64 0 from by decide)) e9 e10 rfl fun g12 w13 O14 S15 h16 => ?_
  rw [← e11] at h16 ⊢
  replace hB := hB.st S15 (fun h => h) (fun h => h)
  replace hx0 := hx0.st S15 (fun h => h)
  refine o_as rfl rfl  ?_
  (first | refine owp_nilT ?_ | refine owp_nilB ?_ | refine owp_nilBB ?_ | refine owp_nil ?_)
  refine ewp_seq ?_
  refine ewp_seq ?_
  refine ewp_region ?_
  refine o_mv rfl rfl  ?_
  refine o_ln rfl rfl  ?_
  have l19 : x0.length ≤ 9223372036854775807 := Nat.le_trans hx0.len.2.1 hx0.len.2.2
  have r18 : inI64 (x0.length : Int) := rngNat l19
  refine o_mv rfl rfl  ?_
  (first | refine owp_nilT ?_ | refine owp_nilB ?_ | refine owp_nilBB ?_ | refine owp_nil ?_)
  obtain ⟨res20, hL21, hm⟩ := bs hm
  refine ewp_join (aft res20 (fun (s22 : (List Int)) (x23 : (Option Addr × Nat)) => [(3, (.slice x23.1 s22.length x23.2))]) (fun s22 x23 w' => ∃ O' : Lab, Bs w A w' O' ∧ Rw 2 w' O' 3 (.slice x23.1 s22.length x23.2) s22)) ?_ ?_
  · refine ewp_block ?_
    refine ewp_rng (σ := (List Int)) (X := (Option Addr × Nat)) (x0.length) hL21 rfl l19 (fun (s22 : (List Int)) (x23 : (Option Addr × Nat)) => [(3, (.slice x23.1 s22.length x23.2)), (9, (.slice A1 x0.length c2))]) _ (fun s22 x23 w' => ∃ O' : Lab, Bs w A w' O' ∧ Rw 2 w' O' 3 (.slice x23.1 s22.length x23.2) s22 ∧ Vb w' (Fr 0 w' O') (.slice A1 x0.length c2) x0) _ ((some ⟨g12, 0, none⟩), m7) ⟨O14, hB, h16, hx0⟩ ⟨rfl, rfl, rfl, rfl, trivial⟩ (fun _ _ => ⟨rfl, rfl⟩) (fun _ _ => ⟨rfl, trivial⟩) (fun _ _ _ ⟨O', hB, h37, hx0⟩ => ⟨O', hB, h37⟩) ⟨rfl, rfl, rfl⟩ ⟨rfl, rfl⟩ ?_
    rintro k24 a25 s22 x23 w26 cc28 hx29 ⟨O27, hB, h37, hx0⟩ hf30 hret31 hbrk32
    have rk24 : inI64 (k24 : Int) := rngK hx29 l19
    refine ewp_seq ?_
    refine ewp_region ?_
    refine o_mv rfl rfl  ?_
    obtain ⟨b39, o40, ce41, hA42, hl43, hd44, rfl, r46⟩ := hx0.elem' hx29
    refine o_iaE (hA := hA42) (hj := rfl) (hlt := hl43) rfl rfl rfl  ?_
    refine o_ld (hc := cat0 hd44) rfl rfl  ?_
    refine o_as rfl rfl  ?_
    refine o_as rfl rfl  ?_
    (first | refine owp_nilT ?_ | refine owp_nilB ?_ | refine owp_nilBB ?_ | refine owp_nil ?_)
    refine ewp_region ?_
    refine o_mv rfl rfl  ?_
    refine o_mv rfl rfl  ?_
    refine o_mv rfl rfl  ?_
    obtain ⟨a47, e48, hf30⟩ := bs hf30
    obtain ⟨p50, x49⟩ := atI_some' e48
    obtain ⟨b51, o52, ce53, hA54, hl55, hd56, rfl, r58⟩ := h37.elem x49
    refine o_iaE (hA := hA54) (hj := (Int.toNat_of_nonneg p50).symm) (hlt := hl55) rfl rfl rfl  ?_
    refine l_setE rfl h37 (a := (k24 : Int)) (vInt rk24) hA54 rfl rfl (lt_of_get x49) fun w59 S60 h37 => ?_
    replace hB := hB.st S60 (by decide) (by decide)
    replace hx0 := hx0.st S60 (by decide)
    (first | refine owp_nilT ?_ | refine owp_nilB ?_ | refine owp_nilBB ?_ | refine owp_nil ?_)
    obtain rfl := sm hf30
    refine (?_ : Exists _)
    exact ⟨_, (x23.1, x23.2), rfl, ⟨rfl, rfl, (congrArg (fun n => some (Value.slice _ n _)) ((by simp : (s22.set (a25).toNat (k24 : Int)).length = s22.length).trans rfl).symm), rfl, trivial⟩, _, hB, h37.relen, hx0⟩
  rintro l61 w62 ⟨s65, x66, rfl, hs64, O63, hB, h37⟩
  replace hm := fin_done hm
  refine ewp_sub _ hs64 ?_
  refine ewp_seq ?_
  refine ewp_region ?_
  refine o_mv rfl rfl  ?_
  refine o_as rfl rfl  ?_
  (first | refine owp_nilT ?_ | refine owp_nilB ?_ | refine owp_nilBB ?_ | refine owp_nil ?_)
  refine ewp_ret ?_
  obtain ⟨O67, S68, h37⟩ := h37.freeze
  replace hB := hB.st S68 (by decide) (by decide)
  obtain rfl := sm hm
  exact ret1v rfl (res_tmp rfl) ⟨hB.ext, (Vb.mono (F := Fr 0 w62 O67) h37 hB.out)⟩
noncomputable def m_base_Facts (x0 : List Fct) (x1 : List Fct) : Option Bool :=
  if (x0.length : Int) ≠ (x1.length : Int) then (some false) else (bnd (rng (ρ := Bool) (fun (k16 : Nat) (a17 : Fct) (s14 : Unit) => bnd (x1[k16]?) fun a36 => if ¬ (a17.var = a36.var ∧ a17.val = a36.val) then (some (.ret false)) else (some (.next ()))) x0 0 ()) fun res12 => fin res12 fun (s52 : Unit) => some true)
theorem c_base_Facts {w : World} {A : Nat → Prop} (hA : ∀ k, A k → k < w.heap.size) {vx0 : Value} {x0 : List Fct} (hx0 : Vb w A vx0 x0) {vx1 : Value} {x1 : List Fct} (hx1 : Vb w A vx1 x1) {r : Bool} (hm : m_base_Facts x0 x1 = some r) :
    Fn Try.prog 42 [vx0, vx1] w fun v w' => Ext w w' ∧ Vb w' (upA A w w') v r := by
  obtain ⟨O, hB, hA0⟩ := enter hA
  replace hx0 := hx0.mono hA0
  obtain ⟨A1, c2, rfl⟩ := hx0.form
  replace hx1 := hx1.mono hA0
  obtain ⟨A3, c4, rfl⟩ := hx1.form
  refine fn_enter Try.func42 rfl Try.ntmps42 rfl ?_
  unfold m_base_Facts at hm
  refine ewp_seq ?_
  refine ewp_region ?_
  refine o_as rfl rfl  ?_
  (first | refine owp_nilT ?_ | refine owp_nilB ?_ | refine owp_nilBB ?_ | refine owp_nil ?_)
  refine ewp_seq ?_
  refine ewp_seq ?_
  refine ewp_region ?_
  refine o_mv rfl rfl  ?_
  refine o_ln rfl rfl  ?_
  have l6 : x0.length ≤ 9223372036854775807 := Nat.le_trans hx0.len.2.1 hx0.len.2.2
  have r5 : inI64 (x0.length : Int) := rngNat l6
  refine o_mv rfl rfl  ?_
  refine o_ln rfl rfl  ?_
  have l8 : x1.length ≤ 9223372036854775807 := Nat.le_trans hx1.len.2.1 hx1.len.2.2
  have r7 : inI64 (x1.length : Int) := rngNat l8
  refine o_neS rfl rfl rfl (fun c9 => ?_) fun c9 => ?_
  · replace hm := ip hm c9
    (first | refine owp_nilT ?_ | refine owp_nilB ?_ | refine owp_nilBB ?_ | refine owp_nil ?_)
    refine ewp_true rfl ?_
    refine ewp_seq ?_
    refine ewp_region ?_
    refine o_as rfl rfl  ?_
    (first | refine owp_nilT ?_ | refine owp_nilB ?_ | refine owp_nilBB ?_ | refine owp_nil ?_)
    refine ewp_ret ?_
    obtain rfl := sm hm
    exact ret1v rfl (res_tmp rfl) ⟨hB.ext, vBool⟩
  · replace hm := im hm c9
    (first | refine owp_nilT ?_ | refine owp_nilB ?_ | refine owp_nilBB ?_ | refine owp_nil ?_)
    refine ewp_false rfl ?_
    refine ewp_skip ?_
    refine ewp_seq ?_
    refine ewp_seq ?_
    refine ewp_region ?_
    refine o_mv rfl rfl  ?_
    refine o_ln rfl rfl  ?_
    have l11 : x0.length ≤ 9223372036854775807 := Nat.le_trans hx0.len.2.1 hx0.len.2.2
    have r10 : inI64 (x0.length : Int) := rngNat l11
    refine o_mv rfl rfl  ?_
    (first | refine owp_nilT ?_ | refine owp_nilB ?_ | refine owp_nilBB ?_ | refine owp_nil ?_)
    obtain ⟨res12, hL13, hm⟩ := bs hm
    refine ewp_join (aft res12 (fun (s14 : Unit) (x15 : Unit) => []) (fun s14 x15 w' => ∃ O' : Lab, Bs w A w' O')) ?_ ?_
    · refine ewp_block ?_
      refine ewp_rng (σ := Unit) (X := Unit) (x0.length) hL13 rfl l11 (fun (s14 : Unit) (x15 : Unit) => [(0, (.slice A1 x0.length c2)), (1, (.slice A3 x1.length c4))]) _ (fun s14 x15 w' => ∃ O' : Lab, Bs w A w' O' ∧ Vb w' (Fr 0 w' O') (.slice A1 x0.length c2) x0 ∧ Vb w' (Fr 0 w' O') (.slice A3 x1.length c4) x1) _ () ⟨O, hB, hx0, hx1⟩ ⟨rfl, rfl, rfl, rfl, trivial⟩ (fun _ _ => ⟨rfl, rfl⟩) (fun _ _ => trivial) (fun _ _ _ ⟨O', hB, hx0, hx1⟩ => ⟨O', hB⟩) ⟨rfl, rfl, rfl⟩ ⟨rfl, rfl⟩ ?_
      rintro k16 a17 s14 x15 w18 cc20 hx21 ⟨O19, hB, hx0, hx1⟩ hf22 hret23 hbrk24
      have rk16 : inI64 (k16 : Int) := rngK hx21 l11
      refine ewp_seq ?_
      refine ewp_region ?_
      refine o_mv rfl rfl  ?_
      refine o_as rfl rfl  ?_
      (first | refine owp_nilT ?_ | refine owp_nilB ?_ | refine owp_nilBB ?_ | refine owp_nil ?_)
      refine ewp_seq ?_
      refine ewp_draw (· = w18) [(0, true), (1, true), (2, true), (3, true), (4, true), (5, true), (6, true), (7, true), (8, true)] (by kernel_rfl) rfl (by kernel_rfl) rfl ?_
      refine h_mv rfl rfl rfl  ?_
      refine h_mv rfl rfl rfl  ?_
      obtain ⟨b27, o28, ce29, hA30, hl31, hd32, rfl, r34, r35⟩ := hx0.elem' hx21
      refine h_iaE (hA := hA30) (hj := rfl) (hlt := hl31) rfl rfl rfl rfl  ?_
      refine h_laA (hl := rfl) (hc := hd32) rfl rfl rfl  ?_
      refine h_mv rfl rfl rfl  ?_
      refine h_mv rfl rfl rfl  ?_
      obtain ⟨a36, e37, hf22⟩ := bs hf22
      obtain ⟨b38, o39, ce40, hA41, hl42, hd43, rfl, r45, r46⟩ := hx1.elem' e37
      refine h_iaE (hA := hA41) (hj := rfl) (hlt := hl42) rfl rfl rfl rfl  ?_
      refine h_laA (hl := rfl) (hc := hd43) rfl rfl rfl  ?_
      refine h_fnS rfl rfl rfl rfl (fun c47 => ?_) fun c47 => ?_
      · replace hf22 := ip hf22 c47
        (first | refine hwp_nilT ?_ | refine hwp_nilB ?_ | refine hwp_nil ?_)
        refine ewp_true rfl ?_
        refine ewp_seq ?_
        refine ewp_region ?_
        refine o_as rfl rfl  ?_
        (first | refine owp_nilT ?_ | refine owp_nilB ?_ | refine owp_nilBB ?_ | refine owp_nil ?_)
        refine ewp_ret ?_
        obtain rfl := sm hf22
        obtain rfl := hret23 _ rfl
        obtain rfl := sm (fin_ret hm)
        exact ret1v rfl (res_tmp rfl) ⟨hB.ext, vBool⟩
      · replace hf22 := im hf22 c47
        (first | refine hwp_nilT ?_ | refine hwp_nilB ?_ | refine hwp_nil ?_)
        refine ewp_false rfl ?_
        refine ewp_skip ?_
        obtain rfl := sm hf22
        refine (?_ : Exists _)
        exact ⟨_, (), rfl, ⟨rfl, rfl, rfl, rfl, trivial⟩, _, hB, hx0, hx1⟩
    rintro l48 w49 ⟨s52, x53, rfl, hs51, O50, hB⟩
    replace hm := fin_done hm
    refine ewp_sub _ hs51 ?_
    refine ewp_seq ?_
    refine ewp_region ?_
    refine o_as rfl rfl  ?_
    (first | refine owp_nilT ?_ | refine owp_nilB ?_ | refine owp_nilBB ?_ | refine owp_nil ?_)
    refine ewp_ret ?_
    obtain rfl := sm hm
    exact ret1v rfl (res_tmp rfl) ⟨hB.ext, vBool⟩
noncomputable def m_base_Is (x0 : Err) (x1 : Int) : Option Bool :=
  bnd (if x0.n ≠ 0 then (bnd (m_base_Num (⟨x0.n⟩ : Err)) fun q6 => if q6 = x1 then (some true) else (some false)) else (some false) : Option Bool) fun y1 => some y1
theorem c_base_Is {w : World} {A : Nat → Prop} (hA : ∀ k, A k → k < w.heap.size) {x0 : Err} (rx0 : inI64 x0.n) {x1 : Int} (rx1 : inI64 x1) {r : Bool} (hm : m_base_Is x0 x1 = some r) :
    Fn Try.prog 17 [(errV x0.n), (.int .i64 x1)] w fun v w' => Ext w w' ∧ Vb w' (upA A w w') v r := by
  obtain ⟨O, hB, hA0⟩ := enter hA
  refine fn_enter Try.func17 rfl Try.ntmps17 rfl ?_
  unfold m_base_Is at hm
  refine ewp_seq ?_
  refine ewp_region ?_
  refine o_as rfl rfl  ?_
  (first | refine owp_nilT ?_ | refine owp_nilB ?_ | refine owp_nilBB ?_ | refine owp_nil ?_)
  refine ewp_seq ?_
  obtain ⟨y1, hy2, hm⟩ := bs hm
  refine ewp_join (fun l' w' => ∃ (x4 : Unit) (O' : Lab), subs l' [(4, (.bool y1))] ∧ Bs w A w' O') ?_ ?_
  · skip
    refine ewp_region ?_
    refine o_mv rfl rfl  ?_
    refine o_rnS rfl rfl (fun c5 => ?_) fun c5 => ?_
    · replace hy2 := ip hy2 c5
      refine o_mv rfl rfl  ?_
      refine owp_yes rfl rfl ?_
      refine o_mv rfl rfl  ?_
      refine owp_yes rfl rfl ?_
      obtain ⟨q6, e7, hy2⟩ := bs hy2
      refine l_callA (O := O) (A := All w) (R := fun w' F v => Vb w' F v q6) (c_base_Num (fun _ h => h) rx0 e7) rfl rfl fun v12 w8 O9 S10 h11 => ?_
      obtain ⟨rfl, r13⟩ := h11.int
      replace hB := hB.st S10 (fun h => h) (fun h => h)
      refine owp_yes rfl rfl ?_
      refine o_mv rfl rfl  ?_
      refine owp_yes rfl rfl ?_
      refine o_eeS rfl rfl rfl (fun c14 => ?_) fun c14 => ?_
      · replace hy2 := ip hy2 c14
        refine o_pt rfl rfl rfl  ?_
        refine o_as rfl rfl  ?_
        (first | refine owp_nilT ?_ | refine owp_nilB ?_ | refine owp_nilBB ?_ | refine owp_nil ?_)
        obtain rfl := sm hy2
        exact ⟨(), _, ⟨rfl, trivial⟩, hB⟩
      · replace hy2 := im hy2 c14
        refine o_pt rfl rfl rfl  ?_
        refine o_as rfl rfl  ?_
        (first | refine owp_nilT ?_ | refine owp_nilB ?_ | refine owp_nilBB ?_ | refine owp_nil ?_)
        obtain rfl := sm hy2
        exact ⟨(), _, ⟨rfl, trivial⟩, hB⟩
    · replace hy2 := im hy2 c5
      refine o_mv rfl rfl  ?_
      refine owp_no rfl rfl rfl rfl ?_
      refine owp_no rfl rfl rfl rfl ?_
      refine owp_no rfl rfl rfl rfl ?_
      refine owp_no rfl rfl rfl rfl ?_
      refine o_pf rfl rfl rfl  ?_
      refine o_as rfl rfl  ?_
      (first | refine owp_nilT ?_ | refine owp_nilB ?_ | refine owp_nilBB ?_ | refine owp_nil ?_)
      obtain rfl := sm hy2
      exact ⟨(), _, ⟨rfl, trivial⟩, hB⟩
  rintro l15 w16 ⟨x4, O17, hs18, hB⟩
  refine ewp_sub _ hs18 ?_
  refine ewp_ret ?_
  obtain rfl := sm hm
  exact ret1v rfl (res_tmp rfl) ⟨hB.ext, vBool⟩
noncomputable def m_ref06_Value (x0 : List Fct) (x1 : Int) : Option Int :=
  bnd (rng (ρ := Int) (fun (k9 : Nat) (a10 : Fct) (s7 : Unit) => if a10.var = x1 then (some (.ret a10.val)) else (some (.next ()))) x0 0 ()) fun res5 => fin res5 fun (s41 : Unit) => some (-1)
theorem c_ref06_Value {w : World} {A : Nat → Prop} (hA : ∀ k, A k → k < w.heap.size) {vx0 : Value} {x0 : List Fct} (hx0 : Vb w A vx0 x0) {x1 : Int} (rx1 : inI64 x1) {r : Int} (hm : m_ref06_Value x0 x1 = some r) :
    Fn Try.prog 90 [vx0, (.int .i64 x1)] w fun v w' => Ext w w' ∧ Vb w' (upA A w w') v r := by
  obtain ⟨O, hB, hA0⟩ := enter hA
  replace hx0 := hx0.mono hA0
  obtain ⟨A1, c2, rfl⟩ := hx0.form
  refine fn_enter Try.func90 rfl Try.ntmps90 rfl ?_
  unfold m_ref06_Value at hm
  refine ewp_seq ?_
  refine ewp_region ?_
  refine o_as rfl rfl  ?_
  (first | refine owp_nilT ?_ | refine owp_nilB ?_ | refine owp_nilBB ?_ | refine owp_nil ?_)
  refine ewp_seq ?_
  refine ewp_seq ?_
  refine ewp_region ?_
  refine o_mv rfl rfl  ?_
  refine o_ln rfl rfl  ?_
  have l4 : x0.length ≤ 9223372036854775807 := Nat.le_trans hx0.len.2.1 hx0.len.2.2
  have r3 : inI64 (x0.length : Int) := rngNat l4
  refine o_mv rfl rfl  ?_
  (first | refine owp_nilT ?_ | refine owp_nilB ?_ | refine owp_nilBB ?_ | refine owp_nil ?_)
  obtain ⟨res5, hL6, hm⟩ := bs hm
  refine ewp_join (aft res5 (fun (s7 : Unit) (x8 : Unit) => []) (fun s7 x8 w' => ∃ O' : Lab, Bs w A w' O')) ?_ ?_
  · refine ewp_block ?_
    refine ewp_rng (σ := Unit) (X := Unit) (x0.length) hL6 rfl l4 (fun (s7 : Unit) (x8 : Unit) => [(1, (.int .i64 x1)), (7, (.slice A1 x0.length c2))]) _ (fun s7 x8 w' => ∃ O' : Lab, Bs w A w' O' ∧ Vb w' (Fr 0 w' O') (.slice A1 x0.length c2) x0) _ () ⟨O, hB, hx0⟩ ⟨rfl, rfl, rfl, rfl, trivial⟩ (fun _ _ => ⟨rfl, rfl⟩) (fun _ _ => trivial) (fun _ _ _ ⟨O', hB, hx0⟩ => ⟨O', hB⟩) ⟨rfl, rfl, rfl⟩ ⟨rfl, rfl⟩ ?_
    rintro k9 a10 s7 x8 w11 cc13 hx14 ⟨O12, hB, hx0⟩ hf15 hret16 hbrk17
    have rk9 : inI64 (k9 : Int) := rngK hx14 l4
    refine ewp_seq ?_
    refine ewp_region ?_
    obtain ⟨b20, o21, ce22, hA23, hl24, hd25, rfl, r27, r28⟩ := hx0.elem' hx14
    refine o_iaE (hA := hA23) (hj := rfl) (hlt := hl24) rfl rfl rfl  ?_
    refine o_la (hl := rfl) (hc := hd25) rfl rfl  ?_
    refine l_alloc 2 O12 rfl fun g29 w30 O31 S32 h33 => ?_
    replace hB := hB.st S32 (fun h => h) (fun h => h)
    replace hx0 := hx0.st S32 (fun h => h)
    refine l_store h33 rfl rfl rfl (Nat.le_of_ble_eq_true rfl) (by first | exact allOne rfl | simp [Value.cells, Value.oneCell', errV_one]) fun w34 S35 h33 => ?_
    replace h33 : Lc 2 w34 O31 g29 103 [(.int .i64 a10.var), (.int .i64 a10.val)] := h33
    replace hB := hB.st S35 (by decide) (by decide)
    replace hx0 := hx0.st S35 (by decide)
    (first | refine owp_nilT ?_ | refine owp_nilB ?_ | refine owp_nilBB ?_ | refine owp_nil ?_)
    refine ewp_seq ?_
    refine ewp_region ?_
    refine o_fa rfl rfl  ?_
    refine o_ld (hc := Blk.cell (i := 0) (h33.1) rfl) rfl rfl  ?_
    refine o_mv rfl rfl  ?_
    refine o_eeS rfl rfl rfl (fun c36 => ?_) fun c36 => ?_
    · replace hf15 := ip hf15 c36
      (first | refine owp_nilT ?_ | refine owp_nilB ?_ | refine owp_nilBB ?_ | refine owp_nil ?_)
      refine ewp_true rfl ?_
      refine ewp_seq ?_
      refine ewp_region ?_
      refine o_fa rfl rfl  ?_
      refine o_ld (hc := Blk.cell (i := 1) (h33.1) rfl) rfl rfl  ?_
      refine o_as rfl rfl  ?_
      (first | refine owp_nilT ?_ | refine owp_nilB ?_ | refine owp_nilBB ?_ | refine owp_nil ?_)
      refine ewp_ret ?_
      obtain rfl := sm hf15
      obtain rfl := hret16 _ rfl
      obtain rfl := sm (fin_ret hm)
      exact ret1v rfl (res_tmp rfl) ⟨hB.ext, (vInt r28)⟩
    · replace hf15 := im hf15 c36
      (first | refine owp_nilT ?_ | refine owp_nilB ?_ | refine owp_nilBB ?_ | refine owp_nil ?_)
      refine ewp_false rfl ?_
      refine ewp_skip ?_
      obtain rfl := sm hf15
      refine (?_ : Exists _)
      exact ⟨_, (), rfl, ⟨rfl, rfl, rfl, rfl, trivial⟩, _, hB, hx0⟩
  rintro l37 w38 ⟨s41, x42, rfl, hs40, O39, hB⟩
  replace hm := fin_done hm
  refine ewp_sub _ hs40 ?_
  refine ewp_seq ?_
  refine ewp_region ?_
  refine o_as rfl rfl  ?_
  (first | refine owp_nilT ?_ | refine owp_nilB ?_ | refine owp_nilBB ?_ | refine owp_nil ?_)
  refine ewp_ret ?_
  obtain rfl := sm hm
  exact ret1v rfl (res_tmp rfl) ⟨hB.ext, (vInt (show inI64 (-1) from by decide))⟩
noncomputable def m_ref06_With (x0 : List Fct) (x1 : Fct) : Option (List Fct) :=
  bnd (rng (ρ := (List Fct)) (fun (k17 : Nat) (a18 : Fct) (s15 : (List Fct) × Bool) => bnd (bnd (if (!s15.2) = true then (if x1.var < a18.var then (some true) else (some false)) else (some false) : Option Bool) fun y54 => if y54 = true then (bnd (appI 16 s15.1 [x1]) fun u65 => some (u65, true)) else (some (s15.1, s15.2)) : Option ((List Fct) × Bool)) fun y48 => bnd (appI 16 y48.1 [a18]) fun u81 => some (.next (u81, y48.2))) x0 0 (([] : List Fct), false)) fun res13 => fin res13 fun (s97 : (List Fct) × Bool) => bnd (if (!s97.2) = true then (bnd (appI 16 s97.1 [x1]) fun u106 => some u106) else (some s97.1) : Option (List Fct)) fun y99 => some y99
theorem c_ref06_With {w : World} {A : Nat → Prop} (hA : ∀ k, A k → k < w.heap.size) {vx0 : Value} {x0 : List Fct} (hx0 : Vb w A vx0 x0) {vx1 : Value} {x1 : Fct} (hx1 : Vb w A vx1 x1) {r : (List Fct)} (hm : m_ref06_With x0 x1 = some r) :
    Fn Try.prog 91 [vx0, vx1] w fun v w' => Ext w w' ∧ Vb w' (upA A w w') v r := by
  obtain ⟨O, hB, hA0⟩ := enter hA
  replace hx0 := hx0.mono hA0
  obtain ⟨A1, c2, rfl⟩ := hx0.form
  replace hx1 := hx1.mono hA0
  obtain ⟨cs3, rfl, rfl, r4, r5⟩ := hx1
  refine fn_enter Try.func91 rfl Try.ntmps91 rfl ?_
  unfold m_ref06_With at hm
  refine ewp_seq ?_
  refine ewp_region ?_
  refine l_box 2 O rfl rfl fun g6 w7 O8 S9 h10 => ?_
  replace h10 : Lc 2 w7 O8 g6 103 [(.int .i64 x1.var), (.int .i64 x1.val)] := h10
  replace hB := hB.st S9 (fun h => h) (fun h => h)
  replace hx0 := hx0.st S9 (fun h => h)
  refine o_as rfl rfl  ?_
  (first | refine owp_nilT ?_ | refine owp_nilB ?_ | refine owp_nilBB ?_ | refine owp_nil ?_)
  refine ewp_seq ?_
  refine ewp_region ?_
  refine o_as rfl rfl  ?_
  (first | refine owp_nilT ?_ | refine owp_nilB ?_ | refine owp_nilBB ?_ | refine owp_nil ?_)
  refine ewp_seq ?_
  refine ewp_region ?_
  refine o_as rfl rfl  ?_
  (first | refine owp_nilT ?_ | refine owp_nilB ?_ | refine owp_nilBB ?_ | refine owp_nil ?_)
  refine ewp_seq ?_
  refine ewp_seq ?_
  refine ewp_region ?_
  refine o_mv rfl rfl  ?_
  refine o_ln rfl rfl  ?_
  have l12 : x0.length ≤ 9223372036854775807 := Nat.le_trans hx0.len.2.1 hx0.len.2.2
  have r11 : inI64 (x0.length : Int) := rngNat l12
  refine o_mv rfl rfl  ?_
  (first | refine owp_nilT ?_ | refine owp_nilB ?_ | refine owp_nilBB ?_ | refine owp_nil ?_)
  obtain ⟨res13, hL14, hm⟩ := bs hm
  refine ewp_join (aft res13 (fun (s15 : (List Fct) × Bool) (x16 : (Option Addr × Nat)) => [(3, (.pointer (some ⟨g6, 0, none⟩))), (5, (.slice x16.1 s15.1.length x16.2)), (6, (.bool s15.2))]) (fun s15 x16 w' => ∃ O' : Lab, Bs w A w' O' ∧ Lc 2 w' O' g6 103 [(.int .i64 x1.var), (.int .i64 x1.val)] ∧ Rw 4 w' O' 103 (.slice x16.1 s15.1.length x16.2) s15.1)) ?_ ?_
  · refine ewp_block ?_
    refine ewp_rng (σ := (List Fct) × Bool) (X := (Option Addr × Nat)) (x0.length) hL14 rfl l12 (fun (s15 : (List Fct) × Bool) (x16 : (Option Addr × Nat)) => [(3, (.pointer (some ⟨g6, 0, none⟩))), (5, (.slice x16.1 s15.1.length x16.2)), (6, (.bool s15.2)), (9, (.slice A1 x0.length c2))]) _ (fun s15 x16 w' => ∃ O' : Lab, Bs w A w' O' ∧ Lc 2 w' O' g6 103 [(.int .i64 x1.var), (.int .i64 x1.val)] ∧ Rw 4 w' O' 103 (.slice x16.1 s15.1.length x16.2) s15.1 ∧ Vb w' (Fr 0 w' O') (.slice A1 x0.length c2) x0) _ (none, 0) ⟨O8, hB, h10, (Rw.nil 4 (by decide)), hx0⟩ ⟨rfl, rfl, rfl, rfl, rfl, rfl, trivial⟩ (fun _ _ => ⟨rfl, rfl⟩) (fun _ _ => ⟨rfl, rfl, rfl, trivial⟩) (fun _ _ _ ⟨O', hB, h10, h30, hx0⟩ => ⟨O', hB, h10, h30⟩) ⟨rfl, rfl, rfl⟩ ⟨rfl, rfl⟩ ?_
    rintro k17 a18 s15 x16 w19 cc21 hx22 ⟨O20, hB, h10, h30, hx0⟩ hf23 hret24 hbrk25
    have rk17 : inI64 (k17 : Int) := rngK hx22 l12
    refine ewp_seq ?_
    refine ewp_region ?_
    obtain ⟨b32, o33, ce34, hA35, hl36, hd37, rfl, r39, r40⟩ := hx0.elem' hx22
    refine o_iaE (hA := hA35) (hj := rfl) (hlt := hl36) rfl rfl rfl  ?_
    refine o_la (hl := rfl) (hc := hd37) rfl rfl  ?_
    refine l_alloc 3 O20 rfl fun g41 w42 O43 S44 h45 => ?_
    replace hB := hB.st S44 (fun h => h) (fun h => h)
    replace h10 := h10.st S44 (fun h => h)
    replace h30 := h30.st S44 (fun h => h) (fun h => h)
    replace hx0 := hx0.st S44 (fun h => h)
    refine l_store h45 rfl rfl rfl (Nat.le_of_ble_eq_true rfl) (by first | exact allOne rfl | simp [Value.cells, Value.oneCell', errV_one]) fun w46 S47 h45 => ?_
    replace h45 : Lc 3 w46 O43 g41 103 [(.int .i64 a18.var), (.int .i64 a18.val)] := h45
    replace hB := hB.st S47 (by decide) (by decide)
    replace h10 := h10.st S47 (by decide)
    replace h30 := h30.st S47 (by decide) (by decide)
    replace hx0 := hx0.st S47 (by decide)
    (first | refine owp_nilT ?_ | refine owp_nilB ?_ | refine owp_nilBB ?_ | refine owp_nil ?_)
    refine ewp_seq ?_
    obtain ⟨y48, hy49, hf23⟩ := bs hf23
    refine ewp_join (fun l' w' => ∃ (x51 : (Option Addr × Nat)) (O' : Lab), subs l' [(3, (.pointer (some ⟨g6, 0, none⟩))), (5, (.slice x51.1 y48.1.length x51.2)), (6, (.bool y48.2)), (8, (.pointer (some ⟨g41, 0, none⟩))), (9, (.slice A1 x0.length c2)), (10, (.int .i64 (x0.length : Int))), (11, (.int .i64 (k17 : Int)))] ∧ Bs w A w' O' ∧ Lc 2 w' O' g6 103 [(.int .i64 x1.var), (.int .i64 x1.val)] ∧ Rw 4 w' O' 103 (.slice x51.1 y48.1.length x51.2) y48.1 ∧ Lc 3 w' O' g41 103 [(.int .i64 a18.var), (.int .i64 a18.val)] ∧ Vb w' (Fr 0 w' O') (.slice A1 x0.length c2) x0) ?_ ?_
    · skip
      refine ewp_seq ?_
      obtain ⟨y54, hy55, hy49⟩ := bs hy49
      refine ewp_join (fun l' w' => ∃ (x57 : Unit) (O' : Lab), subs l' [(3, (.pointer (some ⟨g6, 0, none⟩))), (5, (.slice x16.1 s15.1.length x16.2)), (6, (.bool s15.2)), (8, (.pointer (some ⟨g41, 0, none⟩))), (9, (.slice A1 x0.length c2)), (10, (.int .i64 (x0.length : Int))), (11, (.int .i64 (k17 : Int))), (23, (.bool y54))] ∧ Bs w A w' O' ∧ Lc 2 w' O' g6 103 [(.int .i64 x1.var), (.int .i64 x1.val)] ∧ Rw 4 w' O' 103 (.slice x16.1 s15.1.length x16.2) s15.1 ∧ Lc 3 w' O' g41 103 [(.int .i64 a18.var), (.int .i64 a18.val)] ∧ Vb w' (Fr 0 w' O') (.slice A1 x0.length c2) x0) ?_ ?_
      · skip
        refine ewp_region ?_
        refine o_mv rfl rfl  ?_
        refine o_nn rfl rfl  ?_
        refine o_mv rfl rfl  ?_
        rcases Bool.eq_false_or_eq_true (!s15.2) with c58 | c58
        · try simp only [c58]
          replace hy55 := ip hy55 c58
          refine owp_yes rfl rfl ?_
          refine o_fa rfl rfl  ?_
          refine owp_yes rfl rfl ?_
          refine o_ld (hc := Blk.cell (i := 0) (h45.1) rfl) rfl rfl  ?_
          refine owp_yes rfl rfl ?_
          refine o_fa rfl rfl  ?_
          refine owp_yes rfl rfl ?_
          refine o_ld (hc := Blk.cell (i := 0) (h10.1) rfl) rfl rfl  ?_
          refine owp_yes rfl rfl ?_
          refine o_gtS rfl rfl rfl (fun c59 => ?_) fun c59 => ?_
          · replace hy55 := ip hy55 c59
            refine o_pt rfl rfl rfl  ?_
            (first | refine owp_nilT ?_ | refine owp_nilB ?_ | refine owp_nilBB ?_ | refine owp_nil ?_)
            obtain rfl := sm hy55
            exact ⟨(), _, ⟨rfl, rfl, rfl, rfl, rfl, rfl, rfl, rfl, trivial⟩, hB, h10, h30, h45, hx0⟩
          · replace hy55 := im hy55 c59
            refine o_pt rfl rfl rfl  ?_
            (first | refine owp_nilT ?_ | refine owp_nilB ?_ | refine owp_nilBB ?_ | refine owp_nil ?_)
            obtain rfl := sm hy55
            exact ⟨(), _, ⟨rfl, rfl, rfl, rfl, rfl, rfl, rfl, rfl, trivial⟩, hB, h10, h30, h45, hx0⟩
        · try simp only [c58]
          replace hy55 := im' hy55 c58
          refine owp_no rfl rfl rfl rfl ?_
          refine owp_no rfl rfl rfl rfl ?_
          refine owp_no rfl rfl rfl rfl ?_
          refine owp_no rfl rfl rfl rfl ?_
          refine owp_no rfl rfl rfl rfl ?_
          refine o_pf rfl rfl rfl  ?_
          (first | refine owp_nilT ?_ | refine owp_nilB ?_ | refine owp_nilBB ?_ | refine owp_nil ?_)
          obtain rfl := sm hy55
          exact ⟨(), _, ⟨rfl, rfl, rfl, rfl, rfl, rfl, rfl, rfl, trivial⟩, hB, h10, h30, h45, hx0⟩
      rintro l60 w61 ⟨x57, O62, hs63, hB, h10, h30, h45, hx0⟩
      refine ewp_sub _ hs63 ?_
      refine ewp_cond rfl (fun c64 => ?_) (fun c64 => ?_)
      · replace hy49 := ip hy49 c64
        refine ewp_seq ?_
        refine ewp_region ?_
        refine o_mv rfl rfl  ?_
        refine o_la (hl := rfl) (hc := (h10.1).cellsAt) rfl rfl  ?_
        obtain ⟨u65, e66, hy49⟩ := bs hy49
        obtain ⟨e66, e67, e68⟩ := appI_some e66
        refine l_append1 rfl (a := x1) h30 (Vb.ofAgg (cs := [(.int .i64 x1.var), (.int .i64 x1.val)]) (x := x1) rfl ⟨rfl, r4, r5⟩) (fun _ => rfl) rfl (by decide) (by decide) e67 e68 ⟨rfl, rfl⟩ fun g69 A70 c71 w72 O73 S74 h75 => ?_
        rw [← e66] at h75 ⊢
        replace hB := hB.st S74 (by decide) (by decide)
        replace h10 := h10.st S74 (by decide)
        replace h45 := h45.st S74 (by decide)
        replace hx0 := hx0.st S74 (by decide)
        refine o_as rfl rfl  ?_
        (first | refine owp_nilT ?_ | refine owp_nilB ?_ | refine owp_nilBB ?_ | refine owp_nil ?_)
        refine ewp_region ?_
        refine o_as rfl rfl  ?_
        (first | refine owp_nilT ?_ | refine owp_nilB ?_ | refine owp_nilBB ?_ | refine owp_nil ?_)
        obtain rfl := sm hy49
        exact ⟨(A70, c71), _, ⟨rfl, rfl, rfl, rfl, rfl, rfl, rfl, trivial⟩, hB, h10, h75, h45, hx0⟩
      · replace hy49 := im' hy49 c64
        refine ewp_skip ?_
        obtain rfl := sm hy49
        exact ⟨(x16.1, x16.2), _, ⟨rfl, rfl, rfl, rfl, rfl, rfl, rfl, trivial⟩, hB, h10, h30, h45, hx0⟩
    rintro l77 w78 ⟨x51, O79, hs80, hB, h10, h52, h45, hx0⟩
    refine ewp_sub _ hs80 ?_
    refine ewp_region ?_
    refine o_mv rfl rfl  ?_
    refine o_la (hl := rfl) (hc := (h45.1).cellsAt) rfl rfl  ?_
    obtain ⟨u81, e82, hf23⟩ := bs hf23
    obtain ⟨e82, e83, e84⟩ := appI_some e82
    refine l_append1 rfl (a := a18) h52 (Vb.ofAgg (cs := [(.int .i64 a18.var), (.int .i64 a18.val)]) (x := a18) rfl ⟨rfl, r39, r40⟩) (fun _ => rfl) rfl (by decide) (by decide) e83 e84 ⟨rfl, rfl⟩ fun g85 A86 c87 w88 O89 S90 h91 => ?_
    rw [← e82] at h91 ⊢
    replace hB := hB.st S90 (by decide) (by decide)
    replace h10 := h10.st S90 (by decide)
    replace hx0 := hx0.st S90 (by decide)
    refine o_as rfl rfl  ?_
    (first | refine owp_nilT ?_ | refine owp_nilB ?_ | refine owp_nilBB ?_ | refine owp_nil ?_)
    obtain rfl := sm hf23
    refine (?_ : Exists _)
    exact ⟨_, (A86, c87), rfl, ⟨rfl, rfl, rfl, rfl, rfl, rfl, trivial⟩, _, hB, h10, h91, hx0⟩
  rintro l93 w94 ⟨s97, x98, rfl, hs96, O95, hB, h10, h30⟩
  replace hm := fin_done hm
  refine ewp_sub _ hs96 ?_
  refine ewp_seq ?_
  obtain ⟨y99, hy100, hm⟩ := bs hm
  refine ewp_join (fun l' w' => ∃ (x102 : (Option Addr × Nat)) (O' : Lab), subs l' [(5, (.slice x102.1 y99.length x102.2))] ∧ Bs w A w' O' ∧ Rw 4 w' O' 103 (.slice x102.1 y99.length x102.2) y99) ?_ ?_
  · skip
    refine ewp_seq ?_
    refine ewp_region ?_
    refine o_mv rfl rfl  ?_
    refine o_nn rfl rfl  ?_
    (first | refine owp_nilT ?_ | refine owp_nilB ?_ | refine owp_nilBB ?_ | refine owp_nil ?_)
    refine ewp_cond rfl (fun c105 => ?_) (fun c105 => ?_)
    · replace hy100 := ip hy100 c105
      refine ewp_region ?_
      refine o_mv rfl rfl  ?_
      refine o_la (hl := rfl) (hc := (h10.1).cellsAt) rfl rfl  ?_
      obtain ⟨u106, e107, hy100⟩ := bs hy100
      obtain ⟨e107, e108, e109⟩ := appI_some e107
      refine l_append1 rfl (a := x1) h30 (Vb.ofAgg (cs := [(.int .i64 x1.var), (.int .i64 x1.val)]) (x := x1) rfl ⟨rfl, r4, r5⟩) (fun _ => rfl) rfl (by decide) (by decide) e108 e109 ⟨rfl, rfl⟩ fun g110 A111 c112 w113 O114 S115 h116 => ?_
      rw [← e107] at h116 ⊢
      replace hB := hB.st S115 (by decide) (by decide)
      refine o_as rfl rfl  ?_
      (first | refine owp_nilT ?_ | refine owp_nilB ?_ | refine owp_nilBB ?_ | refine owp_nil ?_)
      obtain rfl := sm hy100
      exact ⟨(A111, c112), _, ⟨rfl, trivial⟩, hB, h116⟩
    · replace hy100 := im' hy100 c105
      refine ewp_skip ?_
      obtain rfl := sm hy100
      exact ⟨(x98.1, x98.2), _, ⟨rfl, trivial⟩, hB, h30⟩
  rintro l118 w119 ⟨x102, O120, hs121, hB, h103⟩
  refine ewp_sub _ hs121 ?_
  refine ewp_seq ?_
  refine ewp_region ?_
  refine o_mv rfl rfl  ?_
  refine o_as rfl rfl  ?_
  (first | refine owp_nilT ?_ | refine owp_nilB ?_ | refine owp_nilBB ?_ | refine owp_nil ?_)
  refine ewp_ret ?_
  obtain ⟨O122, S123, h103⟩ := h103.freeze
  replace hB := hB.st S123 (by decide) (by decide)
  obtain rfl := sm hm
  exact ret1v rfl (res_tmp rfl) ⟨hB.ext, (Vb.mono (F := Fr 0 w119 O122) h103 hB.out)⟩
noncomputable def m_ref06_Make (x0 : List Fct) : Option ((List Fct) × Int) :=
  bnd (rng (ρ := (List Fct) × Int) (fun (k9 : Nat) (a10 : Fct) (s7 : Unit) => bnd (if a10.var < 0 then (some true) else (if a10.val < 0 then (some true) else (some false)) : Option Bool) fun y36 => if y36 = true then (some (.ret (([] : List Fct), 1))) else (some (.next ()))) x0 0 ()) fun res5 => fin res5 fun (s51 : Unit) => bnd (rng (ρ := (List Fct) × Int) (fun (k59 : Nat) (a60 : Fct) (s57 : (List Fct)) => bnd (m_ref06_Value s57 a60.var) fun q88 => bnd (if 0 ≤ q88 then (if q88 ≠ a60.val then (some true) else (some false)) else (some false) : Option Bool) fun y96 => if y96 = true then (some (.ret (([] : List Fct), 2))) else (if q88 < 0 then (bnd (m_ref06_With s57 a60) fun q108 => some (.next q108)) else (some (.next s57)))) x0 0 ([] : List Fct)) fun res55 => fin res55 fun (s121 : (List Fct)) => some (s121, 0)
theorem c_ref06_Make {w : World} {A : Nat → Prop} (hA : ∀ k, A k → k < w.heap.size) {vx0 : Value} {x0 : List Fct} (hx0 : Vb w A vx0 x0) {r : (List Fct) × Int} (hm : m_ref06_Make x0 = some r) :
    Fn Try.prog 79 [vx0] w fun v w' => Ext w w' ∧ T2 w' (upA A w w') v r := by
  obtain ⟨O, hB, hA0⟩ := enter hA
  replace hx0 := hx0.mono hA0
  obtain ⟨A1, c2, rfl⟩ := hx0.form
  refine fn_enter Try.func79 rfl Try.ntmps79 rfl ?_
  unfold m_ref06_Make at hm
  refine ewp_seq ?_
  refine ewp_region ?_
  refine o_as rfl rfl  ?_
  refine o_as rfl rfl  ?_
  (first | refine owp_nilT ?_ | refine owp_nilB ?_ | refine owp_nilBB ?_ | refine owp_nil ?_)
  refine ewp_seq ?_
  refine ewp_seq ?_
  refine ewp_region ?_
  refine o_mv rfl rfl  ?_
  refine o_ln rfl rfl  ?_
  have l4 : x0.length ≤ 9223372036854775807 := Nat.le_trans hx0.len.2.1 hx0.len.2.2
  have r3 : inI64 (x0.length : Int) := rngNat l4
  refine o_mv rfl rfl  ?_
  (first | refine owp_nilT ?_ | refine owp_nilB ?_ | refine owp_nilBB ?_ | refine owp_nil ?_)
  obtain ⟨res5, hL6, hm⟩ := bs hm
  refine ewp_join (aft res5 (fun (s7 : Unit) (x8 : Unit) => [(0, (.slice A1 x0.length c2))]) (fun s7 x8 w' => ∃ O' : Lab, Bs w A w' O' ∧ Vb w' (Fr 0 w' O') (.slice A1 x0.length c2) x0)) ?_ ?_
  · refine ewp_block ?_
    refine ewp_rng (σ := Unit) (X := Unit) (x0.length) hL6 rfl l4 (fun (s7 : Unit) (x8 : Unit) => [(0, (.slice A1 x0.length c2)), (10, (.slice A1 x0.length c2))]) _ (fun s7 x8 w' => ∃ O' : Lab, Bs w A w' O' ∧ Vb w' (Fr 0 w' O') (.slice A1 x0.length c2) x0) _ () ⟨O, hB, hx0⟩ ⟨rfl, rfl, rfl, rfl, trivial⟩ (fun _ _ => ⟨rfl, rfl⟩) (fun _ _ => ⟨rfl, trivial⟩) (fun _ _ _ ⟨O', hB, hx0⟩ => ⟨O', hB, hx0⟩) ⟨rfl, rfl, rfl⟩ ⟨rfl, rfl⟩ ?_
    rintro k9 a10 s7 x8 w11 cc13 hx14 ⟨O12, hB, hx0⟩ hf15 hret16 hbrk17
    have rk9 : inI64 (k9 : Int) := rngK hx14 l4
    refine ewp_seq ?_
    refine ewp_region ?_
    obtain ⟨b20, o21, ce22, hA23, hl24, hd25, rfl, r27, r28⟩ := hx0.elem' hx14
    refine o_iaE (hA := hA23) (hj := rfl) (hlt := hl24) rfl rfl rfl  ?_
    refine o_la (hl := rfl) (hc := hd25) rfl rfl  ?_
    refine l_alloc 2 O12 rfl fun g29 w30 O31 S32 h33 => ?_
    replace hB := hB.st S32 (fun h => h) (fun h => h)
    replace hx0 := hx0.st S32 (fun h => h)
    refine l_store h33 rfl rfl rfl (Nat.le_of_ble_eq_true rfl) (by first | exact allOne rfl | simp [Value.cells, Value.oneCell', errV_one]) fun w34 S35 h33 => ?_
    replace h33 : Lc 2 w34 O31 g29 103 [(.int .i64 a10.var), (.int .i64 a10.val)] := h33
    replace hB := hB.st S35 (by decide) (by decide)
    replace hx0 := hx0.st S35 (by decide)
    (first | refine owp_nilT ?_ | refine owp_nilB ?_ | refine owp_nilBB ?_ | refine owp_nil ?_)
    refine ewp_seq ?_
    obtain ⟨y36, hy37, hf15⟩ := bs hf15
    refine ewp_join (fun l' w' => ∃ (x39 : Unit) (O' : Lab), subs l' [(0, (.slice A1 x0.length c2)), (10, (.slice A1 x0.length c2)), (11, (.int .i64 (x0.length : Int))), (12, (.int .i64 (k9 : Int))), (23, (.bool y36))] ∧ Bs w A w' O' ∧ Vb w' (Fr 0 w' O') (.slice A1 x0.length c2) x0) ?_ ?_
    · skip
      refine ewp_region ?_
      refine o_fa rfl rfl  ?_
      refine o_ld (hc := Blk.cell (i := 0) (h33.1) rfl) rfl rfl  ?_
      refine o_ltS rfl rfl rfl (fun c40 => ?_) fun c40 => ?_
      · replace hy37 := ip hy37 c40
        refine o_mv rfl rfl  ?_
        refine owp_no rfl rfl rfl rfl ?_
        refine owp_no rfl rfl rfl rfl ?_
        refine owp_no rfl rfl rfl rfl ?_
        refine o_pt rfl rfl rfl  ?_
        (first | refine owp_nilT ?_ | refine owp_nilB ?_ | refine owp_nilBB ?_ | refine owp_nil ?_)
        obtain rfl := sm hy37
        exact ⟨(), _, ⟨rfl, rfl, rfl, rfl, rfl, trivial⟩, hB, hx0⟩
      · replace hy37 := im hy37 c40
        refine o_mv rfl rfl  ?_
        refine owp_yes rfl rfl ?_
        refine o_fa rfl rfl  ?_
        refine owp_yes rfl rfl ?_
        refine o_ld (hc := Blk.cell (i := 1) (h33.1) rfl) rfl rfl  ?_
        refine owp_yes rfl rfl ?_
        refine o_ltS rfl rfl rfl (fun c41 => ?_) fun c41 => ?_
        · replace hy37 := ip hy37 c41
          refine o_pf rfl rfl rfl  ?_
          (first | refine owp_nilT ?_ | refine owp_nilB ?_ | refine owp_nilBB ?_ | refine owp_nil ?_)
          obtain rfl := sm hy37
          exact ⟨(), _, ⟨rfl, rfl, rfl, rfl, rfl, trivial⟩, hB, hx0⟩
        · replace hy37 := im hy37 c41
          refine o_pf rfl rfl rfl  ?_
          (first | refine owp_nilT ?_ | refine owp_nilB ?_ | refine owp_nilBB ?_ | refine owp_nil ?_)
          obtain rfl := sm hy37
          exact ⟨(), _, ⟨rfl, rfl, rfl, rfl, rfl, trivial⟩, hB, hx0⟩
    rintro l42 w43 ⟨x39, O44, hs45, hB, hx0⟩
    refine ewp_sub _ hs45 ?_
    refine ewp_cond rfl (fun c46 => ?_) (fun c46 => ?_)
    · replace hf15 := ip hf15 c46
      refine ewp_seq ?_
      refine ewp_region ?_
      refine o_as rfl rfl  ?_
      refine o_as rfl rfl  ?_
      (first | refine owp_nilT ?_ | refine owp_nilB ?_ | refine owp_nilBB ?_ | refine owp_nil ?_)
      refine ewp_ret ?_
      obtain rfl := sm hf15
      obtain rfl := hret16 _ rfl
      obtain rfl := sm (fin_ret hm)
      exact ret2 rfl (res_tmp rfl) (res_tmp rfl) ⟨hB.ext, _, _, rfl, (Vb.mono (F := Fr 0 w43 O44) (Vb.nil _ _) hB.out), (vInt (show inI64 (1) from by decide))⟩
    · replace hf15 := im' hf15 c46
      refine ewp_skip ?_
      obtain rfl := sm hf15
      refine (?_ : Exists _)
      exact ⟨_, (), rfl, ⟨rfl, rfl, rfl, rfl, trivial⟩, _, hB, hx0⟩
  rintro l47 w48 ⟨s51, x52, rfl, hs50, O49, hB, hx0⟩
  replace hm := fin_done hm
  refine ewp_sub _ hs50 ?_
  refine ewp_seq ?_
  refine ewp_region ?_
  refine o_as rfl rfl  ?_
  (first | refine owp_nilT ?_ | refine owp_nilB ?_ | refine owp_nilBB ?_ | refine owp_nil ?_)
  refine ewp_seq ?_
  refine ewp_seq ?_
  refine ewp_region ?_
  refine o_mv rfl rfl  ?_
  refine o_ln rfl rfl  ?_
  have l54 : x0.length ≤ 9223372036854775807 := Nat.le_trans hx0.len.2.1 hx0.len.2.2
  have r53 : inI64 (x0.length : Int) := rngNat l54
  refine o_mv rfl rfl  ?_
  (first | refine owp_nilT ?_ | refine owp_nilB ?_ | refine owp_nilBB ?_ | refine owp_nil ?_)
  obtain ⟨res55, hL56, hm⟩ := bs hm
  refine ewp_join (aft res55 (fun (s57 : (List Fct)) (x58 : (Option Addr × Nat)) => [(6, (.slice x58.1 s57.length x58.2))]) (fun s57 x58 w' => ∃ O' : Lab, Bs w A w' O' ∧ Vb w' (Fr 0 w' O') (.slice x58.1 s57.length x58.2) s57)) ?_ ?_
  · refine ewp_block ?_
    refine ewp_rng (σ := (List Fct)) (X := (Option Addr × Nat)) (x0.length) hL56 rfl l54 (fun (s57 : (List Fct)) (x58 : (Option Addr × Nat)) => [(6, (.slice x58.1 s57.length x58.2)), (25, (.slice A1 x0.length c2))]) _ (fun s57 x58 w' => ∃ O' : Lab, Bs w A w' O' ∧ Vb w' (Fr 0 w' O') (.slice x58.1 s57.length x58.2) s57 ∧ Vb w' (Fr 0 w' O') (.slice A1 x0.length c2) x0) _ (none, 0) ⟨O49, hB, (Vb.nil _ _), hx0⟩ ⟨rfl, rfl, rfl, rfl, trivial⟩ (fun _ _ => ⟨rfl, rfl⟩) (fun _ _ => ⟨rfl, trivial⟩) (fun _ _ _ ⟨O', hB, h71, hx0⟩ => ⟨O', hB, h71⟩) ⟨rfl, rfl, rfl⟩ ⟨rfl, rfl⟩ ?_
    rintro k59 a60 s57 x58 w61 cc63 hx64 ⟨O62, hB, h71, hx0⟩ hf65 hret66 hbrk67
    have rk59 : inI64 (k59 : Int) := rngK hx64 l54
    refine ewp_seq ?_
    refine ewp_region ?_
    obtain ⟨b72, o73, ce74, hA75, hl76, hd77, rfl, r79, r80⟩ := hx0.elem' hx64
    refine o_iaE (hA := hA75) (hj := rfl) (hlt := hl76) rfl rfl rfl  ?_
    refine o_la (hl := rfl) (hc := hd77) rfl rfl  ?_
    refine l_alloc 3 O62 rfl fun g81 w82 O83 S84 h85 => ?_
    replace hB := hB.st S84 (fun h => h) (fun h => h)
    replace h71 := h71.st S84 (fun h => h)
    replace hx0 := hx0.st S84 (fun h => h)
    refine l_store h85 rfl rfl rfl (Nat.le_of_ble_eq_true rfl) (by first | exact allOne rfl | simp [Value.cells, Value.oneCell', errV_one]) fun w86 S87 h85 => ?_
    replace h85 : Lc 3 w86 O83 g81 103 [(.int .i64 a60.var), (.int .i64 a60.val)] := h85
    replace hB := hB.st S87 (by decide) (by decide)
    replace h71 := h71.st S87 (by decide)
    replace hx0 := hx0.st S87 (by decide)
    (first | refine owp_nilT ?_ | refine owp_nilB ?_ | refine owp_nilBB ?_ | refine owp_nil ?_)
    refine ewp_seq ?_
    refine ewp_region ?_
    refine o_mv rfl rfl  ?_
    refine o_fa rfl rfl  ?_
    refine o_ld (hc := Blk.cell (i := 0) (h85.1) rfl) rfl rfl  ?_
    obtain ⟨q88, e89, hf65⟩ := bs hf65
    refine l_callA (O := O83) (A := All w86) (R := fun w' F v => Vb w' F v q88) (c_ref06_Value (fun _ h => h) (Vb.mono (F := Fr 0 w86 O83) h71 Fr.lt) r79 e89) rfl rfl fun v94 w90 O91 S92 h93 => ?_
    obtain ⟨rfl, r95⟩ := h93.int
    replace hB := hB.st S92 (fun h => h) (fun h => h)
    replace h71 := h71.st S92 (fun h => h)
    replace h85 := h85.st S92 (fun h => h)
    replace hx0 := hx0.st S92 (fun h => h)
    refine o_as rfl rfl  ?_
    (first | refine owp_nilT ?_ | refine owp_nilB ?_ | refine owp_nilBB ?_ | refine owp_nil ?_)
    refine ewp_seq ?_
    refine ewp_seq ?_
    obtain ⟨y96, hy97, hf65⟩ := bs hf65
    refine ewp_join (fun l' w' => ∃ (x99 : Unit) (O' : Lab), subs l' [(6, (.slice x58.1 s57.length x58.2)), (8, (.pointer (some ⟨g81, 0, none⟩))), (9, (.int .i64 q88)), (25, (.slice A1 x0.length c2)), (26, (.int .i64 (x0.length : Int))), (27, (.int .i64 (k59 : Int))), (42, (.bool y96))] ∧ Bs w A w' O' ∧ Vb w' (Fr 0 w' O') (.slice x58.1 s57.length x58.2) s57 ∧ Lc 3 w' O' g81 103 [(.int .i64 a60.var), (.int .i64 a60.val)] ∧ Vb w' (Fr 0 w' O') (.slice A1 x0.length c2) x0) ?_ ?_
    · skip
      refine ewp_region ?_
      refine o_mv rfl rfl  ?_
      refine o_geS rfl rfl rfl (fun c100 => ?_) fun c100 => ?_
      · replace hy97 := ip hy97 c100
        refine o_mv rfl rfl  ?_
        refine owp_yes rfl rfl ?_
        refine o_mv rfl rfl  ?_
        refine owp_yes rfl rfl ?_
        refine o_fa rfl rfl  ?_
        refine owp_yes rfl rfl ?_
        refine o_ld (hc := Blk.cell (i := 1) (h85.1) rfl) rfl rfl  ?_
        refine owp_yes rfl rfl ?_
        refine o_neS rfl rfl rfl (fun c101 => ?_) fun c101 => ?_
        · replace hy97 := ip hy97 c101
          refine o_pt rfl rfl rfl  ?_
          (first | refine owp_nilT ?_ | refine owp_nilB ?_ | refine owp_nilBB ?_ | refine owp_nil ?_)
          obtain rfl := sm hy97
          exact ⟨(), _, ⟨rfl, rfl, rfl, rfl, rfl, rfl, rfl, trivial⟩, hB, h71, h85, hx0⟩
        · replace hy97 := im hy97 c101
          refine o_pt rfl rfl rfl  ?_
          (first | refine owp_nilT ?_ | refine owp_nilB ?_ | refine owp_nilBB ?_ | refine owp_nil ?_)
          obtain rfl := sm hy97
          exact ⟨(), _, ⟨rfl, rfl, rfl, rfl, rfl, rfl, rfl, trivial⟩, hB, h71, h85, hx0⟩
      · replace hy97 := im hy97 c100
        refine o_mv rfl rfl  ?_
        refine owp_no rfl rfl rfl rfl ?_
        refine owp_no rfl rfl rfl rfl ?_
        refine owp_no rfl rfl rfl rfl ?_
        refine owp_no rfl rfl rfl rfl ?_
        refine o_pf rfl rfl rfl  ?_
        (first | refine owp_nilT ?_ | refine owp_nilB ?_ | refine owp_nilBB ?_ | refine owp_nil ?_)
        obtain rfl := sm hy97
        exact ⟨(), _, ⟨rfl, rfl, rfl, rfl, rfl, rfl, rfl, trivial⟩, hB, h71, h85, hx0⟩
    rintro l102 w103 ⟨x99, O104, hs105, hB, h71, h85, hx0⟩
    refine ewp_sub _ hs105 ?_
    refine ewp_cond rfl (fun c106 => ?_) (fun c106 => ?_)
    · replace hf65 := ip hf65 c106
      refine ewp_seq ?_
      refine ewp_region ?_
      refine o_as rfl rfl  ?_
      refine o_as rfl rfl  ?_
      (first | refine owp_nilT ?_ | refine owp_nilB ?_ | refine owp_nilBB ?_ | refine owp_nil ?_)
      refine ewp_ret ?_
      obtain rfl := sm hf65
      obtain rfl := hret66 _ rfl
      obtain rfl := sm (fin_ret hm)
      exact ret2 rfl (res_tmp rfl) (res_tmp rfl) ⟨hB.ext, _, _, rfl, (Vb.mono (F := Fr 0 w103 O104) (Vb.nil _ _) hB.out), (vInt (show inI64 (2) from by decide))⟩
    · replace hf65 := im' hf65 c106
      refine ewp_skip ?_
      refine ewp_seq ?_
      refine ewp_region ?_
      refine o_mv rfl rfl  ?_
      refine o_ltS rfl rfl rfl (fun c107 => ?_) fun c107 => ?_
      · replace hf65 := ip hf65 c107
        (first | refine owp_nilT ?_ | refine owp_nilB ?_ | refine owp_nilBB ?_ | refine owp_nil ?_)
        refine ewp_true rfl ?_
        refine ewp_region ?_
        refine o_mv rfl rfl  ?_
        refine o_la (hl := rfl) (hc := (h85.1).cellsAt) rfl rfl  ?_
        obtain ⟨q108, e109, hf65⟩ := bs hf65
        refine l_call (O := O104) (R := fun w' F v => Vb w' F v q108) (c_ref06_With Fr.lt h71 (Vb.ofAgg (cs := [(.int .i64 a60.var), (.int .i64 a60.val)]) (x := a60) rfl ⟨rfl, r79, r80⟩) e109) rfl rfl fun v114 w110 O111 S112 h113 => ?_
        obtain ⟨A115, c116, rfl⟩ := h113.form
        replace hB := hB.st S112 (fun h => h) (fun h => h)
        replace hx0 := hx0.st S112 (fun h => h)
        refine o_as rfl rfl  ?_
        (first | refine owp_nilT ?_ | refine owp_nilB ?_ | refine owp_nilBB ?_ | refine owp_nil ?_)
        obtain rfl := sm hf65
        refine (?_ : Exists _)
        exact ⟨_, (A115, c116), rfl, ⟨rfl, rfl, rfl, rfl, trivial⟩, _, hB, h113, hx0⟩
      · replace hf65 := im hf65 c107
        (first | refine owp_nilT ?_ | refine owp_nilB ?_ | refine owp_nilBB ?_ | refine owp_nil ?_)
        refine ewp_false rfl ?_
        refine ewp_skip ?_
        obtain rfl := sm hf65
        refine (?_ : Exists _)
        exact ⟨_, (x58.1, x58.2), rfl, ⟨rfl, rfl, rfl, rfl, trivial⟩, _, hB, h71, hx0⟩
  rintro l117 w118 ⟨s121, x122, rfl, hs120, O119, hB, h71⟩
  replace hm := fin_done hm
  refine ewp_sub _ hs120 ?_
  refine ewp_seq ?_
  refine ewp_region ?_
  refine o_mv rfl rfl  ?_
  refine o_as rfl rfl  ?_
  refine o_as rfl rfl  ?_
  (first | refine owp_nilT ?_ | refine owp_nilB ?_ | refine owp_nilBB ?_ | refine owp_nil ?_)
  refine ewp_ret ?_
  obtain rfl := sm hm
  exact ret2 rfl (res_tmp rfl) (res_tmp rfl) ⟨hB.ext, _, _, rfl, (Vb.mono (F := Fr 0 w118 O119) h71 hB.out), (vInt (show inI64 (0) from by decide))⟩
noncomputable def m_ref51_permutation (x0 : List Int) (x1 : Int) : Option Bool :=
  if (x0.length : Int) ≠ x1 then (some false) else (bnd (natI x1) fun N19 => bnd (rngN (ρ := Bool) (fun (k10 : Nat) (s8 : Unit) => bnd (rng (ρ := Ctl Unit Bool) (fun (k27 : Nat) (a28 : Int) (s25 : Int) => if a28 = (k10 : Int) then (bnd (chkI (s25 + 1)) fun n49 => some (.next n49)) else (some (.next s25))) x0 0 0) fun res23 => fin res23 fun (s56 : Int) => if s56 ≠ 1 then (some (.ret false)) else (some (.next ()))) N19 ()) fun res6 => fin res6 fun (s63 : Unit) => some true)
theorem c_ref51_permutation {w : World} {A : Nat → Prop} (hA : ∀ k, A k → k < w.heap.size) {vx0 : Value} {x0 : List Int} (hx0 : Vb w A vx0 x0) {x1 : Int} (rx1 : inI64 x1) {r : Bool} (hm : m_ref51_permutation x0 x1 = some r) :
    Fn Try.prog 77 [vx0, (.int .i64 x1)] w fun v w' => Ext w w' ∧ Vb w' (upA A w w') v r := by
  obtain ⟨O, hB, hA0⟩ := enter hA
  replace hx0 := hx0.mono hA0
  obtain ⟨A1, c2, rfl⟩ := hx0.form
  refine fn_enter Try.func77 rfl Try.ntmps77 rfl ?_
  unfold m_ref51_permutation at hm
  refine ewp_seq ?_
  refine ewp_region ?_
  refine o_as rfl rfl  ?_
  (first | refine owp_nilT ?_ | refine owp_nilB ?_ | refine owp_nilBB ?_ | refine owp_nil ?_)
  refine ewp_seq ?_
  refine ewp_seq ?_
  refine ewp_region ?_
  refine o_mv rfl rfl  ?_
  refine o_ln rfl rfl  ?_
  have l4 : x0.length ≤ 9223372036854775807 := Nat.le_trans hx0.len.2.1 hx0.len.2.2
  have r3 : inI64 (x0.length : Int) := rngNat l4
  refine o_mv rfl rfl  ?_
  refine o_neS rfl rfl rfl (fun c5 => ?_) fun c5 => ?_
  · replace hm := ip hm c5
    (first | refine owp_nilT ?_ | refine owp_nilB ?_ | refine owp_nilBB ?_ | refine owp_nil ?_)
    refine ewp_true rfl ?_
    refine ewp_seq ?_
    refine ewp_region ?_
    refine o_as rfl rfl  ?_
    (first | refine owp_nilT ?_ | refine owp_nilB ?_ | refine owp_nilBB ?_ | refine owp_nil ?_)
    refine ewp_ret ?_
    obtain rfl := sm hm
    exact ret1v rfl (res_tmp rfl) ⟨hB.ext, vBool⟩
  · replace hm := im hm c5
    (first | refine owp_nilT ?_ | refine owp_nilB ?_ | refine owp_nilBB ?_ | refine owp_nil ?_)
    refine ewp_false rfl ?_
    refine ewp_skip ?_
    refine ewp_seq ?_
    refine ewp_seq ?_
    refine ewp_region ?_
    refine o_mv rfl rfl  ?_
    refine o_mv rfl rfl  ?_
    (first | refine owp_nilT ?_ | refine owp_nilB ?_ | refine owp_nilBB ?_ | refine owp_nil ?_)
    obtain ⟨N19, hN20, hm⟩ := bs hm
    replace hN20 := natI_some hN20
    obtain ⟨res6, hL7, hm⟩ := bs hm
    refine ewp_join (aft res6 (fun (s8 : Unit) (x9 : Unit) => []) (fun s8 x9 w' => ∃ O' : Lab, Bs w A w' O')) ?_ ?_
    · refine ewp_block ?_
      refine ewp_rngN (σ := Unit) (X := Unit) N19 hL7 (natI_le hN20 rx1) (fun (s8 : Unit) (x9 : Unit) => [(0, (.slice A1 x0.length c2))]) _ (fun s8 x9 w' => ∃ O' : Lab, Bs w A w' O' ∧ Vb w' (Fr 0 w' O') (.slice A1 x0.length c2) x0) _ () ⟨O, hB, hx0⟩ ⟨rfl, (congrArg (fun z => some (Value.int .i64 z)) hN20), rfl, trivial⟩ (fun _ _ => ⟨rfl, rfl⟩) (fun _ _ => trivial) (fun _ _ _ ⟨O', hB, hx0⟩ => ⟨O', hB⟩) ⟨rfl, rfl, rfl⟩ ⟨rfl, rfl⟩ ?_
      rintro k10 s8 x9 w12 cc14 hx15 ⟨O13, hB, hx0⟩ hf16 hret17 hbrk18
      have rk10 : inI64 (k10 : Int) := rngKN hx15 (natI_le hN20 rx1)
      refine ewp_seq ?_
      refine ewp_region ?_
      refine o_mv rfl rfl  ?_
      refine o_as rfl rfl  ?_
      (first | refine owp_nilT ?_ | refine owp_nilB ?_ | refine owp_nilBB ?_ | refine owp_nil ?_)
      refine ewp_seq ?_
      refine ewp_region ?_
      refine o_as rfl rfl  ?_
      (first | refine owp_nilT ?_ | refine owp_nilB ?_ | refine owp_nilBB ?_ | refine owp_nil ?_)
      refine ewp_seq ?_
      refine ewp_seq ?_
      refine ewp_region ?_
      refine o_mv rfl rfl  ?_
      refine o_ln rfl rfl  ?_
      have l22 : x0.length ≤ 9223372036854775807 := Nat.le_trans hx0.len.2.1 hx0.len.2.2
      have r21 : inI64 (x0.length : Int) := rngNat l22
      refine o_mv rfl rfl  ?_
      (first | refine owp_nilT ?_ | refine owp_nilB ?_ | refine owp_nilBB ?_ | refine owp_nil ?_)
      obtain ⟨res23, hL24, hf16⟩ := bs hf16
      refine ewp_join (aft res23 (fun (s25 : Int) (x26 : Unit) => [(0, (.slice A1 x0.length c2)), (6, (.int .i64 s25)), (13, (.int .i64 (N19 : Int))), (14, (.int .i64 (k10 : Int)))]) (fun s25 x26 w' => ∃ O' : Lab, Bs w A w' O' ∧ Vb w' (Fr 0 w' O') (.slice A1 x0.length c2) x0 ∧ inI64 s25)) ?_ ?_
      · refine ewp_block ?_
        refine ewp_rng (σ := Int) (X := Unit) (x0.length) hL24 rfl l22 (fun (s25 : Int) (x26 : Unit) => [(0, (.slice A1 x0.length c2)), (5, (.int .i64 (k10 : Int))), (6, (.int .i64 s25)), (13, (.int .i64 (N19 : Int))), (14, (.int .i64 (k10 : Int))), (17, (.slice A1 x0.length c2))]) _ (fun s25 x26 w' => ∃ O' : Lab, Bs w A w' O' ∧ Vb w' (Fr 0 w' O') (.slice A1 x0.length c2) x0 ∧ inI64 s25) _ () ⟨O13, hB, hx0, (show inI64 (0) from by decide)⟩ ⟨rfl, rfl, rfl, rfl, rfl, rfl, rfl, rfl, trivial⟩ (fun _ _ => ⟨rfl, rfl⟩) (fun _ _ => ⟨rfl, rfl, rfl, rfl, trivial⟩) (fun _ _ _ ⟨O', hB, hx0, r39⟩ => ⟨O', hB, hx0, r39⟩) ⟨rfl, rfl, rfl⟩ ⟨rfl, rfl⟩ ?_
        rintro k27 a28 s25 x26 w29 cc31 hx32 ⟨O30, hB, hx0, r39⟩ hf33 hret34 hbrk35
        have rk27 : inI64 (k27 : Int) := rngK hx32 l22
        refine ewp_seq ?_
        refine ewp_region ?_
        obtain ⟨b40, o41, ce42, hA43, hl44, hd45, rfl, r47⟩ := hx0.elem' hx32
        refine o_iaE (hA := hA43) (hj := rfl) (hlt := hl44) rfl rfl rfl  ?_
        refine o_ld (hc := cat0 hd45) rfl rfl  ?_
        refine o_as rfl rfl  ?_
        (first | refine owp_nilT ?_ | refine owp_nilB ?_ | refine owp_nilBB ?_ | refine owp_nil ?_)
        refine ewp_seq ?_
        refine ewp_region ?_
        refine o_mv rfl rfl  ?_
        refine o_mv rfl rfl  ?_
        refine o_eeS rfl rfl rfl (fun c48 => ?_) fun c48 => ?_
        · replace hf33 := ip hf33 c48
          (first | refine owp_nilT ?_ | refine owp_nilB ?_ | refine owp_nilBB ?_ | refine owp_nil ?_)
          refine ewp_true rfl ?_
          refine ewp_region ?_
          refine o_mv rfl rfl  ?_
          obtain ⟨n49, e50, hf33⟩ := bs hf33
          have r51 := (chkI_rng e50)
          refine o_adE (he := e50) rfl rfl rfl  ?_
          refine o_as rfl rfl  ?_
          (first | refine owp_nilT ?_ | refine owp_nilB ?_ | refine owp_nilBB ?_ | refine owp_nil ?_)
          obtain rfl := sm hf33
          refine (?_ : Exists _)
          exact ⟨_, (), rfl, ⟨rfl, rfl, rfl, rfl, rfl, rfl, rfl, rfl, trivial⟩, _, hB, hx0, r51⟩
        · replace hf33 := im hf33 c48
          (first | refine owp_nilT ?_ | refine owp_nilB ?_ | refine owp_nilBB ?_ | refine owp_nil ?_)
          refine ewp_false rfl ?_
          refine ewp_skip ?_
          obtain rfl := sm hf33
          refine (?_ : Exists _)
          exact ⟨_, (), rfl, ⟨rfl, rfl, rfl, rfl, rfl, rfl, rfl, rfl, trivial⟩, _, hB, hx0, r39⟩
      rintro l52 w53 ⟨s56, x57, rfl, hs55, O54, hB, hx0, r39⟩
      replace hf16 := fin_done hf16
      refine ewp_sub _ hs55 ?_
      refine ewp_seq ?_
      refine ewp_region ?_
      refine o_mv rfl rfl  ?_
      refine o_neS rfl rfl rfl (fun c58 => ?_) fun c58 => ?_
      · replace hf16 := ip hf16 c58
        (first | refine owp_nilT ?_ | refine owp_nilB ?_ | refine owp_nilBB ?_ | refine owp_nil ?_)
        refine ewp_true rfl ?_
        refine ewp_seq ?_
        refine ewp_region ?_
        refine o_as rfl rfl  ?_
        (first | refine owp_nilT ?_ | refine owp_nilB ?_ | refine owp_nilBB ?_ | refine owp_nil ?_)
        refine ewp_ret ?_
        obtain rfl := sm hf16
        obtain rfl := hret17 _ rfl
        obtain rfl := sm (fin_ret hm)
        exact ret1v rfl (res_tmp rfl) ⟨hB.ext, vBool⟩
      · replace hf16 := im hf16 c58
        (first | refine owp_nilT ?_ | refine owp_nilB ?_ | refine owp_nilBB ?_ | refine owp_nil ?_)
        refine ewp_false rfl ?_
        refine ewp_skip ?_
        obtain rfl := sm hf16
        refine (?_ : Exists _)
        exact ⟨_, (), rfl, ⟨rfl, rfl, rfl, trivial⟩, _, hB, hx0⟩
    rintro l59 w60 ⟨s63, x64, rfl, hs62, O61, hB⟩
    replace hm := fin_done hm
    refine ewp_sub _ hs62 ?_
    refine ewp_seq ?_
    refine ewp_region ?_
    refine o_as rfl rfl  ?_
    (first | refine owp_nilT ?_ | refine owp_nilB ?_ | refine owp_nilBB ?_ | refine owp_nil ?_)
    refine ewp_ret ?_
    obtain rfl := sm hm
    exact ret1v rfl (res_tmp rfl) ⟨hB.ext, vBool⟩
noncomputable def m_ref51_shape (x0 : Tsk) (x1 : Swp) : Option Bool :=
  bnd (bnd (m_ref51_permutation x1.vars (x0.vars.length : Int)) fun q47 => if q47 = true then if (x1.vals.length : Int) ≠ (x0.vars.length : Int) then (some true) else (bnd (m_ref51_permutation x1.ops (x0.ops.length : Int)) fun q61 => if q61 = true then some false else some true) else some true : Option Bool) fun y41 => if y41 = true then (some false) else (bnd (rng (ρ := Bool) (fun (k79 : Nat) (a80 : Int) (s77 : Unit) => bnd (bnd (x1.vars[k79]?) fun a102 => bnd (atI x0.vars a102) fun a112 => if a112 ≠ a80 then (some true) else (bnd (x1.vals[k79]?) fun a125 => bnd (m_ref51_permutation a125 a80) fun q138 => if q138 = true then some false else some true) : Option Bool) fun y98 => if y98 = true then (some (.ret false)) else (some (.next ()))) x0.vars 0 ()) fun res75 => fin res75 fun (s154 : Unit) => some true)
theorem c_ref51_shape {w : World} {A : Nat → Prop} (hA : ∀ k, A k → k < w.heap.size) {vx0 : Value} {x0 : Tsk} (hx0 : Vb w A vx0 x0) {vx1 : Value} {x1 : Swp} (hx1 : Vb w A vx1 x1) {r : Bool} (hm : m_ref51_shape x0 x1 = some r) :
    Fn Try.prog 41 [vx0, vx1] w fun v w' => Ext w w' ∧ Vb w' (upA A w w') v r := by
  obtain ⟨O, hB, hA0⟩ := enter hA
  replace hx0 := hx0.mono hA0
  obtain ⟨cs1, rfl, v2, v3, v4, v5, rfl, h6, h9, h12, h15⟩ := hx0
  obtain ⟨A7, c8, rfl⟩ := h6.form
  obtain ⟨A10, c11, rfl⟩ := h9.form
  obtain ⟨A13, c14, rfl⟩ := h12.form
  obtain ⟨A16, c17, rfl⟩ := h15.form
  replace hx1 := hx1.mono hA0
  obtain ⟨cs18, rfl, v19, v20, v21, rfl, h22, h25, h28⟩ := hx1
  obtain ⟨A23, c24, rfl⟩ := h22.form
  obtain ⟨A26, c27, rfl⟩ := h25.form
  obtain ⟨A29, c30, rfl⟩ := h28.form
  refine fn_enter Try.func41 rfl Try.ntmps41 rfl ?_
  unfold m_ref51_shape at hm
  refine ewp_seq ?_
  refine ewp_region ?_
  refine l_box 2 O rfl rfl fun g31 w32 O33 S34 h35 => ?_
  replace h35 : Lc 2 w32 O33 g31 26 [(.slice A7 x0.vars.length c8), (.slice A10 x0.init.length c11), (.slice A13 x0.goal.length c14), (.slice A16 x0.ops.length c17)] := h35
  replace hB := hB.st S34 (fun h => h) (fun h => h)
  replace h22 := h22.st S34 (fun h => h)
  replace h25 := h25.st S34 (fun h => h)
  replace h28 := h28.st S34 (fun h => h)
  replace h6 := h6.st S34 (fun h => h)
  replace h9 := h9.st S34 (fun h => h)
  replace h12 := h12.st S34 (fun h => h)
  replace h15 := h15.st S34 (fun h => h)
  refine l_box 3 O33 rfl rfl fun g36 w37 O38 S39 h40 => ?_
  replace h40 : Lc 3 w37 O38 g36 29 [(.slice A23 x1.vars.length c24), (.slice A26 x1.vals.length c27), (.slice A29 x1.ops.length c30)] := h40
  replace hB := hB.st S39 (fun h => h) (fun h => h)
  replace h35 := h35.st S39 (fun h => h)
  replace h6 := h6.st S39 (fun h => h)
  replace h9 := h9.st S39 (fun h => h)
  replace h12 := h12.st S39 (fun h => h)
  replace h15 := h15.st S39 (fun h => h)
  replace h22 := h22.st S39 (fun h => h)
  replace h25 := h25.st S39 (fun h => h)
  replace h28 := h28.st S39 (fun h => h)
  refine o_as rfl rfl  ?_
  (first | refine owp_nilT ?_ | refine owp_nilB ?_ | refine owp_nilBB ?_ | refine owp_nil ?_)
  refine ewp_seq ?_
  refine ewp_seq ?_
  obtain ⟨y41, hy42, hm⟩ := bs hm
  refine ewp_join (fun l' w' => ∃ (x44 : Unit) (O' : Lab), subs l' [(2, (.pointer (some ⟨g31, 0, none⟩))), (3, (.pointer (some ⟨g36, 0, none⟩))), (31, (.bool y41))] ∧ Bs w A w' O' ∧ Lc 2 w' O' g31 26 [(.slice A7 x0.vars.length c8), (.slice A10 x0.init.length c11), (.slice A13 x0.goal.length c14), (.slice A16 x0.ops.length c17)] ∧ Vb w' (Fr 0 w' O') (.slice A7 x0.vars.length c8) x0.vars ∧ Vb w' (Fr 0 w' O') (.slice A10 x0.init.length c11) x0.init ∧ Vb w' (Fr 0 w' O') (.slice A13 x0.goal.length c14) x0.goal ∧ Vb w' (Fr 0 w' O') (.slice A16 x0.ops.length c17) x0.ops ∧ Lc 3 w' O' g36 29 [(.slice A23 x1.vars.length c24), (.slice A26 x1.vals.length c27), (.slice A29 x1.ops.length c30)] ∧ Vb w' (Fr 0 w' O') (.slice A23 x1.vars.length c24) x1.vars ∧ Vb w' (Fr 0 w' O') (.slice A26 x1.vals.length c27) x1.vals ∧ Vb w' (Fr 0 w' O') (.slice A29 x1.ops.length c30) x1.ops) ?_ ?_
  · skip
    refine ewp_region ?_
    refine o_fa rfl rfl  ?_
    refine o_ld (hc := Blk.cell (i := 0) (h40.1) rfl) rfl rfl  ?_
    refine o_fa rfl rfl  ?_
    refine o_ld (hc := Blk.cell (i := 0) (h35.1) rfl) rfl rfl  ?_
    refine o_ln rfl rfl  ?_
    have l46 : x0.vars.length ≤ 9223372036854775807 := Nat.le_trans h6.len.2.1 h6.len.2.2
    have r45 : inI64 (x0.vars.length : Int) := rngNat l46
    obtain ⟨q47, e48, hy42⟩ := bs hy42
    refine l_callA (O := O38) (A := All w37) (R := fun w' F v => Vb w' F v q47) (c_ref51_permutation (fun _ h => h) (Vb.mono (F := Fr 0 w37 O38) h22 Fr.lt) r45 e48) rfl rfl fun v53 w49 O50 S51 h52 => ?_
    obtain rfl := h52.bool
    replace hB := hB.st S51 (fun h => h) (fun h => h)
    replace h35 := h35.st S51 (fun h => h)
    replace h6 := h6.st S51 (fun h => h)
    replace h9 := h9.st S51 (fun h => h)
    replace h12 := h12.st S51 (fun h => h)
    replace h15 := h15.st S51 (fun h => h)
    replace h40 := h40.st S51 (fun h => h)
    replace h22 := h22.st S51 (fun h => h)
    replace h25 := h25.st S51 (fun h => h)
    replace h28 := h28.st S51 (fun h => h)
    cases q47
    case false =>
      replace hy42 := iF hy42
      refine o_nf rfl rfl  ?_
      refine o_mv rfl rfl  ?_
      refine owp_no rfl rfl rfl rfl ?_
      refine owp_no rfl rfl rfl rfl ?_
      refine owp_no rfl rfl rfl rfl ?_
      refine owp_no rfl rfl rfl rfl ?_
      refine owp_no rfl rfl rfl rfl ?_
      refine owp_no rfl rfl rfl rfl ?_
      refine owp_no rfl rfl rfl rfl ?_
      refine o_pt rfl rfl rfl  ?_
      refine o_mv rfl rfl  ?_
      refine owp_no rfl rfl rfl rfl ?_
      refine owp_no rfl rfl rfl rfl ?_
      refine owp_no rfl rfl rfl rfl ?_
      refine owp_no rfl rfl rfl rfl ?_
      refine owp_no rfl rfl rfl rfl ?_
      refine owp_no rfl rfl rfl rfl ?_
      refine owp_no rfl rfl rfl rfl ?_
      refine o_pt rfl rfl rfl  ?_
      (first | refine owp_nilT ?_ | refine owp_nilB ?_ | refine owp_nilBB ?_ | refine owp_nil ?_)
      obtain rfl := sm hy42
      exact ⟨(), _, ⟨rfl, rfl, rfl, trivial⟩, hB, h35, h6, h9, h12, h15, h40, h22, h25, h28⟩
    replace hy42 := iT hy42
    refine o_nt rfl rfl  ?_
    refine o_mv rfl rfl  ?_
    refine owp_yes rfl rfl ?_
    refine o_fa rfl rfl  ?_
    refine owp_yes rfl rfl ?_
    refine o_ld (hc := Blk.cell (i := 1) (h40.1) rfl) rfl rfl  ?_
    refine owp_yes rfl rfl ?_
    refine o_ln rfl rfl  ?_
    have l55 : x1.vals.length ≤ 9223372036854775807 := Nat.le_trans h25.len.2.1 h25.len.2.2
    have r54 : inI64 (x1.vals.length : Int) := rngNat l55
    refine owp_yes rfl rfl ?_
    refine o_fa rfl rfl  ?_
    refine owp_yes rfl rfl ?_
    refine o_ld (hc := Blk.cell (i := 0) (h35.1) rfl) rfl rfl  ?_
    refine owp_yes rfl rfl ?_
    refine o_ln rfl rfl  ?_
    have l57 : x0.vars.length ≤ 9223372036854775807 := Nat.le_trans h6.len.2.1 h6.len.2.2
    have r56 : inI64 (x0.vars.length : Int) := rngNat l57
    refine owp_yes rfl rfl ?_
    refine o_neS rfl rfl rfl (fun c58 => ?_) fun c58 => ?_
    · replace hy42 := ip hy42 c58
      refine o_pf rfl rfl rfl  ?_
      refine o_mv rfl rfl  ?_
      refine owp_no rfl rfl rfl rfl ?_
      refine owp_no rfl rfl rfl rfl ?_
      refine owp_no rfl rfl rfl rfl ?_
      refine owp_no rfl rfl rfl rfl ?_
      refine owp_no rfl rfl rfl rfl ?_
      refine owp_no rfl rfl rfl rfl ?_
      refine owp_no rfl rfl rfl rfl ?_
      refine o_pt rfl rfl rfl  ?_
      (first | refine owp_nilT ?_ | refine owp_nilB ?_ | refine owp_nilBB ?_ | refine owp_nil ?_)
      obtain rfl := sm hy42
      exact ⟨(), _, ⟨rfl, rfl, rfl, trivial⟩, hB, h35, h6, h9, h12, h15, h40, h22, h25, h28⟩
    · replace hy42 := im hy42 c58
      refine o_pf rfl rfl rfl  ?_
      refine o_mv rfl rfl  ?_
      refine owp_yes rfl rfl ?_
      refine o_fa rfl rfl  ?_
      refine owp_yes rfl rfl ?_
      refine o_ld (hc := Blk.cell (i := 2) (h40.1) rfl) rfl rfl  ?_
      refine owp_yes rfl rfl ?_
      refine o_fa rfl rfl  ?_
      refine owp_yes rfl rfl ?_
      refine o_ld (hc := Blk.cell (i := 3) (h35.1) rfl) rfl rfl  ?_
      refine owp_yes rfl rfl ?_
      refine o_ln rfl rfl  ?_
      have l60 : x0.ops.length ≤ 9223372036854775807 := Nat.le_trans h15.len.2.1 h15.len.2.2
      have r59 : inI64 (x0.ops.length : Int) := rngNat l60
      refine owp_yes rfl rfl ?_
      obtain ⟨q61, e62, hy42⟩ := bs hy42
      refine l_callA (O := O50) (A := All w49) (R := fun w' F v => Vb w' F v q61) (c_ref51_permutation (fun _ h => h) (Vb.mono (F := Fr 0 w49 O50) h28 Fr.lt) r59 e62) rfl rfl fun v67 w63 O64 S65 h66 => ?_
      obtain rfl := h66.bool
      replace hB := hB.st S65 (fun h => h) (fun h => h)
      replace h35 := h35.st S65 (fun h => h)
      replace h6 := h6.st S65 (fun h => h)
      replace h9 := h9.st S65 (fun h => h)
      replace h12 := h12.st S65 (fun h => h)
      replace h15 := h15.st S65 (fun h => h)
      replace h40 := h40.st S65 (fun h => h)
      replace h22 := h22.st S65 (fun h => h)
      replace h25 := h25.st S65 (fun h => h)
      replace h28 := h28.st S65 (fun h => h)
      cases q61
      case false =>
        replace hy42 := iF hy42
        refine owp_yes rfl rfl ?_
        refine o_nf rfl rfl  ?_
        refine o_pf rfl rfl rfl  ?_
        (first | refine owp_nilT ?_ | refine owp_nilB ?_ | refine owp_nilBB ?_ | refine owp_nil ?_)
        obtain rfl := sm hy42
        exact ⟨(), _, ⟨rfl, rfl, rfl, trivial⟩, hB, h35, h6, h9, h12, h15, h40, h22, h25, h28⟩
      replace hy42 := iT hy42
      refine owp_yes rfl rfl ?_
      refine o_nt rfl rfl  ?_
      refine o_pf rfl rfl rfl  ?_
      (first | refine owp_nilT ?_ | refine owp_nilB ?_ | refine owp_nilBB ?_ | refine owp_nil ?_)
      obtain rfl := sm hy42
      exact ⟨(), _, ⟨rfl, rfl, rfl, trivial⟩, hB, h35, h6, h9, h12, h15, h40, h22, h25, h28⟩
  rintro l68 w69 ⟨x44, O70, hs71, hB, h35, h6, h9, h12, h15, h40, h22, h25, h28⟩
  refine ewp_sub _ hs71 ?_
  refine ewp_cond rfl (fun c72 => ?_) (fun c72 => ?_)
  · replace hm := ip hm c72
    refine ewp_seq ?_
    refine ewp_region ?_
    refine o_as rfl rfl  ?_
    (first | refine owp_nilT ?_ | refine owp_nilB ?_ | refine owp_nilBB ?_ | refine owp_nil ?_)
    refine ewp_ret ?_
    obtain rfl := sm hm
    exact ret1v rfl (res_tmp rfl) ⟨hB.ext, vBool⟩
  · replace hm := im' hm c72
    refine ewp_skip ?_
    refine ewp_seq ?_
    refine ewp_seq ?_
    refine ewp_region ?_
    refine o_fa rfl rfl  ?_
    refine o_ld (hc := Blk.cell (i := 0) (h35.1) rfl) rfl rfl  ?_
    refine o_ln rfl rfl  ?_
    have l74 : x0.vars.length ≤ 9223372036854775807 := Nat.le_trans h6.len.2.1 h6.len.2.2
    have r73 : inI64 (x0.vars.length : Int) := rngNat l74
    refine o_mv rfl rfl  ?_
    (first | refine owp_nilT ?_ | refine owp_nilB ?_ | refine owp_nilBB ?_ | refine owp_nil ?_)
    obtain ⟨res75, hL76, hm⟩ := bs hm
    refine ewp_join (aft res75 (fun (s77 : Unit) (x78 : Unit) => []) (fun s77 x78 w' => ∃ O' : Lab, Bs w A w' O')) ?_ ?_
    · refine ewp_block ?_
      refine ewp_rng (σ := Unit) (X := Unit) (x0.vars.length) hL76 rfl l74 (fun (s77 : Unit) (x78 : Unit) => [(2, (.pointer (some ⟨g31, 0, none⟩))), (3, (.pointer (some ⟨g36, 0, none⟩))), (33, (.slice A7 x0.vars.length c8))]) _ (fun s77 x78 w' => ∃ O' : Lab, Bs w A w' O' ∧ Lc 2 w' O' g31 26 [(.slice A7 x0.vars.length c8), (.slice A10 x0.init.length c11), (.slice A13 x0.goal.length c14), (.slice A16 x0.ops.length c17)] ∧ Vb w' (Fr 0 w' O') (.slice A7 x0.vars.length c8) x0.vars ∧ Vb w' (Fr 0 w' O') (.slice A10 x0.init.length c11) x0.init ∧ Vb w' (Fr 0 w' O') (.slice A13 x0.goal.length c14) x0.goal ∧ Vb w' (Fr 0 w' O') (.slice A16 x0.ops.length c17) x0.ops ∧ Lc 3 w' O' g36 29 [(.slice A23 x1.vars.length c24), (.slice A26 x1.vals.length c27), (.slice A29 x1.ops.length c30)] ∧ Vb w' (Fr 0 w' O') (.slice A23 x1.vars.length c24) x1.vars ∧ Vb w' (Fr 0 w' O') (.slice A26 x1.vals.length c27) x1.vals ∧ Vb w' (Fr 0 w' O') (.slice A29 x1.ops.length c30) x1.ops) _ () ⟨O70, hB, h35, h6, h9, h12, h15, h40, h22, h25, h28⟩ ⟨rfl, rfl, rfl, rfl, rfl, trivial⟩ (fun _ _ => ⟨rfl, rfl⟩) (fun _ _ => trivial) (fun _ _ _ ⟨O', hB, h35, h6, h9, h12, h15, h40, h22, h25, h28⟩ => ⟨O', hB⟩) ⟨rfl, rfl, rfl⟩ ⟨rfl, rfl⟩ ?_
      rintro k79 a80 s77 x78 w81 cc83 hx84 ⟨O82, hB, h35, h6, h9, h12, h15, h40, h22, h25, h28⟩ hf85 hret86 hbrk87
      have rk79 : inI64 (k79 : Int) := rngK hx84 l74
      refine ewp_seq ?_
      refine ewp_region ?_
      refine o_mv rfl rfl  ?_
      obtain ⟨b90, o91, ce92, hA93, hl94, hd95, rfl, r97⟩ := h6.elem' hx84
      refine o_iaE (hA := hA93) (hj := rfl) (hlt := hl94) rfl rfl rfl  ?_
      refine o_ld (hc := cat0 hd95) rfl rfl  ?_
      refine o_as rfl rfl  ?_
      refine o_as rfl rfl  ?_
      (first | refine owp_nilT ?_ | refine owp_nilB ?_ | refine owp_nilBB ?_ | refine owp_nil ?_)
      refine ewp_seq ?_
      obtain ⟨y98, hy99, hf85⟩ := bs hf85
      refine ewp_join (fun l' w' => ∃ (x101 : Unit) (O' : Lab), subs l' [(2, (.pointer (some ⟨g31, 0, none⟩))), (3, (.pointer (some ⟨g36, 0, none⟩))), (33, (.slice A7 x0.vars.length c8)), (34, (.int .i64 (x0.vars.length : Int))), (35, (.int .i64 (k79 : Int))), (60, (.bool y98))] ∧ Bs w A w' O' ∧ Lc 2 w' O' g31 26 [(.slice A7 x0.vars.length c8), (.slice A10 x0.init.length c11), (.slice A13 x0.goal.length c14), (.slice A16 x0.ops.length c17)] ∧ Vb w' (Fr 0 w' O') (.slice A7 x0.vars.length c8) x0.vars ∧ Vb w' (Fr 0 w' O') (.slice A10 x0.init.length c11) x0.init ∧ Vb w' (Fr 0 w' O') (.slice A13 x0.goal.length c14) x0.goal ∧ Vb w' (Fr 0 w' O') (.slice A16 x0.ops.length c17) x0.ops ∧ Lc 3 w' O' g36 29 [(.slice A23 x1.vars.length c24), (.slice A26 x1.vals.length c27), (.slice A29 x1.ops.length c30)] ∧ Vb w' (Fr 0 w' O') (.slice A23 x1.vars.length c24) x1.vars ∧ Vb w' (Fr 0 w' O') (.slice A26 x1.vals.length c27) x1.vals ∧ Vb w' (Fr 0 w' O') (.slice A29 x1.ops.length c30) x1.ops) ?_ ?_
      · skip
        have hZ := St.refl (nT) w81 O82
        have zh35 := h35
        have zh6 := h6
        have zh9 := h9
        have zh12 := h12
        have zh15 := h15
        have zh40 := h40
        have zh22 := h22
        have zh25 := h25
        have zh28 := h28
        refine ewp_drawS (fun w' => ∃ O', St (nT) w81 O82 w' O') ?_
        refine hws_pre (fuel := 3) [(0, true), (1, true), (2, true), (3, true), (4, true), (5, true), (6, true), (7, true), (8, true), (9, true), (10, true), (11, true), (12, true), (13, true), (14, true), (15, true), (16, true), (17, true)] (by kernel_rfl) (by kernel_rfl) (by kernel_rfl) ⟨_, hZ⟩ ?_
        refine h_fa rfl rfl rfl  ?_
        refine h_ldC (hc := fun w' ⟨O', hq⟩ => Blk.cell (i := 0) ((zh35.st hq (by decide)).1) rfl) rfl rfl rfl  ?_
        refine h_fa rfl rfl rfl  ?_
        refine h_ldC (hc := fun w' ⟨O', hq⟩ => Blk.cell (i := 0) ((zh40.st hq (by decide)).1) rfl) rfl rfl rfl  ?_
        refine h_mv rfl rfl rfl  ?_
        obtain ⟨a102, e103, hy99⟩ := bs hy99
        obtain ⟨b104, o105, ce106, hA107, hF110, hl108, hd109, rfl, r111⟩ := zh22.elem e103
        refine h_iaE (hA := hA107) (hj := rfl) (hlt := hl108) rfl rfl rfl rfl  ?_
        refine h_ldC (hc := fun w' ⟨O', hq⟩ => cat0 (cellsAt_agree (hq.agree (i := 0) (by decide)) hF110 hd109)) rfl rfl rfl  ?_
        obtain ⟨a112, e113, hy99⟩ := bs hy99
        obtain ⟨p115, x114⟩ := atI_some' e113
        obtain ⟨b116, o117, ce118, hA119, hF122, hl120, hd121, rfl, r123⟩ := zh6.elem x114
        refine h_iaE (hA := hA119) (hj := (Int.toNat_of_nonneg p115).symm) (hlt := hl120) rfl rfl rfl rfl  ?_
        refine h_ldC (hc := fun w' ⟨O', hq⟩ => cat0 (cellsAt_agree (hq.agree (i := 0) (by decide)) hF122 hd121)) rfl rfl rfl  ?_
        refine h_mv rfl rfl rfl  ?_
        refine h_neS rfl rfl rfl rfl (fun c124 => ?_) fun c124 => ?_
        · replace hy99 := ip hy99 c124
          refine h_mv rfl rfl rfl  ?_
          refine h_no rfl rfl rfl rfl rfl ?_
          refine h_no rfl rfl rfl rfl rfl ?_
          refine h_no rfl rfl rfl rfl rfl ?_
          refine h_no rfl rfl rfl rfl rfl ?_
          refine h_no rfl rfl rfl rfl rfl ?_
          refine h_no rfl rfl rfl rfl rfl ?_
          refine hwp_nilT ?_
          refine hws_one (i := 18) (by kernel_rfl) rfl ?_
          refine owp_no rfl rfl rfl rfl ?_
          refine owp_loudS ⟨_, hZ⟩ ?_
          refine hws_pre (fuel := 0) [(19, true), (20, true)] (by kernel_rfl) (by kernel_rfl) (by kernel_rfl) ⟨_, hZ⟩ ?_
          refine h_no rfl rfl rfl rfl rfl ?_
          refine h_pt rfl rfl rfl rfl  ?_
          refine hwp_nilT ?_
          refine hws_nil (by kernel_rfl) ?_
          obtain rfl := sm hy99
          exact ⟨(), _, ⟨rfl, rfl, rfl, rfl, rfl, rfl, trivial⟩, hB, h35, h6, h9, h12, h15, h40, h22, h25, h28⟩
        · replace hy99 := im hy99 c124
          refine h_mv rfl rfl rfl  ?_
          refine hwp_o rfl ?_
          refine hwq_yes rfl rfl ?_
          refine g_fa rfl rfl  ?_
          refine hwp_o rfl ?_
          refine hwq_yes rfl rfl ?_
          refine g_ldC (hc := fun w' ⟨O', hq⟩ => Blk.cell (i := 1) ((zh40.st hq (by decide)).1) rfl) rfl rfl  ?_
          refine hwp_o rfl ?_
          refine hwq_yes rfl rfl ?_
          refine g_mv rfl rfl  ?_
          refine hwp_o rfl ?_
          refine hwq_yes rfl rfl ?_
          obtain ⟨a125, e126, hy99⟩ := bs hy99
          obtain ⟨b127, o128, ce129, hA130, hF133, hl131, hd132, v134, rfl, h135⟩ := zh25.elem e126
          replace h135 := Vb.of_slice h135
          obtain ⟨A136, c137, rfl⟩ := h135.form
          have zh135 := h135
          refine g_iaE (hA := hA130) (hj := rfl) (hlt := hl131) rfl rfl rfl  ?_
          refine hwp_o rfl ?_
          refine hwq_yes rfl rfl ?_
          refine g_ldC (hc := fun w' ⟨O', hq⟩ => cat0 (cellsAt_agree (hq.agree (i := 0) (by decide)) hF133 hd132)) rfl rfl  ?_
          refine hwp_o rfl ?_
          refine hwq_yes rfl rfl ?_
          refine g_mv rfl rfl  ?_
          refine hwp_nilT ?_
          refine hws_one (i := 18) (by kernel_rfl) rfl ?_
          refine owp_yes rfl rfl ?_
          obtain ⟨q138, e139, hy99⟩ := bs hy99
          refine l_callA (O := O82) (A := All w81) (R := fun w' F v => Vb w' F v q138) (c_ref51_permutation (fun _ h => h) (Vb.mono (F := Fr 0 w81 O82) h135 Fr.lt) r97 e139) rfl rfl fun v144 w140 O141 S142 h143 => ?_
          obtain rfl := h143.bool
          replace hZ := hZ.comp S142 (fun _ h => h.elim)
          replace hB := hB.st S142 (fun h => h) (fun h => h)
          replace h35 := h35.st S142 (fun h => h)
          replace h6 := h6.st S142 (fun h => h)
          replace h9 := h9.st S142 (fun h => h)
          replace h12 := h12.st S142 (fun h => h)
          replace h15 := h15.st S142 (fun h => h)
          replace h40 := h40.st S142 (fun h => h)
          replace h22 := h22.st S142 (fun h => h)
          replace h25 := h25.st S142 (fun h => h)
          replace h28 := h28.st S142 (fun h => h)
          cases q138
          case false =>
            replace hy99 := iF hy99
            refine owp_loudS ⟨_, hZ⟩ ?_
            refine hws_pre (fuel := 0) [(19, true), (20, true)] (by kernel_rfl) (by kernel_rfl) (by kernel_rfl) ⟨_, hZ⟩ ?_
            refine hwp_o rfl ?_
            refine hwq_yes rfl rfl ?_
            refine g_nf rfl rfl  ?_
            refine h_pf rfl rfl rfl rfl  ?_
            refine hwp_nilT ?_
            refine hws_nil (by kernel_rfl) ?_
            obtain rfl := sm hy99
            exact ⟨(), _, ⟨rfl, rfl, rfl, rfl, rfl, rfl, trivial⟩, hB, h35, h6, h9, h12, h15, h40, h22, h25, h28⟩
          replace hy99 := iT hy99
          refine owp_loudS ⟨_, hZ⟩ ?_
          refine hws_pre (fuel := 0) [(19, true), (20, true)] (by kernel_rfl) (by kernel_rfl) (by kernel_rfl) ⟨_, hZ⟩ ?_
          refine hwp_o rfl ?_
          refine hwq_yes rfl rfl ?_
          refine g_nt rfl rfl  ?_
          refine h_pf rfl rfl rfl rfl  ?_
          refine hwp_nilT ?_
          refine hws_nil (by kernel_rfl) ?_
          obtain rfl := sm hy99
          exact ⟨(), _, ⟨rfl, rfl, rfl, rfl, rfl, rfl, trivial⟩, hB, h35, h6, h9, h12, h15, h40, h22, h25, h28⟩
      rintro l145 w146 ⟨x101, O147, hs148, hB, h35, h6, h9, h12, h15, h40, h22, h25, h28⟩
      refine ewp_sub _ hs148 ?_
      refine ewp_cond rfl (fun c149 => ?_) (fun c149 => ?_)
      · replace hf85 := ip hf85 c149
        refine ewp_seq ?_
        refine ewp_region ?_
        refine o_as rfl rfl  ?_
        (first | refine owp_nilT ?_ | refine owp_nilB ?_ | refine owp_nilBB ?_ | refine owp_nil ?_)
        refine ewp_ret ?_
        obtain rfl := sm hf85
        obtain rfl := hret86 _ rfl
        obtain rfl := sm (fin_ret hm)
        exact ret1v rfl (res_tmp rfl) ⟨hB.ext, vBool⟩
      · replace hf85 := im' hf85 c149
        refine ewp_skip ?_
        obtain rfl := sm hf85
        refine (?_ : Exists _)
        exact ⟨_, (), rfl, ⟨rfl, rfl, rfl, rfl, rfl, trivial⟩, _, hB, h35, h6, h9, h12, h15, h40, h22, h25, h28⟩
    rintro l150 w151 ⟨s154, x155, rfl, hs153, O152, hB⟩
    replace hm := fin_done hm
    refine ewp_sub _ hs153 ?_
    refine ewp_seq ?_
    refine ewp_region ?_
    refine o_as rfl rfl  ?_
    (first | refine owp_nilT ?_ | refine owp_nilB ?_ | refine owp_nilBB ?_ | refine owp_nil ?_)
    refine ewp_ret ?_
    obtain rfl := sm hm
    exact ret1v rfl (res_tmp rfl) ⟨hB.ext, vBool⟩
noncomputable def m_ref51_Fact (x0 : Swp) (x1 : Fct) : Option Fct :=
  bnd (atI x0.vars x1.var) fun a32 => bnd (atI x0.vals x1.var) fun a44 => bnd (atI a44 x1.val) fun a59 => some (⟨a32, a59⟩ : Fct)
theorem c_ref51_Fact {w : World} {A : Nat → Prop} (hA : ∀ k, A k → k < w.heap.size) {vx0 : Value} {x0 : Swp} (hx0 : Vb w A vx0 x0) {vx1 : Value} {x1 : Fct} (hx1 : Vb w A vx1 x1) {r : Fct} (hm : m_ref51_Fact x0 x1 = some r) :
    Fn Try.prog 78 [vx0, vx1] w fun v w' => Ext w w' ∧ Vb w' (upA A w w') v r := by
  obtain ⟨O, hB, hA0⟩ := enter hA
  replace hx0 := hx0.mono hA0
  obtain ⟨cs1, rfl, v2, v3, v4, rfl, h5, h8, h11⟩ := hx0
  obtain ⟨A6, c7, rfl⟩ := h5.form
  obtain ⟨A9, c10, rfl⟩ := h8.form
  obtain ⟨A12, c13, rfl⟩ := h11.form
  replace hx1 := hx1.mono hA0
  obtain ⟨cs14, rfl, rfl, r15, r16⟩ := hx1
  refine fn_enter Try.func78 rfl Try.ntmps78 rfl ?_
  unfold m_ref51_Fact at hm
  refine ewp_seq ?_
  refine ewp_region ?_
  refine l_box 2 O rfl rfl fun g17 w18 O19 S20 h21 => ?_
  replace h21 : Lc 2 w18 O19 g17 29 [(.slice A6 x0.vars.length c7), (.slice A9 x0.vals.length c10), (.slice A12 x0.ops.length c13)] := h21
  replace hB := hB.st S20 (fun h => h) (fun h => h)
  replace h5 := h5.st S20 (fun h => h)
  replace h8 := h8.st S20 (fun h => h)
  replace h11 := h11.st S20 (fun h => h)
  refine l_box 3 O19 rfl rfl fun g22 w23 O24 S25 h26 => ?_
  replace h26 : Lc 3 w23 O24 g22 103 [(.int .i64 x1.var), (.int .i64 x1.val)] := h26
  replace hB := hB.st S25 (fun h => h) (fun h => h)
  replace h21 := h21.st S25 (fun h => h)
  replace h5 := h5.st S25 (fun h => h)
  replace h8 := h8.st S25 (fun h => h)
  replace h11 := h11.st S25 (fun h => h)
  refine l_alloc 4 O24 rfl fun g27 w28 O29 S30 h31 => ?_
  replace hB := hB.st S30 (fun h => h) (fun h => h)
  replace h21 := h21.st S30 (fun h => h)
  replace h5 := h5.st S30 (fun h => h)
  replace h8 := h8.st S30 (fun h => h)
  replace h11 := h11.st S30 (fun h => h)
  replace h26 := h26.st S30 (fun h => h)
  (first | refine owp_nilT ?_ | refine owp_nilB ?_ | refine owp_nilBB ?_ | refine owp_nil ?_)
  refine ewp_seq ?_
  have hZ := St.refl (nT) w28 O29
  have zh21 := h21
  have zh5 := h5
  have zh8 := h8
  have zh11 := h11
  have zh26 := h26
  have zh31 := h31
  refine ewp_drawS (fun w' => ∃ O', St (nT) w28 O29 w' O') ?_
  refine hws_pre (fuel := 1) [(0, true), (1, true), (2, true), (3, true), (4, true), (5, true), (6, true), (7, true), (8, true), (9, true), (10, true), (11, true), (12, true), (13, true), (14, true), (15, true), (16, true)] (by kernel_rfl) (by kernel_rfl) (by kernel_rfl) ⟨_, hZ⟩ ?_
  refine h_fa rfl rfl rfl  ?_
  refine h_ldC (hc := fun w' ⟨O', hq⟩ => Blk.cell (i := 0) ((zh21.st hq (by decide)).1) rfl) rfl rfl rfl  ?_
  refine h_fa rfl rfl rfl  ?_
  refine h_ldC (hc := fun w' ⟨O', hq⟩ => Blk.cell (i := 0) ((zh26.st hq (by decide)).1) rfl) rfl rfl rfl  ?_
  obtain ⟨a32, e33, hm⟩ := bs hm
  obtain ⟨p35, x34⟩ := atI_some' e33
  obtain ⟨b36, o37, ce38, hA39, hF42, hl40, hd41, rfl, r43⟩ := zh5.elem x34
  refine h_iaE (hA := hA39) (hj := (Int.toNat_of_nonneg p35).symm) (hlt := hl40) rfl rfl rfl rfl  ?_
  refine h_ldC (hc := fun w' ⟨O', hq⟩ => cat0 (cellsAt_agree (hq.agree (i := 0) (by decide)) hF42 hd41)) rfl rfl rfl  ?_
  refine h_fa rfl rfl rfl  ?_
  refine h_ldC (hc := fun w' ⟨O', hq⟩ => Blk.cell (i := 1) ((zh21.st hq (by decide)).1) rfl) rfl rfl rfl  ?_
  refine h_fa rfl rfl rfl  ?_
  refine h_ldC (hc := fun w' ⟨O', hq⟩ => Blk.cell (i := 0) ((zh26.st hq (by decide)).1) rfl) rfl rfl rfl  ?_
  obtain ⟨a44, e45, hm⟩ := bs hm
  obtain ⟨p47, x46⟩ := atI_some' e45
  obtain ⟨b48, o49, ce50, hA51, hF54, hl52, hd53, v55, rfl, h56⟩ := zh8.elem x46
  replace h56 := Vb.of_slice h56
  obtain ⟨A57, c58, rfl⟩ := h56.form
  have zh56 := h56
  refine h_iaE (hA := hA51) (hj := (Int.toNat_of_nonneg p47).symm) (hlt := hl52) rfl rfl rfl rfl  ?_
  refine h_ldC (hc := fun w' ⟨O', hq⟩ => cat0 (cellsAt_agree (hq.agree (i := 0) (by decide)) hF54 hd53)) rfl rfl rfl  ?_
  refine h_fa rfl rfl rfl  ?_
  refine h_ldC (hc := fun w' ⟨O', hq⟩ => Blk.cell (i := 1) ((zh26.st hq (by decide)).1) rfl) rfl rfl rfl  ?_
  obtain ⟨a59, e60, hm⟩ := bs hm
  obtain ⟨p62, x61⟩ := atI_some' e60
  obtain ⟨b63, o64, ce65, hA66, hF69, hl67, hd68, rfl, r70⟩ := zh56.elem x61
  refine h_iaE (hA := hA66) (hj := (Int.toNat_of_nonneg p62).symm) (hlt := hl67) rfl rfl rfl rfl  ?_
  refine h_ldC (hc := fun w' ⟨O', hq⟩ => cat0 (cellsAt_agree (hq.agree (i := 0) (by decide)) hF69 hd68)) rfl rfl rfl  ?_
  refine h_bd rfl rfl rfl rfl  ?_
  refine hwp_nilT ?_
  refine hws_one (i := 17) (by kernel_rfl) rfl ?_
  refine l_store h31 rfl rfl rfl (Nat.le_of_ble_eq_true rfl) (by first | exact allOne rfl | simp [Value.cells, Value.oneCell', errV_one]) fun w71 S72 h31 => ?_
  replace h31 : Lc 4 w71 O29 g27 103 [(.int .i64 a32), (.int .i64 a59)] := h31
  replace hB := hB.st S72 (by decide) (by decide)
  refine owp_loudSE (by kernel_rfl) ?_
  refine hws_nil (by kernel_rfl) ?_
  refine ewp_ret ?_
  obtain rfl := sm hm
  exact ret1v rfl (res_cell (cs := [(.int .i64 a32), (.int .i64 a59)]) rfl rfl h31.1.cellsAt) ⟨hB.ext, (Vb.ofAgg (cs := [(.int .i64 a32), (.int .i64 a59)]) (x := (⟨a32, a59⟩ : Fct)) rfl ⟨rfl, r43, r70⟩)⟩
noncomputable def m_ref51_Facts (x0 : Swp) (x1 : List Fct) : Option (List Fct) :=
  bnd (rng (ρ := (List Fct)) (fun (k27 : Nat) (a28 : Fct) (s25 : (List Fct)) => bnd (m_ref51_Fact x0 a28) fun q58 => bnd (appI 16 s25 [q58]) fun u68 => some (.next u68)) x1 0 ([] : List Fct)) fun res23 => fin res23 fun (s84 : (List Fct)) => bnd (m_ref06_Make s84) fun q88 => some q88.1
theorem c_ref51_Facts {w : World} {A : Nat → Prop} (hA : ∀ k, A k → k < w.heap.size) {vx0 : Value} {x0 : Swp} (hx0 : Vb w A vx0 x0) {vx1 : Value} {x1 : List Fct} (hx1 : Vb w A vx1 x1) {r : (List Fct)} (hm : m_ref51_Facts x0 x1 = some r) :
    Fn Try.prog 43 [vx0, vx1] w fun v w' => Ext w w' ∧ Vb w' (upA A w w') v r := by
  obtain ⟨O, hB, hA0⟩ := enter hA
  replace hx0 := hx0.mono hA0
  obtain ⟨cs1, rfl, v2, v3, v4, rfl, h5, h8, h11⟩ := hx0
  obtain ⟨A6, c7, rfl⟩ := h5.form
  obtain ⟨A9, c10, rfl⟩ := h8.form
  obtain ⟨A12, c13, rfl⟩ := h11.form
  replace hx1 := hx1.mono hA0
  obtain ⟨A14, c15, rfl⟩ := hx1.form
  refine fn_enter Try.func43 rfl Try.ntmps43 rfl ?_
  unfold m_ref51_Facts at hm
  refine ewp_seq ?_
  refine ewp_region ?_
  refine l_box 2 O rfl rfl fun g16 w17 O18 S19 h20 => ?_
  replace h20 : Lc 2 w17 O18 g16 29 [(.slice A6 x0.vars.length c7), (.slice A9 x0.vals.length c10), (.slice A12 x0.ops.length c13)] := h20
  replace hB := hB.st S19 (fun h => h) (fun h => h)
  replace hx1 := hx1.st S19 (fun h => h)
  replace h5 := h5.st S19 (fun h => h)
  replace h8 := h8.st S19 (fun h => h)
  replace h11 := h11.st S19 (fun h => h)
  refine o_as rfl rfl  ?_
  (first | refine owp_nilT ?_ | refine owp_nilB ?_ | refine owp_nilBB ?_ | refine owp_nil ?_)
  refine ewp_seq ?_
  refine ewp_region ?_
  refine o_as rfl rfl  ?_
  (first | refine owp_nilT ?_ | refine owp_nilB ?_ | refine owp_nilBB ?_ | refine owp_nil ?_)
  refine ewp_seq ?_
  refine ewp_seq ?_
  refine ewp_region ?_
  refine o_mv rfl rfl  ?_
  refine o_ln rfl rfl  ?_
  have l22 : x1.length ≤ 9223372036854775807 := Nat.le_trans hx1.len.2.1 hx1.len.2.2
  have r21 : inI64 (x1.length : Int) := rngNat l22
  refine o_mv rfl rfl  ?_
  (first | refine owp_nilT ?_ | refine owp_nilB ?_ | refine owp_nilBB ?_ | refine owp_nil ?_)
  obtain ⟨res23, hL24, hm⟩ := bs hm
  refine ewp_join (aft res23 (fun (s25 : (List Fct)) (x26 : (Option Addr × Nat)) => [(5, (.slice x26.1 s25.length x26.2))]) (fun s25 x26 w' => ∃ O' : Lab, Bs w A w' O' ∧ Rw 4 w' O' 103 (.slice x26.1 s25.length x26.2) s25)) ?_ ?_
  · refine ewp_block ?_
    refine ewp_rng (σ := (List Fct)) (X := (Option Addr × Nat)) (x1.length) hL24 rfl l22 (fun (s25 : (List Fct)) (x26 : (Option Addr × Nat)) => [(2, (.pointer (some ⟨g16, 0, none⟩))), (5, (.slice x26.1 s25.length x26.2)), (10, (.slice A14 x1.length c15))]) _ (fun s25 x26 w' => ∃ O' : Lab, Bs w A w' O' ∧ Lc 2 w' O' g16 29 [(.slice A6 x0.vars.length c7), (.slice A9 x0.vals.length c10), (.slice A12 x0.ops.length c13)] ∧ Vb w' (Fr 0 w' O') (.slice A6 x0.vars.length c7) x0.vars ∧ Vb w' (Fr 0 w' O') (.slice A9 x0.vals.length c10) x0.vals ∧ Vb w' (Fr 0 w' O') (.slice A12 x0.ops.length c13) x0.ops ∧ Rw 4 w' O' 103 (.slice x26.1 s25.length x26.2) s25 ∧ Vb w' (Fr 0 w' O') (.slice A14 x1.length c15) x1) _ (none, 0) ⟨O18, hB, h20, h5, h8, h11, (Rw.nil 4 (by decide)), hx1⟩ ⟨rfl, rfl, rfl, rfl, rfl, trivial⟩ (fun _ _ => ⟨rfl, rfl⟩) (fun _ _ => ⟨rfl, trivial⟩) (fun _ _ _ ⟨O', hB, h20, h5, h8, h11, h40, hx1⟩ => ⟨O', hB, h40⟩) ⟨rfl, rfl, rfl⟩ ⟨rfl, rfl⟩ ?_
    rintro k27 a28 s25 x26 w29 cc31 hx32 ⟨O30, hB, h20, h5, h8, h11, h40, hx1⟩ hf33 hret34 hbrk35
    have rk27 : inI64 (k27 : Int) := rngK hx32 l22
    refine ewp_seq ?_
    refine ewp_region ?_
    obtain ⟨b42, o43, ce44, hA45, hl46, hd47, rfl, r49, r50⟩ := hx1.elem' hx32
    refine o_iaE (hA := hA45) (hj := rfl) (hlt := hl46) rfl rfl rfl  ?_
    refine o_la (hl := rfl) (hc := hd47) rfl rfl  ?_
    refine l_alloc 3 O30 rfl fun g51 w52 O53 S54 h55 => ?_
    replace hB := hB.st S54 (fun h => h) (fun h => h)
    replace h20 := h20.st S54 (fun h => h)
    replace h5 := h5.st S54 (fun h => h)
    replace h8 := h8.st S54 (fun h => h)
    replace h11 := h11.st S54 (fun h => h)
    replace h40 := h40.st S54 (fun h => h) (fun h => h)
    replace hx1 := hx1.st S54 (fun h => h)
    refine l_store h55 rfl rfl rfl (Nat.le_of_ble_eq_true rfl) (by first | exact allOne rfl | simp [Value.cells, Value.oneCell', errV_one]) fun w56 S57 h55 => ?_
    replace h55 : Lc 3 w56 O53 g51 103 [(.int .i64 a28.var), (.int .i64 a28.val)] := h55
    replace hB := hB.st S57 (by decide) (by decide)
    replace h20 := h20.st S57 (by decide)
    replace h5 := h5.st S57 (by decide)
    replace h8 := h8.st S57 (by decide)
    replace h11 := h11.st S57 (by decide)
    replace h40 := h40.st S57 (by decide) (by decide)
    replace hx1 := hx1.st S57 (by decide)
    (first | refine owp_nilT ?_ | refine owp_nilB ?_ | refine owp_nilBB ?_ | refine owp_nil ?_)
    refine ewp_region ?_
    refine o_mv rfl rfl  ?_
    refine o_la (hl := rfl) (hc := (h20.1).cellsAt) rfl rfl  ?_
    refine o_la (hl := rfl) (hc := (h55.1).cellsAt) rfl rfl  ?_
    obtain ⟨q58, e59, hf33⟩ := bs hf33
    refine l_callA (O := O53) (A := All w56) (R := fun w' F v => Vb w' F v q58) (c_ref51_Fact (fun _ h => h) (Vb.mono (F := Fr 0 w56 O53) (Vb.ofAgg (cs := [(.slice A6 x0.vars.length c7), (.slice A9 x0.vals.length c10), (.slice A12 x0.ops.length c13)]) (x := x0) rfl ⟨_, _, _, rfl, h5, h8, h11⟩) Fr.lt) (Vb.mono (F := Fr 0 w56 O53) (Vb.ofAgg (cs := [(.int .i64 a28.var), (.int .i64 a28.val)]) (x := a28) rfl ⟨rfl, r49, r50⟩) Fr.lt) e59) rfl rfl fun v64 w60 O61 S62 h63 => ?_
    obtain ⟨cs65, rfl, rfl, r66, r67⟩ := h63
    replace hB := hB.st S62 (fun h => h) (fun h => h)
    replace h20 := h20.st S62 (fun h => h)
    replace h5 := h5.st S62 (fun h => h)
    replace h8 := h8.st S62 (fun h => h)
    replace h11 := h11.st S62 (fun h => h)
    replace hx1 := hx1.st S62 (fun h => h)
    replace h40 := h40.st S62 (fun h => h) (fun h => h)
    obtain ⟨u68, e69, hf33⟩ := bs hf33
    obtain ⟨e69, e70, e71⟩ := appI_some e69
    refine l_append1 rfl (a := q58) h40 (Vb.ofAgg (cs := [(.int .i64 q58.var), (.int .i64 q58.val)]) (x := q58) rfl ⟨rfl, r66, r67⟩) (fun _ => rfl) rfl (by decide) (by decide) e70 e71 ⟨rfl, rfl⟩ fun g72 A73 c74 w75 O76 S77 h78 => ?_
    rw [← e69] at h78 ⊢
    replace hB := hB.st S77 (by decide) (by decide)
    replace h20 := h20.st S77 (by decide)
    replace h5 := h5.st S77 (by decide)
    replace h8 := h8.st S77 (by decide)
    replace h11 := h11.st S77 (by decide)
    replace hx1 := hx1.st S77 (by decide)
    refine o_as rfl rfl  ?_
    (first | refine owp_nilT ?_ | refine owp_nilB ?_ | refine owp_nilBB ?_ | refine owp_nil ?_)
    obtain rfl := sm hf33
    refine (?_ : Exists _)
    exact ⟨_, (A73, c74), rfl, ⟨rfl, rfl, rfl, rfl, rfl, trivial⟩, _, hB, h20, h5, h8, h11, h78, hx1⟩
  rintro l80 w81 ⟨s84, x85, rfl, hs83, O82, hB, h40⟩
  replace hm := fin_done hm
  refine ewp_sub _ hs83 ?_
  refine ewp_seq ?_
  refine ewp_region ?_
  refine o_mv rfl rfl  ?_
  obtain ⟨O86, S87, h40⟩ := h40.freeze
  replace hB := hB.st S87 (by decide) (by decide)
  obtain ⟨q88, e89, hm⟩ := bs hm
  refine l_call (O := O86) (R := fun w' F v => T2 w' F v q88) (c_ref06_Make Fr.lt h40 e89) rfl rfl fun v94 w90 O91 S92 h93 => ?_
  obtain ⟨v95, v96, rfl, h97, h98⟩ := h93
  obtain ⟨A99, c100, rfl⟩ := h97.form
  obtain ⟨rfl, r101⟩ := h98.int
  replace hB := hB.st S92 (fun h => h) (fun h => h)
  refine o_mv rfl rfl  ?_
  refine o_ex rfl rfl rfl  ?_
  refine o_ex rfl rfl rfl  ?_
  refine o_as rfl rfl  ?_
  refine o_as rfl rfl  ?_
  (first | refine owp_nilT ?_ | refine owp_nilB ?_ | refine owp_nilBB ?_ | refine owp_nil ?_)
  refine ewp_seq ?_
  refine ewp_region ?_
  refine o_mv rfl rfl  ?_
  refine o_as rfl rfl  ?_
  (first | refine owp_nilT ?_ | refine owp_nilB ?_ | refine owp_nilBB ?_ | refine owp_nil ?_)
  refine ewp_ret ?_
  obtain rfl := sm hm
  exact ret1v rfl (res_tmp rfl) ⟨hB.ext, (Vb.mono (F := Fr 0 w90 O91) h97 hB.out)⟩
noncomputable def m_ref51_fits (x0 : Swp) (x1 : Opr) (x2 : Opr) : Option Bool :=
  bnd (if x1.cost ≠ x2.cost then (some true) else (if (x1.effs.length : Int) ≠ (x2.effs.length : Int) then (some true) else (bnd (m_ref51_Facts x0 x1.pre) fun q61 => bnd (m_base_Facts q61 x2.pre) fun q70 => if q70 = true then some false else some true)) : Option Bool) fun y51 => if y51 = true then (some false) else (bnd (rng (ρ := Bool) (fun (k88 : Nat) (a89 : Eff) (s86 : Unit) => bnd (m_ref51_Fact x0 (⟨a89.var, a89.val⟩ : Fct)) fun q119 => bnd (bnd (x2.effs[k88]?) fun a140 => if q119.var ≠ a140.var then (some true) else (bnd (x2.effs[k88]?) fun a156 => if q119.val ≠ a156.val then (some true) else (bnd (x2.effs[k88]?) fun a172 => bnd (m_ref51_Facts x0 a89.cond) fun q187 => bnd (m_base_Facts q187 a172.cond) fun q196 => if q196 = true then some false else some true)) : Option Bool) fun y136 => if y136 = true then (some (.ret false)) else (some (.next ()))) x1.effs 0 ()) fun res84 => fin res84 fun (s212 : Unit) => some true)
theorem c_ref51_fits {w : World} {A : Nat → Prop} (hA : ∀ k, A k → k < w.heap.size) {vx0 : Value} {x0 : Swp} (hx0 : Vb w A vx0 x0) {vx1 : Value} {x1 : Opr} (hx1 : Vb w A vx1 x1) {vx2 : Value} {x2 : Opr} (hx2 : Vb w A vx2 x2) {r : Bool} (hm : m_ref51_fits x0 x1 x2 = some r) :
    Fn Try.prog 44 [vx0, vx1, vx2] w fun v w' => Ext w w' ∧ Vb w' (upA A w w') v r := by
  obtain ⟨O, hB, hA0⟩ := enter hA
  replace hx0 := hx0.mono hA0
  obtain ⟨cs1, rfl, v2, v3, v4, rfl, h5, h8, h11⟩ := hx0
  obtain ⟨A6, c7, rfl⟩ := h5.form
  obtain ⟨A9, c10, rfl⟩ := h8.form
  obtain ⟨A12, c13, rfl⟩ := h11.form
  replace hx1 := hx1.mono hA0
  obtain ⟨cs14, rfl, v15, v16, rfl, h17, h20, r23, z24⟩ := hx1
  obtain ⟨A18, c19, rfl⟩ := h17.form
  obtain ⟨A21, c22, rfl⟩ := h20.form
  replace hx2 := hx2.mono hA0
  obtain ⟨cs25, rfl, v26, v27, rfl, h28, h31, r34, z35⟩ := hx2
  obtain ⟨A29, c30, rfl⟩ := h28.form
  obtain ⟨A32, c33, rfl⟩ := h31.form
  refine fn_enter Try.func44 rfl Try.ntmps44 rfl ?_
  unfold m_ref51_fits at hm
  refine ewp_seq ?_
  refine ewp_region ?_
  refine l_box 2 O rfl rfl fun g36 w37 O38 S39 h40 => ?_
  replace h40 : Lc 2 w37 O38 g36 29 [(.slice A6 x0.vars.length c7), (.slice A9 x0.vals.length c10), (.slice A12 x0.ops.length c13)] := h40
  replace hB := hB.st S39 (fun h => h) (fun h => h)
  replace h17 := h17.st S39 (fun h => h)
  replace h20 := h20.st S39 (fun h => h)
  replace h28 := h28.st S39 (fun h => h)
  replace h31 := h31.st S39 (fun h => h)
  replace h5 := h5.st S39 (fun h => h)
  replace h8 := h8.st S39 (fun h => h)
  replace h11 := h11.st S39 (fun h => h)
  refine l_box 3 O38 rfl rfl fun g41 w42 O43 S44 h45 => ?_
  replace h45 : Lc 3 w42 O43 g41 77 [(.string x1.name), (.int .i64 x1.cost), (.slice A18 x1.pre.length c19), (.slice A21 x1.effs.length c22)] := h45
  replace hB := hB.st S44 (fun h => h) (fun h => h)
  replace h28 := h28.st S44 (fun h => h)
  replace h31 := h31.st S44 (fun h => h)
  replace h40 := h40.st S44 (fun h => h)
  replace h5 := h5.st S44 (fun h => h)
  replace h8 := h8.st S44 (fun h => h)
  replace h11 := h11.st S44 (fun h => h)
  replace h17 := h17.st S44 (fun h => h)
  replace h20 := h20.st S44 (fun h => h)
  refine l_box 4 O43 rfl rfl fun g46 w47 O48 S49 h50 => ?_
  replace h50 : Lc 4 w47 O48 g46 77 [(.string x2.name), (.int .i64 x2.cost), (.slice A29 x2.pre.length c30), (.slice A32 x2.effs.length c33)] := h50
  replace hB := hB.st S49 (fun h => h) (fun h => h)
  replace h40 := h40.st S49 (fun h => h)
  replace h5 := h5.st S49 (fun h => h)
  replace h8 := h8.st S49 (fun h => h)
  replace h11 := h11.st S49 (fun h => h)
  replace h45 := h45.st S49 (fun h => h)
  replace h17 := h17.st S49 (fun h => h)
  replace h20 := h20.st S49 (fun h => h)
  replace h28 := h28.st S49 (fun h => h)
  replace h31 := h31.st S49 (fun h => h)
  refine o_as rfl rfl  ?_
  (first | refine owp_nilT ?_ | refine owp_nilB ?_ | refine owp_nilBB ?_ | refine owp_nil ?_)
  refine ewp_seq ?_
  refine ewp_seq ?_
  obtain ⟨y51, hy52, hm⟩ := bs hm
  refine ewp_join (fun l' w' => ∃ (x54 : Unit) (O' : Lab), subs l' [(3, (.pointer (some ⟨g36, 0, none⟩))), (4, (.pointer (some ⟨g41, 0, none⟩))), (5, (.pointer (some ⟨g46, 0, none⟩))), (33, (.bool y51))] ∧ Bs w A w' O' ∧ Lc 2 w' O' g36 29 [(.slice A6 x0.vars.length c7), (.slice A9 x0.vals.length c10), (.slice A12 x0.ops.length c13)] ∧ Vb w' (Fr 0 w' O') (.slice A6 x0.vars.length c7) x0.vars ∧ Vb w' (Fr 0 w' O') (.slice A9 x0.vals.length c10) x0.vals ∧ Vb w' (Fr 0 w' O') (.slice A12 x0.ops.length c13) x0.ops ∧ Lc 3 w' O' g41 77 [(.string x1.name), (.int .i64 x1.cost), (.slice A18 x1.pre.length c19), (.slice A21 x1.effs.length c22)] ∧ Vb w' (Fr 0 w' O') (.slice A18 x1.pre.length c19) x1.pre ∧ Vb w' (Fr 0 w' O') (.slice A21 x1.effs.length c22) x1.effs ∧ Lc 4 w' O' g46 77 [(.string x2.name), (.int .i64 x2.cost), (.slice A29 x2.pre.length c30), (.slice A32 x2.effs.length c33)] ∧ Vb w' (Fr 0 w' O') (.slice A29 x2.pre.length c30) x2.pre ∧ Vb w' (Fr 0 w' O') (.slice A32 x2.effs.length c33) x2.effs) ?_ ?_
  · skip
    have hZ := St.refl (nT) w47 O48
    have zh40 := h40
    have zh5 := h5
    have zh8 := h8
    have zh11 := h11
    have zh45 := h45
    have zh17 := h17
    have zh20 := h20
    have zh50 := h50
    have zh28 := h28
    have zh31 := h31
    refine ewp_drawS (fun w' => ∃ O', St (nT) w47 O48 w' O') ?_
    refine hws_pre (fuel := 4) [(0, true), (1, true), (2, true), (3, true), (4, true), (5, true), (6, true), (7, true), (8, true), (9, true), (10, true), (11, true), (12, true), (13, true), (14, true), (15, true), (16, true), (17, true), (19, true), (20, true)] (by kernel_rfl) (by kernel_rfl) (by kernel_rfl) ⟨_, hZ⟩ ?_
    refine h_fa rfl rfl rfl  ?_
    refine h_ldC (hc := fun w' ⟨O', hq⟩ => Blk.cell (i := 1) ((zh45.st hq (by decide)).1) rfl) rfl rfl rfl  ?_
    refine h_fa rfl rfl rfl  ?_
    refine h_ldC (hc := fun w' ⟨O', hq⟩ => Blk.cell (i := 1) ((zh50.st hq (by decide)).1) rfl) rfl rfl rfl  ?_
    refine h_neS rfl rfl rfl rfl (fun c55 => ?_) fun c55 => ?_
    · replace hy52 := ip hy52 c55
      refine h_mv rfl rfl rfl  ?_
      refine h_no rfl rfl rfl rfl rfl ?_
      refine h_no rfl rfl rfl rfl rfl ?_
      refine h_no rfl rfl rfl rfl rfl ?_
      refine h_no rfl rfl rfl rfl rfl ?_
      refine h_no rfl rfl rfl rfl rfl ?_
      refine h_no rfl rfl rfl rfl rfl ?_
      refine h_no rfl rfl rfl rfl rfl ?_
      refine h_pt rfl rfl rfl rfl  ?_
      refine h_mv rfl rfl rfl  ?_
      refine h_no rfl rfl rfl rfl rfl ?_
      refine h_no rfl rfl rfl rfl rfl ?_
      refine h_no rfl rfl rfl rfl rfl ?_
      refine h_no rfl rfl rfl rfl rfl ?_
      refine h_no rfl rfl rfl rfl rfl ?_
      refine hwp_nilT ?_
      refine hws_one (i := 18) (by kernel_rfl) rfl ?_
      refine owp_no rfl rfl rfl rfl ?_
      refine owp_loudS ⟨_, hZ⟩ ?_
      refine hws_one (i := 21) (by kernel_rfl) rfl ?_
      refine owp_no rfl rfl rfl rfl ?_
      refine owp_loudS ⟨_, hZ⟩ ?_
      refine hws_pre (fuel := 0) [(22, true), (23, true)] (by kernel_rfl) (by kernel_rfl) (by kernel_rfl) ⟨_, hZ⟩ ?_
      refine h_no rfl rfl rfl rfl rfl ?_
      refine h_pt rfl rfl rfl rfl  ?_
      refine hwp_nilT ?_
      refine hws_nil (by kernel_rfl) ?_
      obtain rfl := sm hy52
      exact ⟨(), _, ⟨rfl, rfl, rfl, rfl, trivial⟩, hB, h40, h5, h8, h11, h45, h17, h20, h50, h28, h31⟩
    · replace hy52 := im hy52 c55
      refine h_mv rfl rfl rfl  ?_
      refine hwp_o rfl ?_
      refine hwq_yes rfl rfl ?_
      refine g_fa rfl rfl  ?_
      refine hwp_o rfl ?_
      refine hwq_yes rfl rfl ?_
      refine g_ldC (hc := fun w' ⟨O', hq⟩ => Blk.cell (i := 3) ((zh45.st hq (by decide)).1) rfl) rfl rfl  ?_
      refine hwp_o rfl ?_
      refine hwq_yes rfl rfl ?_
      refine g_ln rfl rfl  ?_
      have l57 : x1.effs.length ≤ 9223372036854775807 := Nat.le_trans h20.len.2.1 h20.len.2.2
      have r56 : inI64 (x1.effs.length : Int) := rngNat l57
      refine hwp_o rfl ?_
      refine hwq_yes rfl rfl ?_
      refine g_fa rfl rfl  ?_
      refine hwp_o rfl ?_
      refine hwq_yes rfl rfl ?_
      refine g_ldC (hc := fun w' ⟨O', hq⟩ => Blk.cell (i := 3) ((zh50.st hq (by decide)).1) rfl) rfl rfl  ?_
      refine hwp_o rfl ?_
      refine hwq_yes rfl rfl ?_
      refine g_ln rfl rfl  ?_
      have l59 : x2.effs.length ≤ 9223372036854775807 := Nat.le_trans h31.len.2.1 h31.len.2.2
      have r58 : inI64 (x2.effs.length : Int) := rngNat l59
      refine hwp_o rfl ?_
      refine hwq_yes rfl rfl ?_
      refine hwq_split (fun _ _ => ev_ne rfl rfl) rfl (fun c60 => ?_) (fun c60 => ?_)
      · replace hy52 := ip hy52 c60
        refine h_pf rfl rfl rfl rfl  ?_
        refine h_mv rfl rfl rfl  ?_
        refine h_no rfl rfl rfl rfl rfl ?_
        refine h_no rfl rfl rfl rfl rfl ?_
        refine h_no rfl rfl rfl rfl rfl ?_
        refine h_no rfl rfl rfl rfl rfl ?_
        refine h_no rfl rfl rfl rfl rfl ?_
        refine hwp_nilT ?_
        refine hws_one (i := 18) (by kernel_rfl) rfl ?_
        refine owp_no rfl rfl rfl rfl ?_
        refine owp_loudS ⟨_, hZ⟩ ?_
        refine hws_one (i := 21) (by kernel_rfl) rfl ?_
        refine owp_no rfl rfl rfl rfl ?_
        refine owp_loudS ⟨_, hZ⟩ ?_
        refine hws_pre (fuel := 0) [(22, true), (23, true)] (by kernel_rfl) (by kernel_rfl) (by kernel_rfl) ⟨_, hZ⟩ ?_
        refine h_no rfl rfl rfl rfl rfl ?_
        refine h_pt rfl rfl rfl rfl  ?_
        refine hwp_nilT ?_
        refine hws_nil (by kernel_rfl) ?_
        obtain rfl := sm hy52
        exact ⟨(), _, ⟨rfl, rfl, rfl, rfl, trivial⟩, hB, h40, h5, h8, h11, h45, h17, h20, h50, h28, h31⟩
      · replace hy52 := im hy52 c60
        refine h_pf rfl rfl rfl rfl  ?_
        refine h_mv rfl rfl rfl  ?_
        refine hwp_o rfl ?_
        refine hwq_yes rfl rfl ?_
        refine g_laB (hl := rfl) (hb := fun w' ⟨O', hq⟩ => ((zh40.st hq (by decide)).1).cellsAt) rfl rfl  ?_
        refine hwp_o rfl ?_
        refine hwq_yes rfl rfl ?_
        refine g_fa rfl rfl  ?_
        refine hwp_o rfl ?_
        refine hwq_yes rfl rfl ?_
        refine g_ldC (hc := fun w' ⟨O', hq⟩ => Blk.cell (i := 2) ((zh45.st hq (by decide)).1) rfl) rfl rfl  ?_
        refine hwp_o rfl ?_
        refine hwq_yes rfl rfl ?_
        refine g_fa rfl rfl  ?_
        refine hwp_o rfl ?_
        refine hwq_yes rfl rfl ?_
        refine g_ldC (hc := fun w' ⟨O', hq⟩ => Blk.cell (i := 2) ((zh50.st hq (by decide)).1) rfl) rfl rfl  ?_
        refine hwp_nilT ?_
        refine hws_one (i := 18) (by kernel_rfl) rfl ?_
        refine owp_yes rfl rfl ?_
        obtain ⟨q61, e62, hy52⟩ := bs hy52
        refine l_call (O := O48) (R := fun w' F v => Vb w' F v q61) (c_ref51_Facts Fr.lt (Vb.ofAgg (cs := [(.slice A6 x0.vars.length c7), (.slice A9 x0.vals.length c10), (.slice A12 x0.ops.length c13)]) (x := x0) rfl ⟨_, _, _, rfl, h5, h8, h11⟩) h17 e62) rfl rfl fun v67 w63 O64 S65 h66 => ?_
        obtain ⟨A68, c69, rfl⟩ := h66.form
        replace hZ := hZ.comp S65 (fun _ h => h.elim)
        replace hB := hB.st S65 (fun h => h) (fun h => h)
        replace h40 := h40.st S65 (fun h => h)
        replace h5 := h5.st S65 (fun h => h)
        replace h8 := h8.st S65 (fun h => h)
        replace h11 := h11.st S65 (fun h => h)
        replace h45 := h45.st S65 (fun h => h)
        replace h17 := h17.st S65 (fun h => h)
        replace h20 := h20.st S65 (fun h => h)
        replace h50 := h50.st S65 (fun h => h)
        replace h28 := h28.st S65 (fun h => h)
        replace h31 := h31.st S65 (fun h => h)
        refine owp_loudS ⟨_, hZ⟩ ?_
        refine hws_one (i := 21) (by kernel_rfl) rfl ?_
        refine owp_yes rfl rfl ?_
        obtain ⟨q70, e71, hy52⟩ := bs hy52
        refine l_callA (O := O64) (A := All w63) (R := fun w' F v => Vb w' F v q70) (c_base_Facts (fun _ h => h) (Vb.mono (F := Fr 0 w63 O64) h66 Fr.lt) (Vb.mono (F := Fr 0 w63 O64) h28 Fr.lt) e71) rfl rfl fun v76 w72 O73 S74 h75 => ?_
        obtain rfl := h75.bool
        replace hZ := hZ.comp S74 (fun _ h => h.elim)
        replace hB := hB.st S74 (fun h => h) (fun h => h)
        replace h40 := h40.st S74 (fun h => h)
        replace h5 := h5.st S74 (fun h => h)
        replace h8 := h8.st S74 (fun h => h)
        replace h11 := h11.st S74 (fun h => h)
        replace h45 := h45.st S74 (fun h => h)
        replace h17 := h17.st S74 (fun h => h)
        replace h20 := h20.st S74 (fun h => h)
        replace h50 := h50.st S74 (fun h => h)
        replace h28 := h28.st S74 (fun h => h)
        replace h31 := h31.st S74 (fun h => h)
        cases q70
        case false =>
          replace hy52 := iF hy52
          refine owp_loudS ⟨_, hZ⟩ ?_
          refine hws_pre (fuel := 0) [(22, true), (23, true)] (by kernel_rfl) (by kernel_rfl) (by kernel_rfl) ⟨_, hZ⟩ ?_
          refine hwp_o rfl ?_
          refine hwq_yes rfl rfl ?_
          refine g_nf rfl rfl  ?_
          refine h_pf rfl rfl rfl rfl  ?_
          refine hwp_nilT ?_
          refine hws_nil (by kernel_rfl) ?_
          obtain rfl := sm hy52
          exact ⟨(), _, ⟨rfl, rfl, rfl, rfl, trivial⟩, hB, h40, h5, h8, h11, h45, h17, h20, h50, h28, h31⟩
        replace hy52 := iT hy52
        refine owp_loudS ⟨_, hZ⟩ ?_
        refine hws_pre (fuel := 0) [(22, true), (23, true)] (by kernel_rfl) (by kernel_rfl) (by kernel_rfl) ⟨_, hZ⟩ ?_
        refine hwp_o rfl ?_
        refine hwq_yes rfl rfl ?_
        refine g_nt rfl rfl  ?_
        refine h_pf rfl rfl rfl rfl  ?_
        refine hwp_nilT ?_
        refine hws_nil (by kernel_rfl) ?_
        obtain rfl := sm hy52
        exact ⟨(), _, ⟨rfl, rfl, rfl, rfl, trivial⟩, hB, h40, h5, h8, h11, h45, h17, h20, h50, h28, h31⟩
  rintro l77 w78 ⟨x54, O79, hs80, hB, h40, h5, h8, h11, h45, h17, h20, h50, h28, h31⟩
  refine ewp_sub _ hs80 ?_
  refine ewp_cond rfl (fun c81 => ?_) (fun c81 => ?_)
  · replace hm := ip hm c81
    refine ewp_seq ?_
    refine ewp_region ?_
    refine o_as rfl rfl  ?_
    (first | refine owp_nilT ?_ | refine owp_nilB ?_ | refine owp_nilBB ?_ | refine owp_nil ?_)
    refine ewp_ret ?_
    obtain rfl := sm hm
    exact ret1v rfl (res_tmp rfl) ⟨hB.ext, vBool⟩
  · replace hm := im' hm c81
    refine ewp_skip ?_
    refine ewp_seq ?_
    refine ewp_seq ?_
    refine ewp_region ?_
    refine o_fa rfl rfl  ?_
    refine o_ld (hc := Blk.cell (i := 3) (h45.1) rfl) rfl rfl  ?_
    refine o_ln rfl rfl  ?_
    have l83 : x1.effs.length ≤ 9223372036854775807 := Nat.le_trans h20.len.2.1 h20.len.2.2
    have r82 : inI64 (x1.effs.length : Int) := rngNat l83
    refine o_mv rfl rfl  ?_
    (first | refine owp_nilT ?_ | refine owp_nilB ?_ | refine owp_nilBB ?_ | refine owp_nil ?_)
    obtain ⟨res84, hL85, hm⟩ := bs hm
    refine ewp_join (aft res84 (fun (s86 : Unit) (x87 : Unit) => []) (fun s86 x87 w' => ∃ O' : Lab, Bs w A w' O')) ?_ ?_
    · refine ewp_block ?_
      refine ewp_rng (σ := Unit) (X := Unit) (x1.effs.length) hL85 rfl l83 (fun (s86 : Unit) (x87 : Unit) => [(3, (.pointer (some ⟨g36, 0, none⟩))), (5, (.pointer (some ⟨g46, 0, none⟩))), (35, (.slice A21 x1.effs.length c22))]) _ (fun s86 x87 w' => ∃ O' : Lab, Bs w A w' O' ∧ Lc 2 w' O' g36 29 [(.slice A6 x0.vars.length c7), (.slice A9 x0.vals.length c10), (.slice A12 x0.ops.length c13)] ∧ Vb w' (Fr 0 w' O') (.slice A6 x0.vars.length c7) x0.vars ∧ Vb w' (Fr 0 w' O') (.slice A9 x0.vals.length c10) x0.vals ∧ Vb w' (Fr 0 w' O') (.slice A12 x0.ops.length c13) x0.ops ∧ Lc 4 w' O' g46 77 [(.string x2.name), (.int .i64 x2.cost), (.slice A29 x2.pre.length c30), (.slice A32 x2.effs.length c33)] ∧ Vb w' (Fr 0 w' O') (.slice A29 x2.pre.length c30) x2.pre ∧ Vb w' (Fr 0 w' O') (.slice A32 x2.effs.length c33) x2.effs ∧ Vb w' (Fr 0 w' O') (.slice A21 x1.effs.length c22) x1.effs) _ () ⟨O79, hB, h40, h5, h8, h11, h50, h28, h31, h20⟩ ⟨rfl, rfl, rfl, rfl, rfl, trivial⟩ (fun _ _ => ⟨rfl, rfl⟩) (fun _ _ => trivial) (fun _ _ _ ⟨O', hB, h40, h5, h8, h11, h50, h28, h31, h20⟩ => ⟨O', hB⟩) ⟨rfl, rfl, rfl⟩ ⟨rfl, rfl⟩ ?_
      rintro k88 a89 s86 x87 w90 cc92 hx93 ⟨O91, hB, h40, h5, h8, h11, h50, h28, h31, h20⟩ hf94 hret95 hbrk96
      have rk88 : inI64 (k88 : Int) := rngK hx93 l83
      refine ewp_seq ?_
      refine ewp_region ?_
      refine o_mv rfl rfl  ?_
      obtain ⟨b99, o100, ce101, hA102, hl103, hd104, v106, rfl, h107, r110, r111⟩ := h20.elem' hx93
      obtain ⟨A108, c109, rfl⟩ := h107.form
      refine o_iaE (hA := hA102) (hj := rfl) (hlt := hl103) rfl rfl rfl  ?_
      refine o_la (hl := rfl) (hc := hd104) rfl rfl  ?_
      refine l_alloc 5 O91 rfl fun g112 w113 O114 S115 h116 => ?_
      replace hB := hB.st S115 (fun h => h) (fun h => h)
      replace h40 := h40.st S115 (fun h => h)
      replace h5 := h5.st S115 (fun h => h)
      replace h8 := h8.st S115 (fun h => h)
      replace h11 := h11.st S115 (fun h => h)
      replace h50 := h50.st S115 (fun h => h)
      replace h28 := h28.st S115 (fun h => h)
      replace h31 := h31.st S115 (fun h => h)
      replace h20 := h20.st S115 (fun h => h)
      replace h107 := h107.st S115 (fun h => h)
      refine o_as rfl rfl  ?_
      refine l_store h116 rfl rfl rfl (Nat.le_of_ble_eq_true rfl) (by first | exact allOne rfl | simp [Value.cells, Value.oneCell', errV_one]) fun w117 S118 h116 => ?_
      replace h116 : Lc 5 w117 O114 g112 74 [(.slice A108 a89.cond.length c109), (.int .i64 a89.var), (.int .i64 a89.val)] := h116
      replace hB := hB.st S118 (by decide) (by decide)
      replace h40 := h40.st S118 (by decide)
      replace h5 := h5.st S118 (by decide)
      replace h8 := h8.st S118 (by decide)
      replace h11 := h11.st S118 (by decide)
      replace h50 := h50.st S118 (by decide)
      replace h28 := h28.st S118 (by decide)
      replace h31 := h31.st S118 (by decide)
      replace h107 := h107.st S118 (by decide)
      replace h20 := h20.st S118 (by decide)
      (first | refine owp_nilT ?_ | refine owp_nilB ?_ | refine owp_nilBB ?_ | refine owp_nil ?_)
      refine ewp_seq ?_
      refine ewp_region ?_
      refine o_la (hl := rfl) (hc := (h40.1).cellsAt) rfl rfl  ?_
      refine o_fa rfl rfl  ?_
      refine o_ld (hc := Blk.cell (i := 1) (h116.1) rfl) rfl rfl  ?_
      refine o_fa rfl rfl  ?_
      refine o_ld (hc := Blk.cell (i := 2) (h116.1) rfl) rfl rfl  ?_
      refine o_bd rfl rfl rfl  ?_
      obtain ⟨q119, e120, hf94⟩ := bs hf94
      refine l_callA (O := O114) (A := All w117) (R := fun w' F v => Vb w' F v q119) (c_ref51_Fact (fun _ h => h) (Vb.mono (F := Fr 0 w117 O114) (Vb.ofAgg (cs := [(.slice A6 x0.vars.length c7), (.slice A9 x0.vals.length c10), (.slice A12 x0.ops.length c13)]) (x := x0) rfl ⟨_, _, _, rfl, h5, h8, h11⟩) Fr.lt) (Vb.mono (F := Fr 0 w117 O114) (Vb.ofAgg (cs := [(.int .i64 a89.var), (.int .i64 a89.val)]) (x := (⟨a89.var, a89.val⟩ : Fct)) rfl ⟨rfl, r110, r111⟩) Fr.lt) e120) rfl rfl fun v125 w121 O122 S123 h124 => ?_
      obtain ⟨cs126, rfl, rfl, r127, r128⟩ := h124
      replace hB := hB.st S123 (fun h => h) (fun h => h)
      replace h40 := h40.st S123 (fun h => h)
      replace h5 := h5.st S123 (fun h => h)
      replace h8 := h8.st S123 (fun h => h)
      replace h11 := h11.st S123 (fun h => h)
      replace h50 := h50.st S123 (fun h => h)
      replace h28 := h28.st S123 (fun h => h)
      replace h31 := h31.st S123 (fun h => h)
      replace h116 := h116.st S123 (fun h => h)
      replace h107 := h107.st S123 (fun h => h)
      replace h20 := h20.st S123 (fun h => h)
      refine l_alloc 6 O122 rfl fun g129 w130 O131 S132 h133 => ?_
      replace hB := hB.st S132 (fun h => h) (fun h => h)
      replace h40 := h40.st S132 (fun h => h)
      replace h5 := h5.st S132 (fun h => h)
      replace h8 := h8.st S132 (fun h => h)
      replace h11 := h11.st S132 (fun h => h)
      replace h50 := h50.st S132 (fun h => h)
      replace h28 := h28.st S132 (fun h => h)
      replace h31 := h31.st S132 (fun h => h)
      replace h116 := h116.st S132 (fun h => h)
      replace h107 := h107.st S132 (fun h => h)
      replace h20 := h20.st S132 (fun h => h)
      refine l_store h133 rfl rfl rfl (Nat.le_of_ble_eq_true rfl) (by first | exact allOne rfl | simp [Value.cells, Value.oneCell', errV_one]) fun w134 S135 h133 => ?_
      replace h133 : Lc 6 w134 O131 g129 103 [(.int .i64 q119.var), (.int .i64 q119.val)] := h133
      replace hB := hB.st S135 (by decide) (by decide)
      replace h40 := h40.st S135 (by decide)
      replace h5 := h5.st S135 (by decide)
      replace h8 := h8.st S135 (by decide)
      replace h11 := h11.st S135 (by decide)
      replace h50 := h50.st S135 (by decide)
      replace h28 := h28.st S135 (by decide)
      replace h31 := h31.st S135 (by decide)
      replace h116 := h116.st S135 (by decide)
      replace h107 := h107.st S135 (by decide)
      replace h20 := h20.st S135 (by decide)
      (first | refine owp_nilT ?_ | refine owp_nilB ?_ | refine owp_nilBB ?_ | refine owp_nil ?_)
      refine ewp_seq ?_
      obtain ⟨y136, hy137, hf94⟩ := bs hf94
      refine ewp_join (fun l' w' => ∃ (x139 : Unit) (O' : Lab), subs l' [(3, (.pointer (some ⟨g36, 0, none⟩))), (5, (.pointer (some ⟨g46, 0, none⟩))), (35, (.slice A21 x1.effs.length c22)), (36, (.int .i64 (x1.effs.length : Int))), (37, (.int .i64 (k88 : Int))), (82, (.bool y136))] ∧ Bs w A w' O' ∧ Lc 2 w' O' g36 29 [(.slice A6 x0.vars.length c7), (.slice A9 x0.vals.length c10), (.slice A12 x0.ops.length c13)] ∧ Vb w' (Fr 0 w' O') (.slice A6 x0.vars.length c7) x0.vars ∧ Vb w' (Fr 0 w' O') (.slice A9 x0.vals.length c10) x0.vals ∧ Vb w' (Fr 0 w' O') (.slice A12 x0.ops.length c13) x0.ops ∧ Lc 4 w' O' g46 77 [(.string x2.name), (.int .i64 x2.cost), (.slice A29 x2.pre.length c30), (.slice A32 x2.effs.length c33)] ∧ Vb w' (Fr 0 w' O') (.slice A29 x2.pre.length c30) x2.pre ∧ Vb w' (Fr 0 w' O') (.slice A32 x2.effs.length c33) x2.effs ∧ Vb w' (Fr 0 w' O') (.slice A21 x1.effs.length c22) x1.effs) ?_ ?_
      · skip
        have hZ := St.refl (nT) w134 O131
        have zh40 := h40
        have zh5 := h5
        have zh8 := h8
        have zh11 := h11
        have zh50 := h50
        have zh28 := h28
        have zh31 := h31
        have zh116 := h116
        have zh107 := h107
        have zh133 := h133
        have zh20 := h20
        refine ewp_drawS (fun w' => ∃ O', St (nT) w134 O131 w' O') ?_
        refine hws_pre (fuel := 4) [(0, true), (1, true), (2, true), (3, true), (4, true), (5, true), (6, true), (7, true), (8, true), (9, true), (10, true), (11, true), (12, true), (13, true), (14, true), (15, true), (16, true), (17, true), (18, true), (19, true), (20, true), (21, true), (22, true), (23, true), (25, true), (26, true), (27, true), (28, true), (29, true), (30, true)] (by kernel_rfl) (by kernel_rfl) (by kernel_rfl) ⟨_, hZ⟩ ?_
        refine h_fa rfl rfl rfl  ?_
        refine h_ldC (hc := fun w' ⟨O', hq⟩ => Blk.cell (i := 0) ((zh133.st hq (by decide)).1) rfl) rfl rfl rfl  ?_
        refine h_fa rfl rfl rfl  ?_
        refine h_ldC (hc := fun w' ⟨O', hq⟩ => Blk.cell (i := 3) ((zh50.st hq (by decide)).1) rfl) rfl rfl rfl  ?_
        refine h_mv rfl rfl rfl  ?_
        obtain ⟨a140, e141, hy137⟩ := bs hy137
        obtain ⟨b142, o143, ce144, hA145, hF148, hl146, hd147, v149, rfl, h150, r153, r154⟩ := zh31.elem e141
        obtain ⟨A151, c152, rfl⟩ := h150.form
        have zh150 := h150
        refine h_iaE (hA := hA145) (hj := rfl) (hlt := hl146) rfl rfl rfl rfl  ?_
        refine h_fa rfl rfl rfl  ?_
        refine h_ldC (hc := fun w' ⟨O', hq⟩ => cat1 (cellsAt_agree (hq.agree (i := 0) (by decide)) hF148 hd147)) rfl rfl rfl  ?_
        refine h_neS rfl rfl rfl rfl (fun c155 => ?_) fun c155 => ?_
        · replace hy137 := ip hy137 c155
          refine h_mv rfl rfl rfl  ?_
          refine h_no rfl rfl rfl rfl rfl ?_
          refine h_no rfl rfl rfl rfl rfl ?_
          refine h_no rfl rfl rfl rfl rfl ?_
          refine h_no rfl rfl rfl rfl rfl ?_
          refine h_no rfl rfl rfl rfl rfl ?_
          refine h_no rfl rfl rfl rfl rfl ?_
          refine h_no rfl rfl rfl rfl rfl ?_
          refine h_no rfl rfl rfl rfl rfl ?_
          refine h_no rfl rfl rfl rfl rfl ?_
          refine h_pt rfl rfl rfl rfl  ?_
          refine h_mv rfl rfl rfl  ?_
          refine h_no rfl rfl rfl rfl rfl ?_
          refine h_no rfl rfl rfl rfl rfl ?_
          refine h_no rfl rfl rfl rfl rfl ?_
          refine h_no rfl rfl rfl rfl rfl ?_
          refine h_no rfl rfl rfl rfl rfl ?_
          refine h_no rfl rfl rfl rfl rfl ?_
          refine h_no rfl rfl rfl rfl rfl ?_
          refine h_no rfl rfl rfl rfl rfl ?_
          refine h_no rfl rfl rfl rfl rfl ?_
          refine hwp_nilT ?_
          refine hws_one (i := 24) (by kernel_rfl) rfl ?_
          refine owp_no rfl rfl rfl rfl ?_
          refine owp_loudS ⟨_, hZ⟩ ?_
          refine hws_one (i := 31) (by kernel_rfl) rfl ?_
          refine owp_no rfl rfl rfl rfl ?_
          refine owp_loudS ⟨_, hZ⟩ ?_
          refine hws_pre (fuel := 0) [(32, true), (33, true)] (by kernel_rfl) (by kernel_rfl) (by kernel_rfl) ⟨_, hZ⟩ ?_
          refine h_no rfl rfl rfl rfl rfl ?_
          refine h_pt rfl rfl rfl rfl  ?_
          refine hwp_nilT ?_
          refine hws_nil (by kernel_rfl) ?_
          obtain rfl := sm hy137
          exact ⟨(), _, ⟨rfl, rfl, rfl, rfl, rfl, rfl, trivial⟩, hB, h40, h5, h8, h11, h50, h28, h31, h20⟩
        · replace hy137 := im hy137 c155
          refine h_mv rfl rfl rfl  ?_
          refine hwp_o rfl ?_
          refine hwq_yes rfl rfl ?_
          refine g_fa rfl rfl  ?_
          refine hwp_o rfl ?_
          refine hwq_yes rfl rfl ?_
          refine g_ldC (hc := fun w' ⟨O', hq⟩ => Blk.cell (i := 1) ((zh133.st hq (by decide)).1) rfl) rfl rfl  ?_
          refine hwp_o rfl ?_
          refine hwq_yes rfl rfl ?_
          refine g_fa rfl rfl  ?_
          refine hwp_o rfl ?_
          refine hwq_yes rfl rfl ?_
          refine g_ldC (hc := fun w' ⟨O', hq⟩ => Blk.cell (i := 3) ((zh50.st hq (by decide)).1) rfl) rfl rfl  ?_
          refine hwp_o rfl ?_
          refine hwq_yes rfl rfl ?_
          refine g_mv rfl rfl  ?_
          refine hwp_o rfl ?_
          refine hwq_yes rfl rfl ?_
          obtain ⟨a156, e157, hy137⟩ := bs hy137
          obtain ⟨b158, o159, ce160, hA161, hF164, hl162, hd163, v165, rfl, h166, r169, r170⟩ := zh31.elem e157
          obtain ⟨A167, c168, rfl⟩ := h166.form
          have zh166 := h166
          refine g_iaE (hA := hA161) (hj := rfl) (hlt := hl162) rfl rfl rfl  ?_
          refine hwp_o rfl ?_
          refine hwq_yes rfl rfl ?_
          refine g_fa rfl rfl  ?_
          refine hwp_o rfl ?_
          refine hwq_yes rfl rfl ?_
          refine g_ldC (hc := fun w' ⟨O', hq⟩ => cat2 (cellsAt_agree (hq.agree (i := 0) (by decide)) hF164 hd163)) rfl rfl  ?_
          refine hwp_o rfl ?_
          refine hwq_yes rfl rfl ?_
          refine hwq_split (fun _ _ => ev_ne rfl rfl) rfl (fun c171 => ?_) (fun c171 => ?_)
          · replace hy137 := ip hy137 c171
            refine h_pf rfl rfl rfl rfl  ?_
            refine h_mv rfl rfl rfl  ?_
            refine h_no rfl rfl rfl rfl rfl ?_
            refine h_no rfl rfl rfl rfl rfl ?_
            refine h_no rfl rfl rfl rfl rfl ?_
            refine h_no rfl rfl rfl rfl rfl ?_
            refine h_no rfl rfl rfl rfl rfl ?_
            refine h_no rfl rfl rfl rfl rfl ?_
            refine h_no rfl rfl rfl rfl rfl ?_
            refine h_no rfl rfl rfl rfl rfl ?_
            refine h_no rfl rfl rfl rfl rfl ?_
            refine hwp_nilT ?_
            refine hws_one (i := 24) (by kernel_rfl) rfl ?_
            refine owp_no rfl rfl rfl rfl ?_
            refine owp_loudS ⟨_, hZ⟩ ?_
            refine hws_one (i := 31) (by kernel_rfl) rfl ?_
            refine owp_no rfl rfl rfl rfl ?_
            refine owp_loudS ⟨_, hZ⟩ ?_
            refine hws_pre (fuel := 0) [(32, true), (33, true)] (by kernel_rfl) (by kernel_rfl) (by kernel_rfl) ⟨_, hZ⟩ ?_
            refine h_no rfl rfl rfl rfl rfl ?_
            refine h_pt rfl rfl rfl rfl  ?_
            refine hwp_nilT ?_
            refine hws_nil (by kernel_rfl) ?_
            obtain rfl := sm hy137
            exact ⟨(), _, ⟨rfl, rfl, rfl, rfl, rfl, rfl, trivial⟩, hB, h40, h5, h8, h11, h50, h28, h31, h20⟩
          · replace hy137 := im hy137 c171
            refine h_pf rfl rfl rfl rfl  ?_
            refine h_mv rfl rfl rfl  ?_
            refine hwp_o rfl ?_
            refine hwq_yes rfl rfl ?_
            refine g_laB (hl := rfl) (hb := fun w' ⟨O', hq⟩ => ((zh40.st hq (by decide)).1).cellsAt) rfl rfl  ?_
            refine hwp_o rfl ?_
            refine hwq_yes rfl rfl ?_
            refine g_fa rfl rfl  ?_
            refine hwp_o rfl ?_
            refine hwq_yes rfl rfl ?_
            refine g_ldC (hc := fun w' ⟨O', hq⟩ => Blk.cell (i := 0) ((zh116.st hq (by decide)).1) rfl) rfl rfl  ?_
            refine hwp_o rfl ?_
            refine hwq_yes rfl rfl ?_
            refine g_fa rfl rfl  ?_
            refine hwp_o rfl ?_
            refine hwq_yes rfl rfl ?_
            refine g_ldC (hc := fun w' ⟨O', hq⟩ => Blk.cell (i := 3) ((zh50.st hq (by decide)).1) rfl) rfl rfl  ?_
            refine hwp_o rfl ?_
            refine hwq_yes rfl rfl ?_
            refine g_mv rfl rfl  ?_
            refine hwp_o rfl ?_
            refine hwq_yes rfl rfl ?_
            obtain ⟨a172, e173, hy137⟩ := bs hy137
            obtain ⟨b174, o175, ce176, hA177, hF180, hl178, hd179, v181, rfl, h182, r185, r186⟩ := zh31.elem e173
            obtain ⟨A183, c184, rfl⟩ := h182.form
            have zh182 := h182
            refine g_iaE (hA := hA177) (hj := rfl) (hlt := hl178) rfl rfl rfl  ?_
            refine hwp_o rfl ?_
            refine hwq_yes rfl rfl ?_
            refine g_fa rfl rfl  ?_
            refine hwp_o rfl ?_
            refine hwq_yes rfl rfl ?_
            refine g_ldC (hc := fun w' ⟨O', hq⟩ => cat0 (cellsAt_agree (hq.agree (i := 0) (by decide)) hF180 hd179)) rfl rfl  ?_
            refine hwp_nilT ?_
            refine hws_one (i := 24) (by kernel_rfl) rfl ?_
            refine owp_yes rfl rfl ?_
            obtain ⟨q187, e188, hy137⟩ := bs hy137
            refine l_call (O := O131) (R := fun w' F v => Vb w' F v q187) (c_ref51_Facts Fr.lt (Vb.ofAgg (cs := [(.slice A6 x0.vars.length c7), (.slice A9 x0.vals.length c10), (.slice A12 x0.ops.length c13)]) (x := x0) rfl ⟨_, _, _, rfl, h5, h8, h11⟩) h107 e188) rfl rfl fun v193 w189 O190 S191 h192 => ?_
            obtain ⟨A194, c195, rfl⟩ := h192.form
            replace hZ := hZ.comp S191 (fun _ h => h.elim)
            replace hB := hB.st S191 (fun h => h) (fun h => h)
            replace h40 := h40.st S191 (fun h => h)
            replace h5 := h5.st S191 (fun h => h)
            replace h8 := h8.st S191 (fun h => h)
            replace h11 := h11.st S191 (fun h => h)
            replace h50 := h50.st S191 (fun h => h)
            replace h28 := h28.st S191 (fun h => h)
            replace h31 := h31.st S191 (fun h => h)
            replace h20 := h20.st S191 (fun h => h)
            replace h182 := h182.st S191 (fun h => h)
            refine owp_loudS ⟨_, hZ⟩ ?_
            refine hws_one (i := 31) (by kernel_rfl) rfl ?_
            refine owp_yes rfl rfl ?_
            obtain ⟨q196, e197, hy137⟩ := bs hy137
            refine l_callA (O := O190) (A := All w189) (R := fun w' F v => Vb w' F v q196) (c_base_Facts (fun _ h => h) (Vb.mono (F := Fr 0 w189 O190) h192 Fr.lt) (Vb.mono (F := Fr 0 w189 O190) h182 Fr.lt) e197) rfl rfl fun v202 w198 O199 S200 h201 => ?_
            obtain rfl := h201.bool
            replace hZ := hZ.comp S200 (fun _ h => h.elim)
            replace hB := hB.st S200 (fun h => h) (fun h => h)
            replace h40 := h40.st S200 (fun h => h)
            replace h5 := h5.st S200 (fun h => h)
            replace h8 := h8.st S200 (fun h => h)
            replace h11 := h11.st S200 (fun h => h)
            replace h50 := h50.st S200 (fun h => h)
            replace h28 := h28.st S200 (fun h => h)
            replace h31 := h31.st S200 (fun h => h)
            replace h20 := h20.st S200 (fun h => h)
            cases q196
            case false =>
              replace hy137 := iF hy137
              refine owp_loudS ⟨_, hZ⟩ ?_
              refine hws_pre (fuel := 0) [(32, true), (33, true)] (by kernel_rfl) (by kernel_rfl) (by kernel_rfl) ⟨_, hZ⟩ ?_
              refine hwp_o rfl ?_
              refine hwq_yes rfl rfl ?_
              refine g_nf rfl rfl  ?_
              refine h_pf rfl rfl rfl rfl  ?_
              refine hwp_nilT ?_
              refine hws_nil (by kernel_rfl) ?_
              obtain rfl := sm hy137
              exact ⟨(), _, ⟨rfl, rfl, rfl, rfl, rfl, rfl, trivial⟩, hB, h40, h5, h8, h11, h50, h28, h31, h20⟩
            replace hy137 := iT hy137
            refine owp_loudS ⟨_, hZ⟩ ?_
            refine hws_pre (fuel := 0) [(32, true), (33, true)] (by kernel_rfl) (by kernel_rfl) (by kernel_rfl) ⟨_, hZ⟩ ?_
            refine hwp_o rfl ?_
            refine hwq_yes rfl rfl ?_
            refine g_nt rfl rfl  ?_
            refine h_pf rfl rfl rfl rfl  ?_
            refine hwp_nilT ?_
            refine hws_nil (by kernel_rfl) ?_
            obtain rfl := sm hy137
            exact ⟨(), _, ⟨rfl, rfl, rfl, rfl, rfl, rfl, trivial⟩, hB, h40, h5, h8, h11, h50, h28, h31, h20⟩
      rintro l203 w204 ⟨x139, O205, hs206, hB, h40, h5, h8, h11, h50, h28, h31, h20⟩
      refine ewp_sub _ hs206 ?_
      refine ewp_cond rfl (fun c207 => ?_) (fun c207 => ?_)
      · replace hf94 := ip hf94 c207
        refine ewp_seq ?_
        refine ewp_region ?_
        refine o_as rfl rfl  ?_
        (first | refine owp_nilT ?_ | refine owp_nilB ?_ | refine owp_nilBB ?_ | refine owp_nil ?_)
        refine ewp_ret ?_
        obtain rfl := sm hf94
        obtain rfl := hret95 _ rfl
        obtain rfl := sm (fin_ret hm)
        exact ret1v rfl (res_tmp rfl) ⟨hB.ext, vBool⟩
      · replace hf94 := im' hf94 c207
        refine ewp_skip ?_
        obtain rfl := sm hf94
        refine (?_ : Exists _)
        exact ⟨_, (), rfl, ⟨rfl, rfl, rfl, rfl, rfl, trivial⟩, _, hB, h40, h5, h8, h11, h50, h28, h31, h20⟩
    rintro l208 w209 ⟨s212, x213, rfl, hs211, O210, hB⟩
    replace hm := fin_done hm
    refine ewp_sub _ hs211 ?_
    refine ewp_seq ?_
    refine ewp_region ?_
    refine o_as rfl rfl  ?_
    (first | refine owp_nilT ?_ | refine owp_nilB ?_ | refine owp_nilBB ?_ | refine owp_nil ?_)
    refine ewp_ret ?_
    obtain rfl := sm hm
    exact ret1v rfl (res_tmp rfl) ⟨hB.ext, vBool⟩
noncomputable def m_ref51_Check (x0 : Tsk) (x1 : Swp) : Option Bool :=
  bnd (bnd (m_base_Good x0) fun q45 => if q45 = true then bnd (m_ref51_shape x0 x1) fun q52 => if q52 = true then bnd (m_ref51_Facts x1 x0.goal) fun q59 => bnd (m_base_Facts q59 x0.goal) fun q68 => if q68 = true then some false else some true else some true else some true : Option Bool) fun y41 => if y41 = true then (some false) else (bnd (rng (ρ := Bool) (fun (k86 : Nat) (a87 : Opr) (s84 : Unit) => bnd (x1.ops[k86]?) fun a114 => bnd (atI x0.ops a114) fun a124 => bnd (m_ref51_fits x1 a87 a124) fun q145 => if q145 = true then some (.next ()) else some (.ret false)) x0.ops 0 ()) fun res82 => fin res82 fun (s156 : Unit) => some true)
theorem c_ref51_Check {w : World} {A : Nat → Prop} (hA : ∀ k, A k → k < w.heap.size) {vx0 : Value} {x0 : Tsk} (hx0 : Vb w A vx0 x0) {vx1 : Value} {x1 : Swp} (hx1 : Vb w A vx1 x1) {r : Bool} (hm : m_ref51_Check x0 x1 = some r) :
    Fn Try.prog 12 [vx0, vx1] w fun v w' => Ext w w' ∧ Vb w' (upA A w w') v r := by
  obtain ⟨O, hB, hA0⟩ := enter hA
  replace hx0 := hx0.mono hA0
  obtain ⟨cs1, rfl, v2, v3, v4, v5, rfl, h6, h9, h12, h15⟩ := hx0
  obtain ⟨A7, c8, rfl⟩ := h6.form
  obtain ⟨A10, c11, rfl⟩ := h9.form
  obtain ⟨A13, c14, rfl⟩ := h12.form
  obtain ⟨A16, c17, rfl⟩ := h15.form
  replace hx1 := hx1.mono hA0
  obtain ⟨cs18, rfl, v19, v20, v21, rfl, h22, h25, h28⟩ := hx1
  obtain ⟨A23, c24, rfl⟩ := h22.form
  obtain ⟨A26, c27, rfl⟩ := h25.form
  obtain ⟨A29, c30, rfl⟩ := h28.form
  refine fn_enter Try.func12 rfl Try.ntmps12 rfl ?_
  unfold m_ref51_Check at hm
  refine ewp_seq ?_
  refine ewp_region ?_
  refine l_box 2 O rfl rfl fun g31 w32 O33 S34 h35 => ?_
  replace h35 : Lc 2 w32 O33 g31 26 [(.slice A7 x0.vars.length c8), (.slice A10 x0.init.length c11), (.slice A13 x0.goal.length c14), (.slice A16 x0.ops.length c17)] := h35
  replace hB := hB.st S34 (fun h => h) (fun h => h)
  replace h22 := h22.st S34 (fun h => h)
  replace h25 := h25.st S34 (fun h => h)
  replace h28 := h28.st S34 (fun h => h)
  replace h6 := h6.st S34 (fun h => h)
  replace h9 := h9.st S34 (fun h => h)
  replace h12 := h12.st S34 (fun h => h)
  replace h15 := h15.st S34 (fun h => h)
  refine l_box 3 O33 rfl rfl fun g36 w37 O38 S39 h40 => ?_
  replace h40 : Lc 3 w37 O38 g36 29 [(.slice A23 x1.vars.length c24), (.slice A26 x1.vals.length c27), (.slice A29 x1.ops.length c30)] := h40
  replace hB := hB.st S39 (fun h => h) (fun h => h)
  replace h35 := h35.st S39 (fun h => h)
  replace h6 := h6.st S39 (fun h => h)
  replace h9 := h9.st S39 (fun h => h)
  replace h12 := h12.st S39 (fun h => h)
  replace h15 := h15.st S39 (fun h => h)
  replace h22 := h22.st S39 (fun h => h)
  replace h25 := h25.st S39 (fun h => h)
  replace h28 := h28.st S39 (fun h => h)
  refine o_as rfl rfl  ?_
  (first | refine owp_nilT ?_ | refine owp_nilB ?_ | refine owp_nilBB ?_ | refine owp_nil ?_)
  refine ewp_seq ?_
  refine ewp_seq ?_
  obtain ⟨y41, hy42, hm⟩ := bs hm
  refine ewp_join (fun l' w' => ∃ (x44 : Unit) (O' : Lab), subs l' [(2, (.pointer (some ⟨g31, 0, none⟩))), (3, (.pointer (some ⟨g36, 0, none⟩))), (24, (.bool y41))] ∧ Bs w A w' O' ∧ Lc 2 w' O' g31 26 [(.slice A7 x0.vars.length c8), (.slice A10 x0.init.length c11), (.slice A13 x0.goal.length c14), (.slice A16 x0.ops.length c17)] ∧ Vb w' (Fr 0 w' O') (.slice A7 x0.vars.length c8) x0.vars ∧ Vb w' (Fr 0 w' O') (.slice A10 x0.init.length c11) x0.init ∧ Vb w' (Fr 0 w' O') (.slice A13 x0.goal.length c14) x0.goal ∧ Vb w' (Fr 0 w' O') (.slice A16 x0.ops.length c17) x0.ops ∧ Lc 3 w' O' g36 29 [(.slice A23 x1.vars.length c24), (.slice A26 x1.vals.length c27), (.slice A29 x1.ops.length c30)] ∧ Vb w' (Fr 0 w' O') (.slice A23 x1.vars.length c24) x1.vars ∧ Vb w' (Fr 0 w' O') (.slice A26 x1.vals.length c27) x1.vals ∧ Vb w' (Fr 0 w' O') (.slice A29 x1.ops.length c30) x1.ops) ?_ ?_
  · skip
    have hZ := St.refl (nT) w37 O38
    have zh35 := h35
    have zh6 := h6
    have zh9 := h9
    have zh12 := h12
    have zh15 := h15
    have zh40 := h40
    have zh22 := h22
    have zh25 := h25
    have zh28 := h28
    refine ewp_drawS (fun w' => ∃ O', St (nT) w37 O38 w' O') ?_
    refine hws_pre (fuel := 18) [(0, true)] (by kernel_rfl) (by kernel_rfl) (by kernel_rfl) ⟨_, hZ⟩ ?_
    refine h_laB (hl := rfl) (hb := fun w' ⟨O', hq⟩ => ((zh35.st hq (by decide)).1).cellsAt) rfl rfl rfl  ?_
    refine hwp_nilT ?_
    refine hws_one (i := 1) (by kernel_rfl) rfl ?_
    obtain ⟨q45, e46, hy42⟩ := bs hy42
    refine l_callA (O := O38) (A := All w37) (R := fun w' F v => Vb w' F v q45) (c_base_Good (fun _ h => h) (Vb.mono (F := Fr 0 w37 O38) (Vb.ofAgg (cs := [(.slice A7 x0.vars.length c8), (.slice A10 x0.init.length c11), (.slice A13 x0.goal.length c14), (.slice A16 x0.ops.length c17)]) (x := x0) rfl ⟨_, _, _, _, rfl, h6, h9, h12, h15⟩) Fr.lt) e46) rfl rfl fun v51 w47 O48 S49 h50 => ?_
    obtain rfl := h50.bool
    replace hZ := hZ.comp S49 (fun _ h => h.elim)
    replace hB := hB.st S49 (fun h => h) (fun h => h)
    replace h35 := h35.st S49 (fun h => h)
    replace h6 := h6.st S49 (fun h => h)
    replace h9 := h9.st S49 (fun h => h)
    replace h12 := h12.st S49 (fun h => h)
    replace h15 := h15.st S49 (fun h => h)
    replace h40 := h40.st S49 (fun h => h)
    replace h22 := h22.st S49 (fun h => h)
    replace h25 := h25.st S49 (fun h => h)
    replace h28 := h28.st S49 (fun h => h)
    cases q45
    case false =>
      replace hy42 := iF hy42
      refine owp_loudS ⟨_, hZ⟩ ?_
      refine hws_pre (fuel := 13) [(2, true), (3, true), (4, true), (5, true)] (by kernel_rfl) (by kernel_rfl) (by kernel_rfl) ⟨_, hZ⟩ ?_
      refine h_nf rfl rfl rfl  ?_
      refine h_mv rfl rfl rfl  ?_
      refine h_no rfl rfl rfl rfl rfl ?_
      refine h_no rfl rfl rfl rfl rfl ?_
      refine hwp_nilT ?_
      refine hws_one (i := 6) (by kernel_rfl) rfl ?_
      refine owp_no rfl rfl rfl rfl ?_
      refine owp_loudS ⟨_, hZ⟩ ?_
      refine hws_pre (fuel := 4) [(7, true), (8, true), (9, true), (10, true), (11, true), (12, true), (14, true), (15, true)] (by kernel_rfl) (by kernel_rfl) (by kernel_rfl) ⟨_, hZ⟩ ?_
      refine h_no rfl rfl rfl rfl rfl ?_
      refine h_pt rfl rfl rfl rfl  ?_
      refine h_mv rfl rfl rfl  ?_
      refine h_no rfl rfl rfl rfl rfl ?_
      refine h_no rfl rfl rfl rfl rfl ?_
      refine h_no rfl rfl rfl rfl rfl ?_
      refine h_no rfl rfl rfl rfl rfl ?_
      refine h_no rfl rfl rfl rfl rfl ?_
      refine hwp_nilT ?_
      refine hws_one (i := 13) (by kernel_rfl) rfl ?_
      refine owp_no rfl rfl rfl rfl ?_
      refine owp_loudS ⟨_, hZ⟩ ?_
      refine hws_one (i := 16) (by kernel_rfl) rfl ?_
      refine owp_no rfl rfl rfl rfl ?_
      refine owp_loudS ⟨_, hZ⟩ ?_
      refine hws_pre (fuel := 0) [(17, true), (18, true)] (by kernel_rfl) (by kernel_rfl) (by kernel_rfl) ⟨_, hZ⟩ ?_
      refine h_no rfl rfl rfl rfl rfl ?_
      refine h_pt rfl rfl rfl rfl  ?_
      refine hwp_nilT ?_
      refine hws_nil (by kernel_rfl) ?_
      obtain rfl := sm hy42
      exact ⟨(), _, ⟨rfl, rfl, rfl, trivial⟩, hB, h35, h6, h9, h12, h15, h40, h22, h25, h28⟩
    replace hy42 := iT hy42
    refine owp_loudS ⟨_, hZ⟩ ?_
    refine hws_pre (fuel := 13) [(2, true), (3, true), (4, true), (5, true)] (by kernel_rfl) (by kernel_rfl) (by kernel_rfl) ⟨_, hZ⟩ ?_
    refine h_nt rfl rfl rfl  ?_
    refine h_mv rfl rfl rfl  ?_
    refine hwp_o rfl ?_
    refine hwq_yes rfl rfl ?_
    refine g_laB (hl := rfl) (hb := fun w' ⟨O', hq⟩ => ((zh35.st hq (by decide)).1).cellsAt) rfl rfl  ?_
    refine hwp_o rfl ?_
    refine hwq_yes rfl rfl ?_
    refine g_laB (hl := rfl) (hb := fun w' ⟨O', hq⟩ => ((zh40.st hq (by decide)).1).cellsAt) rfl rfl  ?_
    refine hwp_nilT ?_
    refine hws_one (i := 6) (by kernel_rfl) rfl ?_
    refine owp_yes rfl rfl ?_
    obtain ⟨q52, e53, hy42⟩ := bs hy42
    refine l_callA (O := O48) (A := All w47) (R := fun w' F v => Vb w' F v q52) (c_ref51_shape (fun _ h => h) (Vb.mono (F := Fr 0 w47 O48) (Vb.ofAgg (cs := [(.slice A7 x0.vars.length c8), (.slice A10 x0.init.length c11), (.slice A13 x0.goal.length c14), (.slice A16 x0.ops.length c17)]) (x := x0) rfl ⟨_, _, _, _, rfl, h6, h9, h12, h15⟩) Fr.lt) (Vb.mono (F := Fr 0 w47 O48) (Vb.ofAgg (cs := [(.slice A23 x1.vars.length c24), (.slice A26 x1.vals.length c27), (.slice A29 x1.ops.length c30)]) (x := x1) rfl ⟨_, _, _, rfl, h22, h25, h28⟩) Fr.lt) e53) rfl rfl fun v58 w54 O55 S56 h57 => ?_
    obtain rfl := h57.bool
    replace hZ := hZ.comp S56 (fun _ h => h.elim)
    replace hB := hB.st S56 (fun h => h) (fun h => h)
    replace h35 := h35.st S56 (fun h => h)
    replace h6 := h6.st S56 (fun h => h)
    replace h9 := h9.st S56 (fun h => h)
    replace h12 := h12.st S56 (fun h => h)
    replace h15 := h15.st S56 (fun h => h)
    replace h40 := h40.st S56 (fun h => h)
    replace h22 := h22.st S56 (fun h => h)
    replace h25 := h25.st S56 (fun h => h)
    replace h28 := h28.st S56 (fun h => h)
    cases q52
    case false =>
      replace hy42 := iF hy42
      refine owp_loudS ⟨_, hZ⟩ ?_
      refine hws_pre (fuel := 4) [(7, true), (8, true), (9, true), (10, true), (11, true), (12, true), (14, true), (15, true)] (by kernel_rfl) (by kernel_rfl) (by kernel_rfl) ⟨_, hZ⟩ ?_
      refine hwp_o rfl ?_
      refine hwq_yes rfl rfl ?_
      refine g_nf rfl rfl  ?_
      refine h_pf rfl rfl rfl rfl  ?_
      refine h_mv rfl rfl rfl  ?_
      refine h_no rfl rfl rfl rfl rfl ?_
      refine h_no rfl rfl rfl rfl rfl ?_
      refine h_no rfl rfl rfl rfl rfl ?_
      refine h_no rfl rfl rfl rfl rfl ?_
      refine h_no rfl rfl rfl rfl rfl ?_
      refine hwp_nilT ?_
      refine hws_one (i := 13) (by kernel_rfl) rfl ?_
      refine owp_no rfl rfl rfl rfl ?_
      refine owp_loudS ⟨_, hZ⟩ ?_
      refine hws_one (i := 16) (by kernel_rfl) rfl ?_
      refine owp_no rfl rfl rfl rfl ?_
      refine owp_loudS ⟨_, hZ⟩ ?_
      refine hws_pre (fuel := 0) [(17, true), (18, true)] (by kernel_rfl) (by kernel_rfl) (by kernel_rfl) ⟨_, hZ⟩ ?_
      refine h_no rfl rfl rfl rfl rfl ?_
      refine h_pt rfl rfl rfl rfl  ?_
      refine hwp_nilT ?_
      refine hws_nil (by kernel_rfl) ?_
      obtain rfl := sm hy42
      exact ⟨(), _, ⟨rfl, rfl, rfl, trivial⟩, hB, h35, h6, h9, h12, h15, h40, h22, h25, h28⟩
    replace hy42 := iT hy42
    refine owp_loudS ⟨_, hZ⟩ ?_
    refine hws_pre (fuel := 4) [(7, true), (8, true), (9, true), (10, true), (11, true), (12, true), (14, true), (15, true)] (by kernel_rfl) (by kernel_rfl) (by kernel_rfl) ⟨_, hZ⟩ ?_
    refine hwp_o rfl ?_
    refine hwq_yes rfl rfl ?_
    refine g_nt rfl rfl  ?_
    refine h_pf rfl rfl rfl rfl  ?_
    refine h_mv rfl rfl rfl  ?_
    refine hwp_o rfl ?_
    refine hwq_yes rfl rfl ?_
    refine g_laB (hl := rfl) (hb := fun w' ⟨O', hq⟩ => ((zh40.st hq (by decide)).1).cellsAt) rfl rfl  ?_
    refine hwp_o rfl ?_
    refine hwq_yes rfl rfl ?_
    refine g_fa rfl rfl  ?_
    refine hwp_o rfl ?_
    refine hwq_yes rfl rfl ?_
    refine g_ldC (hc := fun w' ⟨O', hq⟩ => Blk.cell (i := 2) ((zh35.st hq (by decide)).1) rfl) rfl rfl  ?_
    refine hwp_o rfl ?_
    refine hwq_yes rfl rfl ?_
    refine g_fa rfl rfl  ?_
    refine hwp_o rfl ?_
    refine hwq_yes rfl rfl ?_
    refine g_ldC (hc := fun w' ⟨O', hq⟩ => Blk.cell (i := 2) ((zh35.st hq (by decide)).1) rfl) rfl rfl  ?_
    refine hwp_nilT ?_
    refine hws_one (i := 13) (by kernel_rfl) rfl ?_
    refine owp_yes rfl rfl ?_
    obtain ⟨q59, e60, hy42⟩ := bs hy42
    refine l_call (O := O55) (R := fun w' F v => Vb w' F v q59) (c_ref51_Facts Fr.lt (Vb.ofAgg (cs := [(.slice A23 x1.vars.length c24), (.slice A26 x1.vals.length c27), (.slice A29 x1.ops.length c30)]) (x := x1) rfl ⟨_, _, _, rfl, h22, h25, h28⟩) h12 e60) rfl rfl fun v65 w61 O62 S63 h64 => ?_
    obtain ⟨A66, c67, rfl⟩ := h64.form
    replace hZ := hZ.comp S63 (fun _ h => h.elim)
    replace hB := hB.st S63 (fun h => h) (fun h => h)
    replace h35 := h35.st S63 (fun h => h)
    replace h6 := h6.st S63 (fun h => h)
    replace h9 := h9.st S63 (fun h => h)
    replace h12 := h12.st S63 (fun h => h)
    replace h15 := h15.st S63 (fun h => h)
    replace h40 := h40.st S63 (fun h => h)
    replace h22 := h22.st S63 (fun h => h)
    replace h25 := h25.st S63 (fun h => h)
    replace h28 := h28.st S63 (fun h => h)
    refine owp_loudS ⟨_, hZ⟩ ?_
    refine hws_one (i := 16) (by kernel_rfl) rfl ?_
    refine owp_yes rfl rfl ?_
    obtain ⟨q68, e69, hy42⟩ := bs hy42
    refine l_callA (O := O62) (A := All w61) (R := fun w' F v => Vb w' F v q68) (c_base_Facts (fun _ h => h) (Vb.mono (F := Fr 0 w61 O62) h64 Fr.lt) (Vb.mono (F := Fr 0 w61 O62) h12 Fr.lt) e69) rfl rfl fun v74 w70 O71 S72 h73 => ?_
    obtain rfl := h73.bool
    replace hZ := hZ.comp S72 (fun _ h => h.elim)
    replace hB := hB.st S72 (fun h => h) (fun h => h)
    replace h35 := h35.st S72 (fun h => h)
    replace h6 := h6.st S72 (fun h => h)
    replace h9 := h9.st S72 (fun h => h)
    replace h12 := h12.st S72 (fun h => h)
    replace h15 := h15.st S72 (fun h => h)
    replace h40 := h40.st S72 (fun h => h)
    replace h22 := h22.st S72 (fun h => h)
    replace h25 := h25.st S72 (fun h => h)
    replace h28 := h28.st S72 (fun h => h)
    cases q68
    case false =>
      replace hy42 := iF hy42
      refine owp_loudS ⟨_, hZ⟩ ?_
      refine hws_pre (fuel := 0) [(17, true), (18, true)] (by kernel_rfl) (by kernel_rfl) (by kernel_rfl) ⟨_, hZ⟩ ?_
      refine hwp_o rfl ?_
      refine hwq_yes rfl rfl ?_
      refine g_nf rfl rfl  ?_
      refine h_pf rfl rfl rfl rfl  ?_
      refine hwp_nilT ?_
      refine hws_nil (by kernel_rfl) ?_
      obtain rfl := sm hy42
      exact ⟨(), _, ⟨rfl, rfl, rfl, trivial⟩, hB, h35, h6, h9, h12, h15, h40, h22, h25, h28⟩
    replace hy42 := iT hy42
    refine owp_loudS ⟨_, hZ⟩ ?_
    refine hws_pre (fuel := 0) [(17, true), (18, true)] (by kernel_rfl) (by kernel_rfl) (by kernel_rfl) ⟨_, hZ⟩ ?_
    refine hwp_o rfl ?_
    refine hwq_yes rfl rfl ?_
    refine g_nt rfl rfl  ?_
    refine h_pf rfl rfl rfl rfl  ?_
    refine hwp_nilT ?_
    refine hws_nil (by kernel_rfl) ?_
    obtain rfl := sm hy42
    exact ⟨(), _, ⟨rfl, rfl, rfl, trivial⟩, hB, h35, h6, h9, h12, h15, h40, h22, h25, h28⟩
  rintro l75 w76 ⟨x44, O77, hs78, hB, h35, h6, h9, h12, h15, h40, h22, h25, h28⟩
  refine ewp_sub _ hs78 ?_
  refine ewp_cond rfl (fun c79 => ?_) (fun c79 => ?_)
  · replace hm := ip hm c79
    refine ewp_seq ?_
    refine ewp_region ?_
    refine o_as rfl rfl  ?_
    (first | refine owp_nilT ?_ | refine owp_nilB ?_ | refine owp_nilBB ?_ | refine owp_nil ?_)
    refine ewp_ret ?_
    obtain rfl := sm hm
    exact ret1v rfl (res_tmp rfl) ⟨hB.ext, vBool⟩
  · replace hm := im' hm c79
    refine ewp_skip ?_
    refine ewp_seq ?_
    refine ewp_seq ?_
    refine ewp_region ?_
    refine o_fa rfl rfl  ?_
    refine o_ld (hc := Blk.cell (i := 3) (h35.1) rfl) rfl rfl  ?_
    refine o_ln rfl rfl  ?_
    have l81 : x0.ops.length ≤ 9223372036854775807 := Nat.le_trans h15.len.2.1 h15.len.2.2
    have r80 : inI64 (x0.ops.length : Int) := rngNat l81
    refine o_mv rfl rfl  ?_
    (first | refine owp_nilT ?_ | refine owp_nilB ?_ | refine owp_nilBB ?_ | refine owp_nil ?_)
    obtain ⟨res82, hL83, hm⟩ := bs hm
    refine ewp_join (aft res82 (fun (s84 : Unit) (x85 : Unit) => []) (fun s84 x85 w' => ∃ O' : Lab, Bs w A w' O')) ?_ ?_
    · refine ewp_block ?_
      refine ewp_rng (σ := Unit) (X := Unit) (x0.ops.length) hL83 rfl l81 (fun (s84 : Unit) (x85 : Unit) => [(2, (.pointer (some ⟨g31, 0, none⟩))), (3, (.pointer (some ⟨g36, 0, none⟩)))]) _ (fun s84 x85 w' => ∃ O' : Lab, Bs w A w' O' ∧ Lc 2 w' O' g31 26 [(.slice A7 x0.vars.length c8), (.slice A10 x0.init.length c11), (.slice A13 x0.goal.length c14), (.slice A16 x0.ops.length c17)] ∧ Vb w' (Fr 0 w' O') (.slice A7 x0.vars.length c8) x0.vars ∧ Vb w' (Fr 0 w' O') (.slice A10 x0.init.length c11) x0.init ∧ Vb w' (Fr 0 w' O') (.slice A13 x0.goal.length c14) x0.goal ∧ Vb w' (Fr 0 w' O') (.slice A16 x0.ops.length c17) x0.ops ∧ Lc 3 w' O' g36 29 [(.slice A23 x1.vars.length c24), (.slice A26 x1.vals.length c27), (.slice A29 x1.ops.length c30)] ∧ Vb w' (Fr 0 w' O') (.slice A23 x1.vars.length c24) x1.vars ∧ Vb w' (Fr 0 w' O') (.slice A26 x1.vals.length c27) x1.vals ∧ Vb w' (Fr 0 w' O') (.slice A29 x1.ops.length c30) x1.ops) _ () ⟨O77, hB, h35, h6, h9, h12, h15, h40, h22, h25, h28⟩ ⟨rfl, rfl, rfl, rfl, trivial⟩ (fun _ _ => ⟨rfl, rfl⟩) (fun _ _ => trivial) (fun _ _ _ ⟨O', hB, h35, h6, h9, h12, h15, h40, h22, h25, h28⟩ => ⟨O', hB⟩) ⟨rfl, rfl, rfl⟩ ⟨rfl, rfl⟩ ?_
      rintro k86 a87 s84 x85 w88 cc90 hx91 ⟨O89, hB, h35, h6, h9, h12, h15, h40, h22, h25, h28⟩ hf92 hret93 hbrk94
      have rk86 : inI64 (k86 : Int) := rngK hx91 l81
      refine ewp_seq ?_
      refine ewp_region ?_
      refine o_mv rfl rfl  ?_
      refine o_as rfl rfl  ?_
      (first | refine owp_nilT ?_ | refine owp_nilB ?_ | refine owp_nilBB ?_ | refine owp_nil ?_)
      refine ewp_seq ?_
      have hZ := St.refl (nT) w88 O89
      have zh35 := h35
      have zh6 := h6
      have zh9 := h9
      have zh12 := h12
      have zh15 := h15
      have zh40 := h40
      have zh22 := h22
      have zh25 := h25
      have zh28 := h28
      refine ewp_drawS (fun w' => ∃ O', St (nT) w88 O89 w' O') ?_
      refine hws_pre (fuel := 2) [(0, true), (1, true), (2, true), (3, true), (4, true), (5, true), (6, true), (7, true), (8, true), (9, true), (10, true), (11, true), (12, true), (13, true), (14, true)] (by kernel_rfl) (by kernel_rfl) (by kernel_rfl) ⟨_, hZ⟩ ?_
      refine h_laB (hl := rfl) (hb := fun w' ⟨O', hq⟩ => ((zh40.st hq (by decide)).1).cellsAt) rfl rfl rfl  ?_
      refine h_fa rfl rfl rfl  ?_
      refine h_ldC (hc := fun w' ⟨O', hq⟩ => Blk.cell (i := 3) ((zh35.st hq (by decide)).1) rfl) rfl rfl rfl  ?_
      refine h_mv rfl rfl rfl  ?_
      obtain ⟨b97, o98, ce99, hA100, hF103, hl101, hd102, v104, v105, rfl, h106, h109, r112, z113⟩ := zh15.elem hx91
      obtain ⟨A107, c108, rfl⟩ := h106.form
      obtain ⟨A110, c111, rfl⟩ := h109.form
      have zh106 := h106
      have zh109 := h109
      refine h_iaE (hA := hA100) (hj := rfl) (hlt := hl101) rfl rfl rfl rfl  ?_
      refine h_laB (hl := rfl) (hb := fun w' ⟨O', hq⟩ => (cellsAt_agree (hq.agree (i := 0) (by decide)) hF103 hd102)) rfl rfl rfl  ?_
      refine h_fa rfl rfl rfl  ?_
      refine h_ldC (hc := fun w' ⟨O', hq⟩ => Blk.cell (i := 3) ((zh35.st hq (by decide)).1) rfl) rfl rfl rfl  ?_
      refine h_fa rfl rfl rfl  ?_
      refine h_ldC (hc := fun w' ⟨O', hq⟩ => Blk.cell (i := 2) ((zh40.st hq (by decide)).1) rfl) rfl rfl rfl  ?_
      refine h_mv rfl rfl rfl  ?_
      obtain ⟨a114, e115, hf92⟩ := bs hf92
      obtain ⟨b116, o117, ce118, hA119, hF122, hl120, hd121, rfl, r123⟩ := zh28.elem e115
      refine h_iaE (hA := hA119) (hj := rfl) (hlt := hl120) rfl rfl rfl rfl  ?_
      refine h_ldC (hc := fun w' ⟨O', hq⟩ => cat0 (cellsAt_agree (hq.agree (i := 0) (by decide)) hF122 hd121)) rfl rfl rfl  ?_
      obtain ⟨a124, e125, hf92⟩ := bs hf92
      obtain ⟨p127, x126⟩ := atI_some' e125
      obtain ⟨b128, o129, ce130, hA131, hF134, hl132, hd133, v135, v136, rfl, h137, h140, r143, z144⟩ := zh15.elem x126
      obtain ⟨A138, c139, rfl⟩ := h137.form
      obtain ⟨A141, c142, rfl⟩ := h140.form
      have zh137 := h137
      have zh140 := h140
      refine h_iaE (hA := hA131) (hj := (Int.toNat_of_nonneg p127).symm) (hlt := hl132) rfl rfl rfl rfl  ?_
      refine h_laB (hl := rfl) (hb := fun w' ⟨O', hq⟩ => (cellsAt_agree (hq.agree (i := 0) (by decide)) hF134 hd133)) rfl rfl rfl  ?_
      refine hwp_nilT ?_
      refine hws_one (i := 15) (by kernel_rfl) rfl ?_
      obtain ⟨q145, e146, hf92⟩ := bs hf92
      refine l_callA (O := O89) (A := All w88) (R := fun w' F v => Vb w' F v q145) (c_ref51_fits (fun _ h => h) (Vb.mono (F := Fr 0 w88 O89) (Vb.ofAgg (cs := [(.slice A23 x1.vars.length c24), (.slice A26 x1.vals.length c27), (.slice A29 x1.ops.length c30)]) (x := x1) rfl ⟨_, _, _, rfl, h22, h25, h28⟩) Fr.lt) (Vb.mono (F := Fr 0 w88 O89) (Vb.ofAgg (cs := [(.string a87.name), (.int .i64 a87.cost), (.slice A107 a87.pre.length c108), (.slice A110 a87.effs.length c111)]) (x := a87) rfl ⟨_, _, rfl, h106, h109, r112, z113⟩) Fr.lt) (Vb.mono (F := Fr 0 w88 O89) (Vb.ofAgg (cs := [(.string a124.name), (.int .i64 a124.cost), (.slice A138 a124.pre.length c139), (.slice A141 a124.effs.length c142)]) (x := a124) rfl ⟨_, _, rfl, h137, h140, r143, z144⟩) Fr.lt) e146) rfl rfl fun v151 w147 O148 S149 h150 => ?_
      obtain rfl := h150.bool
      replace hZ := hZ.comp S149 (fun _ h => h.elim)
      replace hB := hB.st S149 (fun h => h) (fun h => h)
      replace h35 := h35.st S149 (fun h => h)
      replace h6 := h6.st S149 (fun h => h)
      replace h9 := h9.st S149 (fun h => h)
      replace h12 := h12.st S149 (fun h => h)
      replace h15 := h15.st S149 (fun h => h)
      replace h40 := h40.st S149 (fun h => h)
      replace h22 := h22.st S149 (fun h => h)
      replace h25 := h25.st S149 (fun h => h)
      replace h28 := h28.st S149 (fun h => h)
      cases q145
      case false =>
        replace hf92 := iF hf92
        refine owp_loudS ⟨_, hZ⟩ ?_
        refine hws_pre (fuel := 0) [(16, true)] (by kernel_rfl) (by kernel_rfl) (by kernel_rfl) ⟨_, hZ⟩ ?_
        refine h_nf rfl rfl rfl  ?_
        refine hwp_nilT ?_
        refine hws_nil (by kernel_rfl) ?_
        refine ewp_true rfl ?_
        refine ewp_seq ?_
        refine ewp_region ?_
        refine o_as rfl rfl  ?_
        (first | refine owp_nilT ?_ | refine owp_nilB ?_ | refine owp_nilBB ?_ | refine owp_nil ?_)
        refine ewp_ret ?_
        obtain rfl := sm hf92
        obtain rfl := hret93 _ rfl
        obtain rfl := sm (fin_ret hm)
        exact ret1v rfl (res_tmp rfl) ⟨hB.ext, vBool⟩
      replace hf92 := iT hf92
      refine owp_loudS ⟨_, hZ⟩ ?_
      refine hws_pre (fuel := 0) [(16, true)] (by kernel_rfl) (by kernel_rfl) (by kernel_rfl) ⟨_, hZ⟩ ?_
      refine h_nt rfl rfl rfl  ?_
      refine hwp_nilT ?_
      refine hws_nil (by kernel_rfl) ?_
      refine ewp_false rfl ?_
      refine ewp_skip ?_
      obtain rfl := sm hf92
      refine (?_ : Exists _)
      exact ⟨_, (), rfl, ⟨rfl, rfl, rfl, rfl, trivial⟩, _, hB, h35, h6, h9, h12, h15, h40, h22, h25, h28⟩
    rintro l152 w153 ⟨s156, x157, rfl, hs155, O154, hB⟩
    replace hm := fin_done hm
    refine ewp_sub _ hs155 ?_
    refine ewp_seq ?_
    refine ewp_region ?_
    refine o_as rfl rfl  ?_
    (first | refine owp_nilT ?_ | refine owp_nilB ?_ | refine owp_nilBB ?_ | refine owp_nil ?_)
    refine ewp_ret ?_
    obtain rfl := sm hm
    exact ret1v rfl (res_tmp rfl) ⟨hB.ext, vBool⟩
noncomputable def m_ref51_State (x0 : Swp) (x1 : List Int) : Option (List Int) :=
  bnd (mkI 8 (0 : Int) (x1.length : Int)) fun u23 => bnd (rng (ρ := (List Int)) (fun (k42 : Nat) (a43 : Int) (s40 : (List Int)) => bnd (x0.vars[k42]?) fun a57 => bnd (x0.vals[k42]?) fun a67 => bnd (atI a67 a43) fun a88 => bnd (atI s40 a57) fun a100 => some (.next (s40.set (a57).toNat a88))) x1 0 u23) fun res38 => fin res38 fun (s118 : (List Int)) => some s118
theorem c_ref51_State {w : World} {A : Nat → Prop} (hA : ∀ k, A k → k < w.heap.size) {vx0 : Value} {x0 : Swp} (hx0 : Vb w A vx0 x0) {vx1 : Value} {x1 : List Int} (hx1 : Vb w A vx1 x1) {r : (List Int)} (hm : m_ref51_State x0 x1 = some r) :
    Fn Try.prog 20 [vx0, vx1] w fun v w' => Ext w w' ∧ Vb w' (upA A w w') v r := by
  obtain ⟨O, hB, hA0⟩ := enter hA
  replace hx0 := hx0.mono hA0
  obtain ⟨cs1, rfl, v2, v3, v4, rfl, h5, h8, h11⟩ := hx0
  obtain ⟨A6, c7, rfl⟩ := h5.form
  obtain ⟨A9, c10, rfl⟩ := h8.form
  obtain ⟨A12, c13, rfl⟩ := h11.form
  replace hx1 := hx1.mono hA0
  obtain ⟨A14, c15, rfl⟩ := hx1.form
  refine fn_enter Try.func20 rfl Try.ntmps20 rfl ?_
  unfold m_ref51_State at hm
  refine ewp_seq ?_
  refine ewp_region ?_
  refine l_box 2 O rfl rfl fun g16 w17 O18 S19 h20 => ?_
  replace h20 : Lc 2 w17 O18 g16 29 [(.slice A6 x0.vars.length c7), (.slice A9 x0.vals.length c10), (.slice A12 x0.ops.length c13)] := h20
  replace hB := hB.st S19 (fun h => h) (fun h => h)
  replace hx1 := hx1.st S19 (fun h => h)
  replace h5 := h5.st S19 (fun h => h)
  replace h8 := h8.st S19 (fun h => h)
  replace h11 := h11.st S19 (fun h => h)
  refine o_as rfl rfl  ?_
  (first | refine owp_nilT ?_ | refine owp_nilB ?_ | refine owp_nilBB ?_ | refine owp_nil ?_)
  refine ewp_seq ?_
  refine ewp_region ?_
  refine o_mv rfl rfl  ?_
  refine o_ln rfl rfl  ?_
  have l22 : x1.length ≤ 9223372036854775807 := Nat.le_trans hx1.len.2.1 hx1.len.2.2
  have r21 : inI64 (x1.length : Int) := rngNat l22
  obtain ⟨u23, e24, hm⟩ := bs hm
  obtain ⟨m25, e26, e27, e28, e29⟩ := mkI_some e24
  refine l_make 3 (by decide) O18 (z0 := (0 : Int)) rfl rfl rfl rfl rfl e26 (vInt (show inI64 0 from by decide)) e27 e28 rfl fun g30 w31 O32 S33 h34 => ?_
  rw [← e29] at h34 ⊢
  replace hB := hB.st S33 (fun h => h) (fun h => h)
  replace hx1 := hx1.st S33 (fun h => h)
  replace h20 := h20.st S33 (fun h => h)
  replace h5 := h5.st S33 (fun h => h)
  replace h8 := h8.st S33 (fun h => h)
  replace h11 := h11.st S33 (fun h => h)
  refine o_as rfl rfl  ?_
  (first | refine owp_nilT ?_ | refine owp_nilB ?_ | refine owp_nilBB ?_ | refine owp_nil ?_)
  refine ewp_seq ?_
  refine ewp_seq ?_
  refine ewp_region ?_
  refine o_mv rfl rfl  ?_
  refine o_ln rfl rfl  ?_
  have l37 : x1.length ≤ 9223372036854775807 := Nat.le_trans hx1.len.2.1 hx1.len.2.2
  have r36 : inI64 (x1.length : Int) := rngNat l37
  refine o_mv rfl rfl  ?_
  (first | refine owp_nilT ?_ | refine owp_nilB ?_ | refine owp_nilBB ?_ | refine owp_nil ?_)
  obtain ⟨res38, hL39, hm⟩ := bs hm
  refine ewp_join (aft res38 (fun (s40 : (List Int)) (x41 : (Option Addr × Nat)) => [(5, (.slice x41.1 s40.length x41.2))]) (fun s40 x41 w' => ∃ O' : Lab, Bs w A w' O' ∧ Rw 3 w' O' 3 (.slice x41.1 s40.length x41.2) s40)) ?_ ?_
  · refine ewp_block ?_
    refine ewp_rng (σ := (List Int)) (X := (Option Addr × Nat)) (x1.length) hL39 rfl l37 (fun (s40 : (List Int)) (x41 : (Option Addr × Nat)) => [(1, (.slice A14 x1.length c15)), (2, (.pointer (some ⟨g16, 0, none⟩))), (5, (.slice x41.1 s40.length x41.2))]) _ (fun s40 x41 w' => ∃ O' : Lab, Bs w A w' O' ∧ Vb w' (Fr 0 w' O') (.slice A14 x1.length c15) x1 ∧ Lc 2 w' O' g16 29 [(.slice A6 x0.vars.length c7), (.slice A9 x0.vals.length c10), (.slice A12 x0.ops.length c13)] ∧ Vb w' (Fr 0 w' O') (.slice A6 x0.vars.length c7) x0.vars ∧ Vb w' (Fr 0 w' O') (.slice A9 x0.vals.length c10) x0.vals ∧ Vb w' (Fr 0 w' O') (.slice A12 x0.ops.length c13) x0.ops ∧ Rw 3 w' O' 3 (.slice x41.1 s40.length x41.2) s40) _ ((some ⟨g30, 0, none⟩), m25) ⟨O32, hB, hx1, h20, h5, h8, h11, h34⟩ ⟨rfl, rfl, rfl, rfl, rfl, trivial⟩ (fun _ _ => ⟨rfl, rfl⟩) (fun _ _ => ⟨rfl, trivial⟩) (fun _ _ _ ⟨O', hB, hx1, h20, h5, h8, h11, h55⟩ => ⟨O', hB, h55⟩) ⟨rfl, rfl, rfl⟩ ⟨rfl, rfl⟩ ?_
    rintro k42 a43 s40 x41 w44 cc46 hx47 ⟨O45, hB, hx1, h20, h5, h8, h11, h55⟩ hf48 hret49 hbrk50
    have rk42 : inI64 (k42 : Int) := rngK hx47 l37
    refine ewp_seq ?_
    refine ewp_region ?_
    refine o_mv rfl rfl  ?_
    refine o_as rfl rfl  ?_
    (first | refine owp_nilT ?_ | refine owp_nilB ?_ | refine owp_nilBB ?_ | refine owp_nil ?_)
    have hZ := St.refl (nT) w44 O45
    have zhx1 := hx1
    have zh20 := h20
    have zh5 := h5
    have zh8 := h8
    have zh11 := h11
    have zh55 := h55
    refine ewp_drawS (fun w' => ∃ O', St (nT) w44 O45 w' O') ?_
    refine hws_pre (fuel := 1) [(0, true), (1, true), (2, true), (3, true), (4, true), (5, true), (6, true), (7, true), (8, true), (9, true), (10, true), (11, true), (12, true), (13, true), (14, true), (15, true), (16, true), (17, true)] (by kernel_rfl) (by kernel_rfl) (by kernel_rfl) ⟨_, hZ⟩ ?_
    refine h_mv rfl rfl rfl  ?_
    refine h_fa rfl rfl rfl  ?_
    refine h_ldC (hc := fun w' ⟨O', hq⟩ => Blk.cell (i := 0) ((zh20.st hq (by decide)).1) rfl) rfl rfl rfl  ?_
    refine h_mv rfl rfl rfl  ?_
    obtain ⟨a57, e58, hf48⟩ := bs hf48
    obtain ⟨b59, o60, ce61, hA62, hF65, hl63, hd64, rfl, r66⟩ := zh5.elem e58
    refine h_iaE (hA := hA62) (hj := rfl) (hlt := hl63) rfl rfl rfl rfl  ?_
    refine h_ldC (hc := fun w' ⟨O', hq⟩ => cat0 (cellsAt_agree (hq.agree (i := 0) (by decide)) hF65 hd64)) rfl rfl rfl  ?_
    refine h_fa rfl rfl rfl  ?_
    refine h_ldC (hc := fun w' ⟨O', hq⟩ => Blk.cell (i := 1) ((zh20.st hq (by decide)).1) rfl) rfl rfl rfl  ?_
    refine h_mv rfl rfl rfl  ?_
    obtain ⟨a67, e68, hf48⟩ := bs hf48
    obtain ⟨b69, o70, ce71, hA72, hF75, hl73, hd74, v76, rfl, h77⟩ := zh8.elem e68
    replace h77 := Vb.of_slice h77
    obtain ⟨A78, c79, rfl⟩ := h77.form
    have zh77 := h77
    refine h_iaE (hA := hA72) (hj := rfl) (hlt := hl73) rfl rfl rfl rfl  ?_
    refine h_ldC (hc := fun w' ⟨O', hq⟩ => cat0 (cellsAt_agree (hq.agree (i := 0) (by decide)) hF75 hd74)) rfl rfl rfl  ?_
    refine h_mv rfl rfl rfl  ?_
    refine h_mv rfl rfl rfl  ?_
    obtain ⟨b80, o81, ce82, hA83, hF86, hl84, hd85, rfl, r87⟩ := zhx1.elem hx47
    refine h_iaE (hA := hA83) (hj := rfl) (hlt := hl84) rfl rfl rfl rfl  ?_
    refine h_ldC (hc := fun w' ⟨O', hq⟩ => cat0 (cellsAt_agree (hq.agree (i := 0) (by decide)) hF86 hd85)) rfl rfl rfl  ?_
    obtain ⟨a88, e89, hf48⟩ := bs hf48
    obtain ⟨p91, x90⟩ := atI_some' e89
    obtain ⟨b92, o93, ce94, hA95, hF98, hl96, hd97, rfl, r99⟩ := zh77.elem x90
    refine h_iaE (hA := hA95) (hj := (Int.toNat_of_nonneg p91).symm) (hlt := hl96) rfl rfl rfl rfl  ?_
    refine h_ldC (hc := fun w' ⟨O', hq⟩ => cat0 (cellsAt_agree (hq.agree (i := 0) (by decide)) hF98 hd97)) rfl rfl rfl  ?_
    obtain ⟨a100, e101, hf48⟩ := bs hf48
    obtain ⟨p103, x102⟩ := atI_some' e101
    obtain ⟨b104, o105, ce106, hA107, hF110, hl108, hd109, rfl, r111⟩ := zh55.elemF x102
    refine h_iaE (hA := hA107) (hj := (Int.toNat_of_nonneg p103).symm) (hlt := hl108) rfl rfl rfl rfl  ?_
    refine hwp_nilT ?_
    refine hws_one (i := 18) (by kernel_rfl) rfl ?_
    refine l_setE rfl h55 (a := a88) (vInt r99) hA107 rfl rfl (lt_of_get x102) fun w112 S113 h55 => ?_
    replace hB := hB.st S113 (by decide) (by decide)
    replace hx1 := hx1.st S113 (by decide)
    replace h20 := h20.st S113 (by decide)
    replace h5 := h5.st S113 (by decide)
    replace h8 := h8.st S113 (by decide)
    replace h11 := h11.st S113 (by decide)
    refine owp_loudSE (by kernel_rfl) ?_
    refine hws_nil (by kernel_rfl) ?_
    obtain rfl := sm hf48
    refine (?_ : Exists _)
    exact ⟨_, (x41.1, x41.2), rfl, ⟨rfl, rfl, rfl, rfl, (congrArg (fun n => some (Value.slice _ n _)) ((by simp : (s40.set (a57).toNat a88).length = s40.length).trans rfl).symm), trivial⟩, _, hB, hx1, h20, h5, h8, h11, h55.relen⟩
  rintro l114 w115 ⟨s118, x119, rfl, hs117, O116, hB, h55⟩
  replace hm := fin_done hm
  refine ewp_sub _ hs117 ?_
  refine ewp_seq ?_
  refine ewp_region ?_
  refine o_mv rfl rfl  ?_
  refine o_as rfl rfl  ?_
  (first | refine owp_nilT ?_ | refine owp_nilB ?_ | refine owp_nilBB ?_ | refine owp_nil ?_)
  refine ewp_ret ?_
  obtain ⟨O120, S121, h55⟩ := h55.freeze
  replace hB := hB.st S121 (by decide) (by decide)
  obtain rfl := sm hm
  exact ret1v rfl (res_tmp rfl) ⟨hB.ext, (Vb.mono (F := Fr 0 w115 O120) h55 hB.out)⟩
end Go.Proofs.Ytdhaelekmjgbmaa

/- Own text: what the proof of exploreStates_holds uses, part 4: rules, models and their proofs, plain laws. -/
import Derived.Test.YtkbmbcblgdgjlaaGreatESC
set_option linter.unusedVariables false
set_option linter.unusedSimpArgs false
namespace Go.Proofs.YtkbmbcblgdgjlaaGreat
open Go Go.RowKit
section
open Go Go.RowKit
attribute [local irreducible] ewp owp hwp hwq hws Ev Evg Fn retPost loud loudS Res1
attribute [local irreducible] hwx loudX
def m_slices_Clone_Luint64_uint64 (xs : List U64) : Option (List U64) := if xs.length * 8 ≤ 140737488355328 ∧ xs.length ≤ 9223372036854775807 then some xs else none
theorem c_slices_Clone_Luint64_uint64 {w : World} {A : Nat → Prop} (hA : ∀ k, A k → k < w.heap.size) {v0 : Value} {x0 : List U64} (h0 : Vb w A v0 x0) {r : List U64} (hm : m_slices_Clone_Luint64_uint64 x0 = some r) :
    Fn Tryz.prog 110 [v0] w fun v w' => Ext w w' ∧ RowR w w' (upA A w w') 182 v r := by
  obtain ⟨⟨hl, hl2⟩, rfl⟩ := ite_some hm
  obtain ⟨O, hB, hA0⟩ := enter hA
  replace h0 := h0.mono hA0
  obtain ⟨Ad, c, rfl⟩ := h0.form
  refine fn_enter Tryz.func110 rfl Tryz.ntmps110 rfl ?_
  cases Ad with
  | none =>
    have hx : x0 = [] := by
      cases x0 with
      | nil => rfl
      | cons x xs => obtain ⟨_, _, _, h, _⟩ := h0.elem (k := 0) (x := x) rfl; cases h
    subst hx
    ((repeat (first | refine e_go ?_ | refine ewp_true rfl ?_ | refine ewp_false rfl ?_)) <;> (refine o_as rfl rfl ?_ <;> (refine o_z ?_)) <;> (repeat (first | refine e_go ?_ | refine ewp_true rfl ?_ | refine ewp_false rfl ?_)) <;> (refine o_mv rfl rfl ?_ <;> refine o_sn rfl rfl ?_ <;> (refine o_z ?_)) <;> (repeat (first | refine e_go ?_ | refine ewp_true rfl ?_ | refine ewp_false rfl ?_)) <;> (refine o_as rfl rfl ?_ <;> (refine o_z ?_)) <;> (repeat (first | refine e_go ?_ | refine ewp_true rfl ?_ | refine ewp_false rfl ?_)))
    exact ret1 rfl rfl ⟨Below.refl _ _, RowR.nil⟩
  | some ad =>
    ((repeat (first | refine e_go ?_ | refine ewp_true rfl ?_ | refine ewp_false rfl ?_)) <;> (refine o_as rfl rfl ?_ <;> (refine o_z ?_)) <;> (repeat (first | refine e_go ?_ | refine ewp_true rfl ?_ | refine ewp_false rfl ?_)) <;> (refine o_mv rfl rfl ?_ <;> refine o_sn rfl rfl ?_ <;> (refine o_z ?_)) <;> (repeat (first | refine e_go ?_ | refine ewp_true rfl ?_ | refine ewp_false rfl ?_)))
    refine l_bslice 2 (by decide) O (xs := ([] : List U64)) rfl rfl rfl rfl trivial (by decide) (by decide) rfl fun g w1 O1 S1 h1 => ?_
    replace hB := hB.st S1 (fun h => h) (fun h => h)
    replace h0 := h0.st S1 (fun h => h)
    (refine o_mv rfl rfl ?_)
    refine l_append rfl h1 h0.rd rfl rfl (by decide) (by simpa using hl) (by simpa using hl2) rfl fun A2 c2 w2 O2 S2 h2 => ?_
    replace hB := hB.st S2 (by decide) (by decide)
    rw [List.nil_append] at h2 ⊢
    (refine o_as rfl rfl ?_ <;> (refine o_z ?_))
    repeat (first | refine e_go ?_ | refine ewp_true rfl ?_ | refine ewp_false rfl ?_)
    exact ret1 rfl rfl ⟨hB.ext, h2.out hB (by decide)⟩
structure PFd where
  word : Int
  bit : Int
  width : Int
  size : Int
instance : Rp PFd where
  isAgg := true
  size := 4
  R w F cs x := cs = [.int .i64 x.word, .int .i64 x.bit, .int .i64 x.width, .int .i64 x.size] ∧ inI64 x.word ∧ inI64 x.bit ∧ inI64 x.width ∧ inI64 x.size
  len := by rintro w F cs x ⟨rfl, h0, h1, h2, h3⟩; rfl
  one := by rintro w F cs x ⟨rfl, h0, h1, h2, h3⟩ u hu; simp at hu; rcases hu with rfl | rfl | rfl | rfl <;> first | rfl | exact Vb.one rfl (by assumption)
  agree := by rintro w w' F cs x ⟨rfl, h0, h1, h2, h3⟩ ha; exact ⟨rfl, h0, h1, h2, h3⟩
  mono := by rintro w F G cs x ⟨rfl, h0, h1, h2, h3⟩ ha; exact ⟨rfl, h0, h1, h2, h3⟩
structure Pkr where
  fields : List PFd
  words : Int
instance : Ow Pkr where
  R w F M v x := ∃ (g : Nat) (L : Lab) (c0 : Value), v = .pointer (some ⟨g, 0, none⟩) ∧ Blk w g 175 [c0, .int .i64 x.words] ∧ M g ∧ L g = 0 ∧ RwM w F (fun k => M k ∧ L k = 1) 177 c0 x.fields ∧ inI64 x.words
  agree := by rintro w w' F M v x ⟨g, L, c0, rfl, hb, hM, hL, h0, h1⟩ a1 a2; exact ⟨g, L, c0, rfl, hb.keep (a2 g hM), hM, hL, h0.agree a1 fun k hk => a2 k hk.1, h1⟩
  mono := by rintro w F M F' M' v x ⟨g, L, c0, rfl, hb, hM, hL, h0, h1⟩ a1 a2 a3; exact ⟨g, L, c0, rfl, hb, a2 g hM, hL, h0.mono a1 (fun k hk => ⟨a2 k hk.1, hk.2⟩) fun k hf hm => a3 k hf hm.1, h1⟩
instance : OwP Pkr := ⟨by rintro w F M v x ⟨g, L, c0, rfl, _⟩; exact ⟨g, rfl⟩⟩
theorem Pkr.opn {i : Nat} {w : World} {O : Lab} {p : Nat} {x : Pkr} (h : Ob i w O (.pointer (some ⟨p, 0, none⟩)) x) (l0 l1 : Nat) (hl : l0 ≠ 0 ∧ l1 ≠ 0) : ∃ (O' : Lab) (c0 : Value), St (eT i) w O w O' ∧ (∀ k, Fr i w O k → ∃ q, q ∈ [l0, l1] ∧ Fr q w O' k) ∧ Lc l0 w O' p 175 [c0, .int .i64 x.words] ∧ Rw l1 w O' 177 c0 x.fields ∧ inI64 x.words := by
  obtain ⟨⟨g, L, c0, hv, hb, hM, hL, h0, h1⟩, hi⟩ := h
  obtain rfl : p = g := by injection hv with hv; injection hv with hv; injection hv
  exact ⟨part O i L [l0, l1], c0, part_st hi, part_all (by simp), ⟨hb, (part_fr (j := 0) rfl p ⟨hM, hL⟩).2⟩, h0.rw (part_fr0 hi) (part_fr (j := 1) rfl) hl.2, h1⟩
theorem Pkr.shut {w : World} {O : Lab} {p : Nat} {x : Pkr} {l0 l1 : Nat} {c0 : Value} (hd : ¬ 0 ∈ [l0, l1] ∧ [l0, l1].idxOf l0 = 0 ∧ [l0, l1].idxOf l1 = 1) (hb : Lc l0 w O p 175 [c0, .int .i64 x.words]) (h0 : Rw l1 w O 177 c0 x.fields) (h1 : inI64 x.words) : ∃ O', St (· ∈ [l0, l1]) w O w O' ∧ (∀ k, Fr 0 w O k → Fr 0 w O' k) ∧ (∀ q, q ∈ [l0, l1] → ∀ k, Fr q w O k → Fr l0 w O' k) ∧ Ob l0 w O' (.pointer (some ⟨p, 0, none⟩)) x := by
  have hb1 : l0 ≠ 0 := fun e => hd.1 (by simp [e])
  have hg := whole_fr (i := l0) hd.2.1 (by simp) p ⟨hb.1.lt, hb.2⟩
  exact ⟨whole O l0 [l0, l1], whole_st, whole_fr0 hd.1, whole_all, ⟨p, fun k => [l0, l1].idxOf (O k), c0, rfl, hb.1, hg.1, hg.2, h0.m (whole_fr0 hd.1) (whole_fr hd.2.2 (by simp)) (fun k a b => frNe0 hb1 k a b.1), h1⟩, hb1⟩
noncomputable def m_pack_New (x0 : List Int) : Option ((Option Pkr) × Err) :=
  if 64 < (x0.length : Int) then (some (none, (⟨5⟩ : Err))) else (bnd (rng (ρ := (Option Pkr) × Err) (fun (k25 : Nat) (a26 : Int) (s23 : Int × Pkr) => bnd (if a26 < 1 then (some true) else (if 64 < a26 then (some true) else (some false)) : Option Bool) fun y48 => if y48 = true then (some (.ret (none, (⟨1⟩ : Err)))) else (bnd (lop (ρ := Ctl (Int × Pkr) ((Option Pkr) × Err)) (fun (s61 : Int) => bnd (shlI 1 s61) fun n76 => if n76 < a26 then (bnd (chkI (s61 + 1)) fun n80 => some (.next n80)) else (some (.brk s61))) 0) fun res59 => fin res59 fun (s87 : Int) => bnd (bnd (chkI (s23.1 + s87)) fun n95 => if 64 < n95 then (bnd (chkI (s23.2.words + 1)) fun n109 => some (0, (⟨s23.2.fields, n109⟩ : Pkr))) else (some (s23.1, s23.2)) : Option (Int × Pkr)) fun y89 => bnd (chkI (y89.2.words - 1)) fun n133 => bnd (appI 32 y89.2.fields [(⟨n133, y89.1, s87, a26⟩ : PFd)]) fun u142 => bnd (chkI (y89.1 + s87)) fun n155 => some (.next (n155, (⟨u142, y89.2.words⟩ : Pkr))))) x0 0 (0, (⟨([] : List PFd), 1⟩ : Pkr))) fun res21 => fin res21 fun (s167 : Int × Pkr) => some ((some s167.2), (⟨0⟩ : Err)))
theorem c_pack_New {w : World} {O : Lab} {vx0 : Value} {x0 : List Int} (hx0 : Vb w (Fr 0 w O) vx0 x0) (j0 : Nat) (hj0 : j0 ≠ 0) {r : (Option Pkr) × Err} (hm : m_pack_New x0 = some r) :
    Fn Tryz.prog 82 [vx0] w fun v w' => ∃ O', St nT w O w' O' ∧ ∃ v0 v1 : Value, v = .tuple #[v0, v1] ∧ Obo j0 w' O' v0 r.1 ∧ Vb w' (Fr 0 w' O') v1 r.2 := by
 obtain ⟨O0, hE, hz0⟩ := ent0 (w := w) (O := O)
 have hB : Bm w O0 w O0 := Bm.refl
 replace hx0 := hx0.mono hz0
 obtain ⟨A2, c3, rfl⟩ := hx0.form
 refine fn_enter Tryz.func82 rfl Tryz.ntmps82 rfl ?_
 unfold m_pack_New at hm
 refine ewp_seq (ewp_region (o_as rfl rfl (o_as rfl rfl (o_z ?_))))
 refine ewp_seq (ewp_seq (ewp_region (o_mv rfl rfl (o_ln rfl rfl ?_))))
 have l5 : x0.length ≤ 9223372036854775807 := Nat.le_trans hx0.len.2.1 hx0.len.2.2
 have r4 : inI64 (x0.length : Int) := rngNat l5
 refine o_gtS rfl rfl rfl (fun c6 => ?_) fun c6 => ?_
 ·
  replace hm := ip hm c6
  refine o_z ?_
  refine ewp_true rfl (ewp_seq (ewp_region (o_miE rfl rfl ?_)))
  refine o_as rfl rfl (o_as rfl rfl (o_z ?_))
  refine ewp_ret ?_
  obtain rfl := sm hm
  obtain ⟨O', hS', hz, hl⟩ := hE.leave (fun _ => 0) rfl hB
  exact ret2 rfl (res_tmp rfl) (res_tmp rfl) ⟨O', hS', _, _, rfl, rfl, (vErr (by decide))⟩
 replace hm := im hm c6
 refine o_z ?_
 refine ewp_false rfl (ewp_skip (ewp_seq (ewp_region (o_bd rfl rfl rfl ?_))))
 refine l_box 2 O0 rfl rfl fun g7 w8 O9 S10 h11 => ?_
 replace h11 : Lc 2 w8 O9 g7 175 [(.slice none 0 0), (.int .i64 1)] := h11
 refine o_as rfl rfl (o_z ?_)
 refine ewp_seq (ewp_region (o_as rfl rfl (o_z ?_)))
 refine ewp_seq (ewp_seq (ewp_region (o_mv rfl rfl (o_ln rfl rfl ?_))))
 replace hx0 := hx0.st S10
 have l13 : x0.length ≤ 9223372036854775807 := Nat.le_trans hx0.len.2.1 hx0.len.2.2
 have r12 : inI64 (x0.length : Int) := rngNat l13
 refine o_mv rfl rfl (o_z ?_)
 have h14 : Rw 3 w8 O9 177 (.slice none 0 0) ([] : List PFd) := Rw.nil 3 (by decide)
 obtain ⟨O16, S17, hz19, ha20, h18⟩ := Pkr.shut (x := (⟨([] : List PFd), 1⟩ : Pkr)) (l0 := 2) (l1 := 3) (by decide) h11 h14 (show inI64 (1) from by decide)
 obtain ⟨res21, hL22, hm⟩ := bs hm
 refine ewp_join (aft res21 (fun (s23 : Int × Pkr) (x24 : Unit) => [(4, (.pointer (some ⟨g7, 0, none⟩)))]) (fun s23 x24 w' => ∃ O' : Lab, Bm w O0 w' O' ∧ Ob 2 w' O' (.pointer (some ⟨g7, 0, none⟩)) s23.2 ∧ inI64 s23.1)) ?_ ?_
 ·
  refine ewp_block ?_
  replace hB := (hB.st S10).st S17
  replace hx0 := hx0.st S17
  refine ewp_rng (σ := Int × Pkr) (X := Unit) (x0.length) hL22 rfl l13 (fun (s23 : Int × Pkr) (x24 : Unit) => [(4, (.pointer (some ⟨g7, 0, none⟩))), (5, (.int .i64 s23.1)), (15, (.slice A2 x0.length c3))]) _ (fun s23 x24 w' => ∃ O' : Lab, Bm w O0 w' O' ∧ Ob 2 w' O' (.pointer (some ⟨g7, 0, none⟩)) s23.2 ∧ Vb w' (Fr 0 w' O') (.slice A2 x0.length c3) x0 ∧ inI64 s23.1) _ () ⟨O16, hB, h18, hx0, (show inI64 (0) from by decide)⟩ ⟨rfl, rfl, rfl, rfl, rfl, trivial⟩ (fun _ _ => ⟨rfl, rfl⟩) (fun _ _ => ⟨rfl, trivial⟩) (fun _ _ _ ⟨O', hB, h39, hx0, r38⟩ => ⟨O', hB, h39, r38⟩) ⟨rfl, rfl, rfl⟩ ⟨rfl, rfl⟩ ?_
  rintro k25 a26 s23 x24 w27 cc29 hx30 ⟨O28, hB, h39, hx0, r38⟩ hf31 hret32 hbrk33
  have rk25 : inI64 (k25 : Int) := rngK hx30 l13
  refine ewp_seq (ewp_region ?_)
  obtain ⟨b40, o41, ce42, hA43, hl44, hd45, rfl, r47⟩ := hx0.elem' hx30
  refine o_iaE (hA := hA43) (hj := rfl) (hlt := hl44) rfl rfl rfl ?_
  refine o_ld (hc := cat0 hd45) rfl rfl ?_
  refine o_as rfl rfl (o_z ?_)
  refine ewp_seq (ewp_seq ?_)
  obtain ⟨y48, hy49, hf31⟩ := bs hf31
  refine ewp_join (fun l' w' => ∃ (x51 : Unit) (O' : Lab), subs l' [(4, (.pointer (some ⟨g7, 0, none⟩))), (5, (.int .i64 s23.1)), (7, (.int .i64 a26)), (15, (.slice A2 x0.length c3)), (16, (.int .i64 (x0.length : Int))), (17, (.int .i64 (k25 : Int))), (26, (.bool y48))] ∧ Bm w O0 w' O' ∧ Ob 2 w' O' (.pointer (some ⟨g7, 0, none⟩)) s23.2 ∧ Vb w' (Fr 0 w' O') (.slice A2 x0.length c3) x0) ?_ ?_
  ·
   refine ewp_region (o_mv rfl rfl (o_ltS rfl rfl rfl (fun c52 => ?_) fun c52 => ?_))
   ·
    replace hy49 := ip hy49 c52
    refine o_mv rfl rfl (owp_no rfl rfl rfl rfl (owp_no rfl rfl rfl rfl (o_pt rfl rfl rfl (o_z ?_))))
    obtain rfl := sm hy49
    exact ⟨(), _, ⟨rfl, rfl, rfl, rfl, rfl, rfl, rfl, trivial⟩, hB, h39, hx0⟩
   replace hy49 := im hy49 c52
   refine o_mv rfl rfl (owp_yes rfl rfl (o_mv rfl rfl (owp_yes rfl rfl (o_gtS rfl rfl rfl (fun c53 => ?_) fun c53 => ?_))))
   ·
    replace hy49 := ip hy49 c53
    refine o_pf rfl rfl rfl (o_z ?_)
    obtain rfl := sm hy49
    exact ⟨(), _, ⟨rfl, rfl, rfl, rfl, rfl, rfl, rfl, trivial⟩, hB, h39, hx0⟩
   replace hy49 := im hy49 c53
   refine o_pf rfl rfl rfl (o_z ?_)
   obtain rfl := sm hy49
   exact ⟨(), _, ⟨rfl, rfl, rfl, rfl, rfl, rfl, rfl, trivial⟩, hB, h39, hx0⟩
  rintro l54 w55 ⟨x51, O56, hs57, hB, h39, hx0⟩
  refine ewp_sub _ hs57 ?_
  refine ewp_cond rfl (fun c58 => ?_) (fun c58 => ?_)
  ·
   replace hf31 := ip hf31 c58
   refine ewp_seq (ewp_region (o_miE rfl rfl ?_))
   refine o_as rfl rfl (o_as rfl rfl (o_z ?_))
   refine ewp_ret ?_
   obtain rfl := sm hf31
   obtain rfl := hret32 _ rfl
   obtain rfl := sm (fin_ret hm)
   obtain ⟨O', hS', hz, hl⟩ := hE.leave (fun _ => 0) rfl hB
   exact ret2 rfl (res_tmp rfl) (res_tmp rfl) ⟨O', hS', _, _, rfl, rfl, (vErr (by decide))⟩
  replace hf31 := im' hf31 c58
  refine ewp_skip (ewp_seq (ewp_region (o_as rfl rfl (o_z ?_))))
  refine ewp_seq ?_
  obtain ⟨res59, hL60, hf31⟩ := bs hf31
  refine ewp_join (aft res59 (fun (s61 : Int) (x62 : Unit) => [(4, (.pointer (some ⟨g7, 0, none⟩))), (5, (.int .i64 s23.1)), (7, (.int .i64 a26)), (8, (.int .i64 s61)), (15, (.slice A2 x0.length c3)), (16, (.int .i64 (x0.length : Int))), (17, (.int .i64 (k25 : Int)))]) (fun s61 x62 w' => ∃ O' : Lab, Bm w O0 w' O' ∧ Ob 2 w' O' (.pointer (some ⟨g7, 0, none⟩)) s23.2 ∧ Vb w' (Fr 0 w' O') (.slice A2 x0.length c3) x0 ∧ inI64 s61)) ?_ ?_
  ·
   refine ewp_block (ewp_lop (σ := Int) (X := Unit) hL60 (fun (s61 : Int) (x62 : Unit) => [(4, (.pointer (some ⟨g7, 0, none⟩))), (5, (.int .i64 s23.1)), (7, (.int .i64 a26)), (8, (.int .i64 s61)), (15, (.slice A2 x0.length c3)), (16, (.int .i64 (x0.length : Int))), (17, (.int .i64 (k25 : Int)))]) _ (fun s61 x62 w' => ∃ O' : Lab, Bm w O0 w' O' ∧ Ob 2 w' O' (.pointer (some ⟨g7, 0, none⟩)) s23.2 ∧ Vb w' (Fr 0 w' O') (.slice A2 x0.length c3) x0 ∧ inI64 s61) _ () ⟨O56, hB, h39, hx0, (show inI64 (0) from by decide)⟩ ⟨rfl, rfl, rfl, rfl, rfl, rfl, rfl, trivial⟩ ?_)
   rintro s61 x62 w65 cc67 ⟨O66, hB, h39, hx0, r75⟩ hf69 hret70 hbrk71
   refine ewp_seq (ewp_seq (ewp_region (o_mv rfl rfl ?_)))
   obtain ⟨n76, e77, hf69⟩ := bs hf69
   have r78 := shlI_rng e77
   refine o_ish (he := e77) rfl rfl rfl ?_
   refine o_mv rfl rfl (o_ltS rfl rfl rfl (fun c79 => ?_) fun c79 => ?_)
   ·
    replace hf69 := ip hf69 c79
    refine o_z ?_
    refine ewp_true rfl (ewp_skip (ewp_block (ewp_region (o_mv rfl rfl ?_))))
    obtain ⟨n80, e81, hf69⟩ := bs hf69
    have r82 := (chkI_rng e81)
    refine o_adE (he := e81) rfl rfl rfl ?_
    refine o_as rfl rfl (o_z ?_)
    obtain rfl := sm hf69
    exact show Exists _ from ⟨_, (), rfl, ⟨rfl, rfl, rfl, rfl, rfl, rfl, rfl, trivial⟩, _, hB, h39, hx0, r82⟩
   replace hf69 := im hf69 c79
   refine o_z ?_
   refine ewp_false rfl (ewp_exit ?_)
   obtain rfl := sm hf69
   exact show Exists _ from ⟨_, (), hbrk71 _ rfl, ⟨rfl, rfl, rfl, rfl, rfl, rfl, rfl, trivial⟩, _, hB, h39, hx0, r75⟩
  rintro l83 w84 ⟨s87, x88, rfl, hs86, O85, hB, h39, hx0, r75⟩
  replace hf31 := fin_done hf31
  refine ewp_sub _ hs86 ?_
  refine ewp_seq ?_
  obtain ⟨y89, hy90, hf31⟩ := bs hf31
  refine ewp_join (fun l' w' => ∃ (x92 : Unit) (O' : Lab), subs l' [(4, (.pointer (some ⟨g7, 0, none⟩))), (5, (.int .i64 y89.1)), (7, (.int .i64 a26)), (8, (.int .i64 s87)), (15, (.slice A2 x0.length c3)), (16, (.int .i64 (x0.length : Int))), (17, (.int .i64 (k25 : Int)))] ∧ Bm w O0 w' O' ∧ Ob 2 w' O' (.pointer (some ⟨g7, 0, none⟩)) y89.2 ∧ Vb w' (Fr 0 w' O') (.slice A2 x0.length c3) x0 ∧ inI64 y89.1) ?_ ?_
  ·
   refine ewp_seq (ewp_region (o_mv rfl rfl (o_mv rfl rfl ?_)))
   obtain ⟨n95, e96, hy90⟩ := bs hy90
   have r97 := (chkI_rng e96)
   refine o_adE (he := e96) rfl rfl rfl ?_
   refine o_gtS rfl rfl rfl (fun c98 => ?_) fun c98 => ?_
   ·
    replace hy90 := ip hy90 c98
    refine o_z ?_
    refine ewp_true rfl (ewp_seq (ewp_region (o_mv rfl rfl (o_nc rfl rfl ?_))))
    obtain ⟨O99, v103, S100, ha102, h101, h104, r108⟩ := Pkr.opn h39 2 4 (by decide)
    obtain ⟨A105, c106, rfl⟩ := h104.form
    refine o_fa rfl rfl (o_ld (hc := Blk.cell (i := 1) (h101.1) rfl) rfl rfl ?_)
    obtain ⟨n109, e110, hy90⟩ := bs hy90
    have r111 := (chkI_rng e110)
    refine o_adE (he := e110) rfl rfl rfl ?_
    refine o_nc rfl rfl (o_fa rfl rfl (l_store h101 rfl rfl rfl (nle_b rfl) (allOne rfl) fun w112 S113 h101 => ?_))
    replace h101 : Lc 2 w112 O99 g7 175 [(.slice A105 s23.2.fields.length c106), (.int .i64 n109)] := h101
    refine o_z ?_
    refine ewp_region (o_as rfl rfl (o_z ?_))
    replace h104 := h104.st S113
    obtain ⟨O114, S115, hz117, ha118, h116⟩ := Pkr.shut (x := (⟨s23.2.fields, n109⟩ : Pkr)) (l0 := 2) (l1 := 4) (by decide) h101 h104 r111
    obtain rfl := sm hy90
    replace hB := ((hB.st S100).st S113).st S115
    replace hx0 := ((hx0.st S100).st S113).st S115
    exact ⟨(), _, ⟨rfl, rfl, rfl, rfl, rfl, rfl, rfl, trivial⟩, hB, h116, hx0, (show inI64 (0) from by decide)⟩
   replace hy90 := im hy90 c98
   refine o_z ?_
   refine ewp_false rfl (ewp_skip ?_)
   obtain rfl := sm hy90
   exact ⟨(), _, ⟨rfl, rfl, rfl, rfl, rfl, rfl, rfl, trivial⟩, hB, h39, hx0, r38⟩
  rintro l119 w120 ⟨x92, O121, hs122, hB, h94, hx0, r93⟩
  refine ewp_sub _ hs122 ?_
  refine ewp_seq ?_
  obtain ⟨O123, v127, S124, ha126, h125, h128, r132⟩ := Pkr.opn h94 2 4 (by decide)
  obtain ⟨A129, c130, rfl⟩ := h128.form
  refine ewp_drawX [(15, [4])] O123 ?_
  refine x_pre (fuel := 6) [] [(1, true), (2, true), (3, true), (4, true), (5, true), (6, true), (7, true), (8, true), (9, true), (10, true), (11, true), (12, true), (13, true)] (by kernel_rfl) rfl ?_
  refine h_mv rfl rfl rfl (h_nc rfl rfl rfl (h_fa rfl rfl rfl (h_ldC (hc := fun w' ⟨O', hq⟩ => Blk.cell (i := 0) ((h125.st hq (by decide)).1) rfl) rfl rfl rfl ?_)))
  refine h_mv rfl rfl rfl (h_nc rfl rfl rfl (h_fa rfl rfl rfl (h_ldC (hc := fun w' ⟨O', hq⟩ => Blk.cell (i := 1) ((h125.st hq (by decide)).1) rfl) rfl rfl rfl ?_)))
  obtain ⟨n133, e134, hf31⟩ := bs hf31
  have r135 := (chkI_rng e134)
  refine h_sbE (he := e134) rfl rfl rfl rfl ?_
  refine h_mv rfl rfl rfl (h_mv rfl rfl rfl (h_mv rfl rfl rfl (h_bd rfl rfl rfl rfl ?_)))
  refine hwp_nilT ?_
  refine x_pre (fuel := 5) [4] [(0, true)] (by kernel_rfl) rfl ?_
  refine h_mv rfl rfl rfl (hwp_nilT ?_)
  refine x_one (i := 14) (by kernel_rfl) rfl ?_
  refine l_bslice 5 (by decide) O123 (xs := ([(⟨n133, y89.1, s87, a26⟩ : PFd)] : List PFd)) rfl rfl rfl rfl ⟨(Vb.ofAgg (cs := [(.int .i64 n133), (.int .i64 y89.1), (.int .i64 s87), (.int .i64 a26)]) (x := (⟨n133, y89.1, s87, a26⟩ : PFd)) rfl ⟨rfl, r135, r93, r75, r47⟩), trivial⟩ (by decide) (by decide) rfl fun g136 w137 O138 S139 h140 => ?_
  have hZ := S139.lst [] (fun _ h => h.elim)
  refine x_go [(15, [4])] hZ (by kernel_rfl) ?_
  refine x_one (i := 15) (by kernel_rfl) rfl ?_
  obtain ⟨u142, e143, hf31⟩ := bs hf31
  obtain ⟨e143, e144, e145⟩ := appI_some e143
  replace h128 := h128.st S139
  refine l_append rfl h128 (h140.rd) rfl rfl (by decide) e144 e145 rfl fun A146 c147 w148 O149 S150 h151 => ?_
  rw [← e143] at h151 ⊢
  have hZ := S150.lst [4] (fun _ h => by cases h; decide)
  refine x_go [] hZ (by kernel_rfl) ?_
  refine x_pre (fuel := 1) [] [(16, true), (17, true)] (by kernel_rfl) rfl ?_
  refine h_nc rfl rfl rfl (h_fa rfl rfl rfl (hwp_nilT ?_))
  refine x_one (i := 18) (by kernel_rfl) rfl ?_
  replace h125 := (h125.st S139).st S150
  refine l_store h125 rfl rfl rfl (nle_b rfl) (allOne rfl) fun w153 S154 h125 => ?_
  replace h125 : Lc 2 w153 O149 g7 175 [(.slice A146 u142.length c147), (.int .i64 y89.2.words)] := h125
  refine x_end (by kernel_rfl) ?_
  refine x_nil (by kernel_rfl) ?_
  refine ewp_region (o_mv rfl rfl (o_mv rfl rfl ?_))
  obtain ⟨n155, e156, hf31⟩ := bs hf31
  have r157 := (chkI_rng e156)
  refine o_adE (he := e156) rfl rfl rfl ?_
  refine o_as rfl rfl (o_z ?_)
  replace h151 := h151.st S154
  obtain ⟨O158, S159, hz161, ha162, h160⟩ := Pkr.shut (x := (⟨u142, y89.2.words⟩ : Pkr)) (l0 := 2) (l1 := 4) (by decide) h125 h151 r132
  obtain rfl := sm hf31
  replace hB := ((((hB.st S124).st S139).st S150).st S154).st S159
  replace hx0 := ((((hx0.st S124).st S139).st S150).st S154).st S159
  exact show Exists _ from ⟨_, (), rfl, ⟨rfl, rfl, rfl, rfl, rfl, trivial⟩, _, hB, h160, hx0, r157⟩
 replace hB := (hB.st S10).st S17
 rintro l163 w164 ⟨s167, x168, rfl, hs166, O165, hB, h39, r38⟩
 replace hm := fin_done hm
 refine ewp_sub _ hs166 ?_
 refine ewp_seq (ewp_region (o_mv rfl rfl (o_as rfl rfl (o_as rfl rfl (o_z ?_)))))
 refine ewp_ret ?_
 obtain rfl := sm hm
 obtain ⟨O', hS', hz, hl⟩ := hE.leave (fun q => if q = 2 then j0 else 0) rfl hB
 exact ret2 rfl (res_tmp rfl) (res_tmp rfl) ⟨O', hS', _, _, rfl, (Ob.leave h39 hz (hl 2 (by decide) (by decide)) hj0), (vErr (show inI64 0 from by decide))⟩
noncomputable def m_pack_field_mask (x0 : PFd) : Option U64 :=
  bnd (shlU (1 : U64) x0.width) fun n12 => bnd (shlU (n12 - (1 : U64)) x0.bit) fun n14 => some n14
theorem c_pack_field_mask {w : World} {A : Nat → Prop} (hA : ∀ k, A k → k < w.heap.size) {vx0 : Value} {x0 : PFd} (hx0 : Vb w A vx0 x0) {r : U64} (hm : m_pack_field_mask x0 = some r) :
    Fn Tryz.prog 112 [vx0] w fun v w' => Ext w w' ∧ Vb w' (upA A w w') v r := by
 obtain ⟨O, hB, hA0⟩ := enter hA
 replace hx0 := hx0.mono hA0
 obtain ⟨cs2, rfl, rfl, r3, r4, r5, r6⟩ := hx0
 refine fn_enter Tryz.func112 rfl Tryz.ntmps112 rfl ?_
 unfold m_pack_field_mask at hm
 refine ewp_seq (ewp_region (l_box 2 O rfl rfl fun g7 w8 O9 S10 h11 => ?_))
 replace h11 : Lc 2 w8 O9 g7 177 [(.int .i64 x0.word), (.int .i64 x0.bit), (.int .i64 x0.width), (.int .i64 x0.size)] := h11
 refine o_as rfl rfl (o_z ?_)
 refine ewp_seq (ewp_draw (· = w8) [(0, true), (1, true), (2, true), (3, true), (4, true), (5, true), (6, true), (7, true)] (by kernel_rfl) rfl (by kernel_rfl) rfl ?_)
 refine h_fa rfl rfl rfl (h_ldA (hc := Blk.cell (i := 2) (h11.1) rfl) rfl rfl rfl ?_)
 obtain ⟨n12, e13, hm⟩ := bs hm
 refine h_ush (a := (1 : U64)) (he := e13) rfl rfl rfl rfl ?_
 refine h_usb (a := n12) (b := (1 : U64)) rfl rfl rfl rfl ?_
 refine h_fa rfl rfl rfl (h_ldA (hc := Blk.cell (i := 1) (h11.1) rfl) rfl rfl rfl ?_)
 obtain ⟨n14, e15, hm⟩ := bs hm
 refine h_ush (a := (n12 - (1 : U64))) (he := e15) rfl rfl rfl rfl ?_
 refine h_as rfl rfl rfl (h_z ?_)
 refine ewp_ret ?_
 obtain rfl := sm hm
 replace hB := hB.st S10
 exact ret1v rfl (res_tmp rfl) ⟨hB.ext, vU64⟩
noncomputable def m_pack_field_get (x0 : PFd) (x1 : List U64) : Option Int :=
  bnd (atI x1 x0.word) fun a15 => bnd (m_pack_field_mask x0) fun q26 => bnd (shrU (a15 &&& q26) x0.bit) fun n33 => some n33.toInt
theorem c_pack_field_get {w : World} {A : Nat → Prop} (hA : ∀ k, A k → k < w.heap.size) {vx0 : Value} {x0 : PFd} (hx0 : Vb w A vx0 x0) {vx1 : Value} {x1 : List U64} (hx1 : Vb w A vx1 x1) {r : Int} (hm : m_pack_field_get x0 x1 = some r) :
    Fn Tryz.prog 111 [vx0, vx1] w fun v w' => Ext w w' ∧ Vb w' (upA A w w') v r := by
 obtain ⟨O, hB, hA0⟩ := enter hA
 replace hx0 := hx0.mono hA0
 obtain ⟨cs3, rfl, rfl, r4, r5, r6, r7⟩ := hx0
 replace hx1 := hx1.mono hA0
 obtain ⟨A8, c9, rfl⟩ := hx1.form
 refine fn_enter Tryz.func111 rfl Tryz.ntmps111 rfl ?_
 unfold m_pack_field_get at hm
 refine ewp_seq (ewp_region (l_box 2 O rfl rfl fun g10 w11 O12 S13 h14 => ?_))
 replace h14 : Lc 2 w11 O12 g10 177 [(.int .i64 x0.word), (.int .i64 x0.bit), (.int .i64 x0.width), (.int .i64 x0.size)] := h14
 refine o_as rfl rfl (o_z ?_)
 refine ewp_seq (ewp_drawX [] O12 ?_)
 refine x_pre (fuel := 5) [] [(0, true), (1, true), (2, true), (3, true), (4, true), (5, true), (8, true), (9, true)] (by kernel_rfl) rfl ?_
 refine h_mv rfl rfl rfl (h_fa rfl rfl rfl (h_ldC (hc := fun w' ⟨O', hq⟩ => Blk.cell (i := 0) ((h14.st hq (by decide)).1) rfl) rfl rfl rfl ?_))
 obtain ⟨a15, e16, hm⟩ := bs hm
 obtain ⟨p18, x17⟩ := atI_some' e16
 replace hx1 := hx1.st S13
 obtain ⟨b19, o20, ce21, hA22, hF25, hl23, hd24, rfl⟩ := hx1.elem x17
 refine h_iaE (hA := hA22) (hj := (Int.toNat_of_nonneg p18).symm) (hlt := hl23) rfl rfl rfl rfl ?_
 refine h_ldC (hc := fun w' ⟨O', hq⟩ => cat0 (cellsAt_agree (hq.agree (i := 0) (by decide)) hF25 hd24)) rfl rfl rfl ?_
 refine h_laB (hl := rfl) (hb := fun w' ⟨O', hq⟩ => ((h14.st hq (by decide)).1).cellsAt) rfl rfl rfl ?_
 refine h_fa rfl rfl rfl (h_ldC (hc := fun w' ⟨O', hq⟩ => Blk.cell (i := 1) ((h14.st hq (by decide)).1) rfl) rfl rfl rfl ?_)
 refine hwp_nilT ?_
 refine x_one (i := 6) (by kernel_rfl) rfl ?_
 obtain ⟨q26, e27, hm⟩ := bs hm
 refine l_callA (O := O12) (A := All w11) (R := fun w' F v => Vb w' F v q26) (c_pack_field_mask (fun _ h => h) (Vb.mono (F := Fr 0 w11 O12) (Vb.ofAgg (cs := [(.int .i64 x0.word), (.int .i64 x0.bit), (.int .i64 x0.width), (.int .i64 x0.size)]) (x := x0) rfl ⟨rfl, r4, r5, r6, r7⟩) Fr.lt) e27) rfl rfl fun v32 w28 O29 S30 h31 => ?_
 obtain rfl := h31.u64
 have hZ := S30.lst [] (fun _ h => h.elim)
 refine x_go [] hZ (by kernel_rfl) ?_
 refine x_pre (fuel := 0) [] [(7, true), (10, true), (11, true), (12, true)] (by kernel_rfl) rfl ?_
 refine h_uan (a := a15) (b := q26) rfl rfl rfl rfl ?_
 obtain ⟨n33, e34, hm⟩ := bs hm
 refine h_usr (a := (a15 &&& q26)) (he := e34) rfl rfl rfl rfl ?_
 refine h_cvI (a := n33) rfl rfl rfl ?_
 refine h_as rfl rfl rfl (hwp_nilT ?_)
 refine x_nil (by kernel_rfl) ?_
 refine ewp_ret ?_
 obtain rfl := sm hm
 replace hB := (hB.st S13).st S30
 exact ret1v rfl (res_tmp rfl) ⟨hB.ext, (vInt (toIntR _))⟩
noncomputable def m_pack_Packer_Pack (x0 : Pkr) (x1 : List Int) : Option ((List U64) × Err) :=
  if (x1.length : Int) ≠ (x0.fields.length : Int) then (some (([] : List U64), (⟨2⟩ : Err))) else (bnd (mkI 8 ((0 : U64) : U64) x0.words) fun u25 => bnd (rng (ρ := (List U64) × Err) (fun (k50 : Nat) (a51 : PFd) (s48 : (List U64)) => bnd (bnd (x1[k50]?) fun a87 => if a87 < 0 then (some true) else (bnd (x1[k50]?) fun a98 => if a51.size ≤ a98 then (some true) else (some false)) : Option Bool) fun y83 => if y83 = true then (some (.ret (([] : List U64), (⟨2⟩ : Err)))) else (bnd (atI s48 a51.word) fun a114 => bnd (x1[k50]?) fun a125 => bnd (shlU (BitVec.ofInt 64 a125) a51.bit) fun n135 => bnd (atI s48 a51.word) fun a137 => some (.next (s48.set (a51.word : Int).toNat (a114 ||| n135))))) x0.fields 0 u25) fun res46 => fin res46 fun (s154 : (List U64)) => some (s154, (⟨0⟩ : Err)))
theorem c_pack_Packer_Pack {w : World} {O : Lab} {p0 i0 : Nat} {x0 : Pkr} (hx0 : Ob i0 w O (.pointer (some ⟨p0, 0, none⟩)) x0) {vx1 : Value} {x1 : List Int} (hx1 : Vb w (Fr 0 w O) vx1 x1) {r : (List U64) × Err} (hm : m_pack_Packer_Pack x0 x1 = some r) :
    Fn Tryz.prog 107 [(.pointer (some ⟨p0, 0, none⟩)), vx1] w fun v w' => ∃ O', St (eT i0) w O w' O' ∧ ∃ v0 v1 : Value, Ob i0 w' O' (.pointer (some ⟨p0, 0, none⟩)) x0 ∧ v = .tuple #[v0, v1] ∧ Vb w' (Fr 0 w' O') v0 r.1 ∧ Vb w' (Fr 0 w' O') v1 r.2 := by
 obtain ⟨O0, hE, hz0, hl2⟩ := ent1 (w := w) (O := O) hx0.2
 have hx0' := Ob.leave hx0 hz0 hl2 (j := 2) (by decide)
 have hB : Bm w O0 w O0 := Bm.refl
 replace hx1 := hx1.mono hz0
 obtain ⟨A3, c4, rfl⟩ := hx1.form
 refine fn_enter Tryz.func107 rfl Tryz.ntmps107 rfl ?_
 unfold m_pack_Packer_Pack at hm
 refine ewp_seq (ewp_region (o_as rfl rfl (o_as rfl rfl (o_z ?_))))
 refine ewp_seq (ewp_seq (ewp_region (o_mv rfl rfl (o_pn rfl rfl ?_))))
 refine o_z ?_
 refine ewp_false rfl (ewp_skip (ewp_seq (ewp_seq (ewp_region (o_mv rfl rfl (o_ln rfl rfl ?_))))))
 have l6 : x1.length ≤ 9223372036854775807 := Nat.le_trans hx1.len.2.1 hx1.len.2.2
 have r5 : inI64 (x1.length : Int) := rngNat l6
 refine o_mv rfl rfl (o_nc rfl rfl ?_)
 obtain ⟨O7, v11, S8, ha10, h9, h12, r16⟩ := Pkr.opn hx0' 2 3 (by decide)
 obtain ⟨A13, c14, rfl⟩ := h12.form
 refine o_fa rfl rfl (o_ld (hc := Blk.cell (i := 0) (h9.1) rfl) rfl rfl ?_)
 refine o_ln rfl rfl ?_
 have l18 : x0.fields.length ≤ 9223372036854775807 := Nat.le_trans h12.len.2.1 h12.len.2.2
 have r17 : inI64 (x0.fields.length : Int) := rngNat l18
 refine o_neS rfl rfl rfl (fun c19 => ?_) fun c19 => ?_
 ·
  replace hm := ip hm c19
  refine o_z ?_
  refine ewp_true rfl (ewp_seq (ewp_region (o_miE rfl rfl ?_)))
  refine o_as rfl rfl (o_as rfl rfl (o_z ?_))
  refine ewp_ret ?_
  obtain ⟨O20, S21, hz23, ha24, h22⟩ := Pkr.shut (x := x0) (l0 := 2) (l1 := 3) (by decide) h9 h12 r16
  obtain rfl := sm hm
  replace hB := (hB.st S8).st S21
  obtain ⟨O', hS', hz, hl⟩ := hE.leave (fun q => if q = 2 then i0 else 0) rfl hB
  exact ret2 rfl (res_tmp rfl) (res_tmp rfl) ⟨O', hS', _, _, (Ob.leave h22 hz (hl 2 (by decide) (by decide)) hx0.2), rfl, (Vb.mono (Vb.nil _ _) hz), (vErr (by decide))⟩
 replace hm := im hm c19
 refine o_z ?_
 refine ewp_false rfl (ewp_skip (ewp_seq (ewp_region (o_mv rfl rfl (o_nc rfl rfl (o_fa rfl rfl (o_ld (hc := Blk.cell (i := 1) (h9.1) rfl) rfl rfl ?_)))))))
 obtain ⟨u25, e26, hm⟩ := bs hm
 obtain ⟨m27, e28, e29, e30, e31⟩ := mkI_some e26
 refine l_make 4 (by decide) O7 (z0 := ((0 : U64) : U64)) rfl rfl rfl rfl rfl e28 vU64 e29 e30 rfl fun g32 w33 O34 S35 h36 => ?_
 rw [← e31] at h36 ⊢
 refine o_as rfl rfl (o_z ?_)
 refine ewp_seq (ewp_seq (ewp_region (o_mv rfl rfl (o_nc rfl rfl (o_fa rfl rfl ?_)))))
 replace h9 := h9.st S35
 refine o_ld (hc := Blk.cell (i := 0) (h9.1) rfl) rfl rfl ?_
 refine o_ln rfl rfl ?_
 replace h12 := h12.st S35
 have l39 : x0.fields.length ≤ 9223372036854775807 := Nat.le_trans h12.len.2.1 h12.len.2.2
 have r38 : inI64 (x0.fields.length : Int) := rngNat l39
 refine o_mv rfl rfl (o_z ?_)
 obtain ⟨O40, S41, hz43, ha44, h42⟩ := Pkr.shut (x := x0) (l0 := 2) (l1 := 3) (by decide) h9 h12 r16
 have h45 := (h12.lend [3] (by decide)).shutS S41 hz43 ha44 [2] (by decide)
 obtain ⟨res46, hL47, hm⟩ := bs hm
 refine ewp_join (aft res46 (fun (s48 : (List U64)) (x49 : Unit) => [(6, (.slice (some ⟨g32, 0, none⟩) u25.length m27))]) (fun s48 x49 w' => ∃ O' : Lab, Bm w O0 w' O' ∧ Rw 4 w' O' 182 (.slice (some ⟨g32, 0, none⟩) u25.length m27) s48 ∧ Ob 2 w' O' (.pointer (some ⟨p0, 0, none⟩)) x0)) ?_ ?_
 ·
  refine ewp_block ?_
  replace hB := ((hB.st S8).st S35).st S41
  replace hx1 := ((hx1.st S8).st S35).st S41
  replace h36 := h36.st S41
  refine ewp_rng (σ := (List U64)) (X := Unit) (x0.fields.length) hL47 rfl l39 (fun (s48 : (List U64)) (x49 : Unit) => [(1, (.slice A3 x1.length c4)), (6, (.slice (some ⟨g32, 0, none⟩) u25.length m27)), (29, (.slice A13 x0.fields.length c14))]) _ (fun s48 x49 w' => ∃ O' : Lab, Bm w O0 w' O' ∧ Vb w' (Fr 0 w' O') (.slice A3 x1.length c4) x1 ∧ Rw 4 w' O' 182 (.slice (some ⟨g32, 0, none⟩) u25.length m27) s48 ∧ Vb w' (FrS [2] w' O') (.slice A13 x0.fields.length c14) x0.fields ∧ Ob 2 w' O' (.pointer (some ⟨p0, 0, none⟩)) x0) _ () ⟨O40, hB, hx1, h36, h45, h42⟩ ⟨rfl, rfl, rfl, rfl, rfl, trivial⟩ (fun _ _ => ⟨rfl, rfl⟩) (fun _ _ => ⟨rfl, trivial⟩) (fun _ _ _ ⟨O', hB, hx1, h63, h45, h42⟩ => ⟨O', hB, h63, h42⟩) ⟨rfl, rfl, rfl⟩ ⟨rfl, rfl⟩ ?_
  rintro k50 a51 s48 x49 w52 cc54 hx55 ⟨O53, hB, hx1, h63, h45, h42⟩ hf56 hret57 hbrk58
  have rk50 : inI64 (k50 : Int) := rngK hx55 l39
  refine ewp_seq (ewp_region (o_mv rfl rfl ?_))
  obtain ⟨b65, o66, ce67, hA68, hl69, hd70, rfl, r72, r73, r74, r75⟩ := h45.elem' hx55
  refine o_iaE (hA := hA68) (hj := rfl) (hlt := hl69) rfl rfl rfl ?_
  refine o_la (hl := rfl) (hc := hd70) rfl rfl ?_
  refine l_alloc 5 O53 rfl fun g76 w77 O78 S79 h80 => ?_
  replace h45 := h45.stS S79 id (fun _ _ => id)
  refine o_as rfl rfl (l_store h80 rfl rfl rfl (nle_b rfl) (allOne rfl) fun w81 S82 h80 => ?_)
  replace h80 : Lc 5 w81 O78 g76 177 [(.int .i64 a51.word), (.int .i64 a51.bit), (.int .i64 a51.width), (.int .i64 a51.size)] := h80
  replace h45 := h45.stS S82 (by decide) (by decide)
  refine o_z ?_
  refine ewp_seq (ewp_seq ?_)
  obtain ⟨y83, hy84, hf56⟩ := bs hf56
  refine ewp_join (fun l' w' => ∃ (x86 : Unit) (O' : Lab), subs l' [(1, (.slice A3 x1.length c4)), (6, (.slice (some ⟨g32, 0, none⟩) u25.length m27)), (7, (.int .i64 (k50 : Int))), (8, (.pointer (some ⟨g76, 0, none⟩))), (29, (.slice A13 x0.fields.length c14)), (30, (.int .i64 (x0.fields.length : Int))), (31, (.int .i64 (k50 : Int))), (49, (.bool y83))] ∧ Bm w O0 w' O' ∧ Vb w' (Fr 0 w' O') (.slice A3 x1.length c4) x1 ∧ Rw 4 w' O' 182 (.slice (some ⟨g32, 0, none⟩) u25.length m27) s48 ∧ Lc 5 w' O' g76 177 [(.int .i64 a51.word), (.int .i64 a51.bit), (.int .i64 a51.width), (.int .i64 a51.size)] ∧ Vb w' (FrS [2] w' O') (.slice A13 x0.fields.length c14) x0.fields ∧ Ob 2 w' O' (.pointer (some ⟨p0, 0, none⟩)) x0) ?_ ?_
  ·
   refine ewp_draw (· = w81) [(0, true), (1, true), (2, true), (3, true), (4, true), (5, true), (6, true), (7, true), (8, true), (9, true), (10, true), (11, true), (12, true), (13, true)] (by kernel_rfl) rfl (by kernel_rfl) rfl ?_
   refine h_mv rfl rfl rfl (h_mv rfl rfl rfl ?_)
   obtain ⟨a87, e88, hy84⟩ := bs hy84
   replace hx1 := (hx1.st S79).st S82
   obtain ⟨b89, o90, ce91, hA92, hl93, hd94, rfl, r96⟩ := hx1.elem' e88
   refine h_iaE (hA := hA92) (hj := rfl) (hlt := hl93) rfl rfl rfl rfl ?_
   refine h_ldA (hc := cat0 hd94) rfl rfl rfl ?_
   refine h_ltS rfl rfl rfl rfl (fun c97 => ?_) fun c97 => ?_
   ·
    replace hy84 := ip hy84 c97
    refine h_mv rfl rfl rfl (h_no rfl rfl rfl rfl rfl (h_no rfl rfl rfl rfl rfl (h_no rfl rfl rfl rfl rfl (h_no rfl rfl rfl rfl rfl (h_no rfl rfl rfl rfl rfl (h_no rfl rfl rfl rfl rfl (h_no rfl rfl rfl rfl rfl (h_pt rfl rfl rfl rfl (h_z ?_)))))))))
    obtain rfl := sm hy84
    replace hB := (hB.st S79).st S82
    replace h42 := (h42.st S79).st S82
    replace h63 := (h63.st S79).st S82
    exact ⟨(), _, ⟨rfl, rfl, rfl, rfl, rfl, rfl, rfl, rfl, trivial⟩, hB, hx1, h63, h80, h45, h42⟩
   replace hy84 := im hy84 c97
   refine h_mv rfl rfl rfl (hwp_o rfl (hwq_yes rfl rfl (g_mv rfl rfl (hwp_o rfl (hwq_yes rfl rfl (g_mv rfl rfl (hwp_o rfl (hwq_yes rfl rfl ?_))))))))
   obtain ⟨a98, e99, hy84⟩ := bs hy84
   obtain ⟨b100, o101, ce102, hA103, hl104, hd105, rfl, r107⟩ := hx1.elem' e99
   refine g_iaE (hA := hA103) (hj := rfl) (hlt := hl104) rfl rfl rfl ?_
   refine hwp_o rfl (hwq_yes rfl rfl (g_ldA (hc := cat0 hd105) rfl rfl ?_))
   refine hwp_o rfl (hwq_yes rfl rfl (g_fa rfl rfl (hwp_o rfl (hwq_yes rfl rfl (g_ldA (hc := Blk.cell (i := 3) (h80.1) rfl) rfl rfl ?_)))))
   refine hwp_o rfl (hwq_yes rfl rfl (hwq_split (fun _ _ => ev_geq rfl rfl) rfl (fun c108 => ?_) (fun c108 => ?_)))
   ·
    replace hy84 := ip hy84 c108
    refine h_pf rfl rfl rfl rfl (h_z ?_)
    obtain rfl := sm hy84
    replace hB := (hB.st S79).st S82
    replace h42 := (h42.st S79).st S82
    replace h63 := (h63.st S79).st S82
    exact ⟨(), _, ⟨rfl, rfl, rfl, rfl, rfl, rfl, rfl, rfl, trivial⟩, hB, hx1, h63, h80, h45, h42⟩
   replace hy84 := im hy84 c108
   refine h_pf rfl rfl rfl rfl (h_z ?_)
   obtain rfl := sm hy84
   replace hB := (hB.st S79).st S82
   replace h42 := (h42.st S79).st S82
   replace h63 := (h63.st S79).st S82
   exact ⟨(), _, ⟨rfl, rfl, rfl, rfl, rfl, rfl, rfl, rfl, trivial⟩, hB, hx1, h63, h80, h45, h42⟩
  replace hB := (hB.st S79).st S82
  replace hx1 := (hx1.st S79).st S82
  replace h42 := (h42.st S79).st S82
  replace h63 := (h63.st S79).st S82
  rintro l109 w110 ⟨x86, O111, hs112, hB, hx1, h63, h80, h45, h42⟩
  refine ewp_sub _ hs112 ?_
  refine ewp_cond rfl (fun c113 => ?_) (fun c113 => ?_)
  ·
   replace hf56 := ip hf56 c113
   refine ewp_seq (ewp_region (o_miE rfl rfl ?_))
   refine o_as rfl rfl (o_as rfl rfl (o_z ?_))
   refine ewp_ret ?_
   obtain rfl := sm hf56
   obtain rfl := hret57 _ rfl
   obtain rfl := sm (fin_ret hm)
   obtain ⟨O', hS', hz, hl⟩ := hE.leave (fun q => if q = 2 then i0 else 0) rfl hB
   exact ret2 rfl (res_tmp rfl) (res_tmp rfl) ⟨O', hS', _, _, (Ob.leave h42 hz (hl 2 (by decide) (by decide)) hx0.2), rfl, (Vb.mono (Vb.nil _ _) hz), (vErr (by decide))⟩
  replace hf56 := im' hf56 c113
  refine ewp_skip (ewp_drawX [] O111 ?_)
  refine x_pre (fuel := 1) [] [(0, true), (1, true), (2, true), (3, true), (4, true), (5, true), (6, true), (7, true), (8, true), (9, true), (10, true), (11, true), (12, true), (13, true), (14, true)] (by kernel_rfl) rfl ?_
  refine h_mv rfl rfl rfl (h_fa rfl rfl rfl (h_ldC (hc := fun w' ⟨O', hq⟩ => Blk.cell (i := 0) ((h80.st hq (by decide)).1) rfl) rfl rfl rfl ?_))
  obtain ⟨a114, e115, hf56⟩ := bs hf56
  obtain ⟨p117, x116⟩ := atI_some' e115
  obtain ⟨b118, o119, ce120, hA121, hF124, hl122, hd123, rfl⟩ := h63.elemF x116
  refine h_iaE (hA := hA121) (hj := (Int.toNat_of_nonneg p117).symm) (hlt := hl122) rfl rfl rfl rfl ?_
  refine h_ldC (hc := fun w' ⟨O', hq⟩ => cat0 (cellsAt_agree (hq.agree (i := 4) (by decide)) hF124 hd123)) rfl rfl rfl ?_
  refine h_mv rfl rfl rfl (h_mv rfl rfl rfl ?_)
  obtain ⟨a125, e126, hf56⟩ := bs hf56
  obtain ⟨b127, o128, ce129, hA130, hF133, hl131, hd132, rfl, r134⟩ := hx1.elem e126
  refine h_iaE (hA := hA130) (hj := rfl) (hlt := hl131) rfl rfl rfl rfl ?_
  refine h_ldC (hc := fun w' ⟨O', hq⟩ => cat0 (cellsAt_agree (hq.agree (i := 0) (by decide)) hF133 hd132)) rfl rfl rfl ?_
  refine h_cvU rfl rfl rfl ?_
  refine h_fa rfl rfl rfl (h_ldC (hc := fun w' ⟨O', hq⟩ => Blk.cell (i := 1) ((h80.st hq (by decide)).1) rfl) rfl rfl rfl ?_)
  obtain ⟨n135, e136, hf56⟩ := bs hf56
  refine h_ush (a := (BitVec.ofInt 64 a125)) (he := e136) rfl rfl rfl rfl ?_
  refine h_uor (a := a114) (b := n135) rfl rfl rfl rfl ?_
  obtain ⟨a137, e138, hf56⟩ := bs hf56
  obtain ⟨p140, x139⟩ := atI_some' e138
  obtain ⟨b141, o142, ce143, hA144, hF147, hl145, hd146, rfl⟩ := h63.elemF x139
  refine h_iaE (hA := hA144) (hj := (Int.toNat_of_nonneg p140).symm) (hlt := hl145) rfl rfl rfl rfl ?_
  refine hwp_nilT ?_
  refine x_one (i := 15) (by kernel_rfl) rfl ?_
  refine l_setE rfl h63 (a := (a114 ||| n135)) vU64 hA144 rfl rfl (lt_of_get x139) fun w148 S149 h63 => ?_
  replace h45 := h45.stS S149 (by decide) (by decide)
  refine x_end (by kernel_rfl) ?_
  refine x_nil (by kernel_rfl) ?_
  obtain rfl := sm hf56
  replace hB := hB.st S149
  replace hx1 := hx1.st S149
  replace h42 := h42.st S149
  exact show Exists _ from ⟨_, (), rfl, ⟨rfl, rfl, rfl, rfl, rfl, trivial⟩, _, hB, hx1, h63, h45, h42⟩
 replace hB := ((hB.st S8).st S35).st S41
 rintro l150 w151 ⟨s154, x155, rfl, hs153, O152, hB, h63, h42⟩
 replace hm := fin_done hm
 refine ewp_sub _ hs153 ?_
 refine ewp_seq (ewp_region (o_mv rfl rfl (o_as rfl rfl (o_as rfl rfl (o_z ?_)))))
 refine ewp_ret ?_
 obtain ⟨O156, S157, h63⟩ := h63.freeze
 obtain rfl := sm hm
 replace hB := hB.st S157
 obtain ⟨O', hS', hz, hl⟩ := hE.leave (fun q => if q = 2 then i0 else 0) rfl hB
 replace h42 := h42.st S157
 exact ret2 rfl (res_tmp rfl) (res_tmp rfl) ⟨O', hS', _, _, (Ob.leave h42 hz (hl 2 (by decide) (by decide)) hx0.2), rfl, (Vb.mono h63 hz), (vErr (show inI64 0 from by decide))⟩
noncomputable def m_pack_Packer_Unpack (x0 : Pkr) (x1 : List U64) : Option ((List Int) × Err) :=
  if (x1.length : Int) ≠ x0.words then (some (([] : List Int), (⟨2⟩ : Err))) else (bnd (mkI 8 (0 : Int) (x0.fields.length : Int)) fun u25 => bnd (m_slices_Clone_Luint64_uint64 x1) fun q38 => bnd (rng (ρ := (List Int) × Err) (fun (k60 : Nat) (a61 : PFd) (s58 : (List Int) × (List U64)) => bnd (m_pack_field_get a61 x1) fun q97 => bnd (s58.1[k60]?) fun a105 => bnd ((s58.1.set k60 q97)[k60]?) fun a117 => if a61.size ≤ a117 then (some (.ret (([] : List Int), (⟨2⟩ : Err)))) else (bnd (atI s58.2 a61.word) fun a128 => bnd (m_pack_field_mask a61) fun q139 => bnd (atI s58.2 a61.word) fun a146 => some (.next ((s58.1.set k60 q97), (s58.2.set (a61.word : Int).toNat (a128 &&& ~~~q139)))))) x0.fields 0 (u25, q38)) fun res56 => fin res56 fun (s163 : (List Int) × (List U64)) => bnd (rng (ρ := (List Int) × Err) (fun (k171 : Nat) (a172 : U64) (s169 : Unit) => bnd (s163.2[k171]?) fun a182 => if (a182.toNat : Int) ≠ ((0 : U64).toNat : Int) then (some (.ret (([] : List Int), (⟨2⟩ : Err)))) else (some (.next ()))) q38 0 ()) fun res167 => fin res167 fun (s196 : Unit) => some (s163.1, (⟨0⟩ : Err)))
theorem c_pack_Packer_Unpack {w : World} {O : Lab} {p0 i0 : Nat} {x0 : Pkr} (hx0 : Ob i0 w O (.pointer (some ⟨p0, 0, none⟩)) x0) {vx1 : Value} {x1 : List U64} (hx1 : Vb w (Fr 0 w O) vx1 x1) {r : (List Int) × Err} (hm : m_pack_Packer_Unpack x0 x1 = some r) :
    Fn Tryz.prog 86 [(.pointer (some ⟨p0, 0, none⟩)), vx1] w fun v w' => ∃ O', St (eT i0) w O w' O' ∧ ∃ v0 v1 : Value, Ob i0 w' O' (.pointer (some ⟨p0, 0, none⟩)) x0 ∧ v = .tuple #[v0, v1] ∧ Vb w' (Fr 0 w' O') v0 r.1 ∧ Vb w' (Fr 0 w' O') v1 r.2 := by
 obtain ⟨O0, hE, hz0, hl2⟩ := ent1 (w := w) (O := O) hx0.2
 have hx0' := Ob.leave hx0 hz0 hl2 (j := 2) (by decide)
 have hB : Bm w O0 w O0 := Bm.refl
 replace hx1 := hx1.mono hz0
 obtain ⟨A3, c4, rfl⟩ := hx1.form
 refine fn_enter Tryz.func86 rfl Tryz.ntmps86 rfl ?_
 unfold m_pack_Packer_Unpack at hm
 refine ewp_seq (ewp_region (o_as rfl rfl (o_as rfl rfl (o_z ?_))))
 refine ewp_seq (ewp_seq (ewp_region (o_mv rfl rfl (o_pn rfl rfl ?_))))
 refine o_z ?_
 refine ewp_false rfl (ewp_skip (ewp_seq (ewp_seq (ewp_region (o_mv rfl rfl (o_ln rfl rfl ?_))))))
 have l6 : x1.length ≤ 9223372036854775807 := Nat.le_trans hx1.len.2.1 hx1.len.2.2
 have r5 : inI64 (x1.length : Int) := rngNat l6
 refine o_mv rfl rfl (o_nc rfl rfl ?_)
 obtain ⟨O7, v11, S8, ha10, h9, h12, r16⟩ := Pkr.opn hx0' 2 3 (by decide)
 obtain ⟨A13, c14, rfl⟩ := h12.form
 refine o_fa rfl rfl (o_ld (hc := Blk.cell (i := 1) (h9.1) rfl) rfl rfl ?_)
 refine o_neS rfl rfl rfl (fun c17 => ?_) fun c17 => ?_
 ·
  replace hm := ip hm c17
  refine o_z ?_
  refine ewp_true rfl (ewp_seq (ewp_region (o_miE rfl rfl ?_)))
  refine o_as rfl rfl (o_as rfl rfl (o_z ?_))
  refine ewp_ret ?_
  obtain ⟨O18, S19, hz21, ha22, h20⟩ := Pkr.shut (x := x0) (l0 := 2) (l1 := 3) (by decide) h9 h12 r16
  obtain rfl := sm hm
  replace hB := (hB.st S8).st S19
  obtain ⟨O', hS', hz, hl⟩ := hE.leave (fun q => if q = 2 then i0 else 0) rfl hB
  exact ret2 rfl (res_tmp rfl) (res_tmp rfl) ⟨O', hS', _, _, (Ob.leave h20 hz (hl 2 (by decide) (by decide)) hx0.2), rfl, (Vb.mono (Vb.nil _ _) hz), (vErr (by decide))⟩
 replace hm := im hm c17
 refine o_z ?_
 refine ewp_false rfl (ewp_skip (ewp_seq (ewp_region (o_mv rfl rfl (o_nc rfl rfl (o_fa rfl rfl (o_ld (hc := Blk.cell (i := 0) (h9.1) rfl) rfl rfl ?_)))))))
 refine o_ln rfl rfl ?_
 have l24 : x0.fields.length ≤ 9223372036854775807 := Nat.le_trans h12.len.2.1 h12.len.2.2
 have r23 : inI64 (x0.fields.length : Int) := rngNat l24
 obtain ⟨u25, e26, hm⟩ := bs hm
 obtain ⟨m27, e28, e29, e30, e31⟩ := mkI_some e26
 refine l_make 4 (by decide) O7 (z0 := (0 : Int)) rfl rfl rfl rfl rfl e28 (vInt (show inI64 0 from by decide)) e29 e30 rfl fun g32 w33 O34 S35 h36 => ?_
 rw [← e31] at h36 ⊢
 refine o_as rfl rfl (o_z ?_)
 refine ewp_seq (ewp_region (o_mv rfl rfl ?_))
 obtain ⟨q38, e39, hm⟩ := bs hm
 replace hx1 := (hx1.st S8).st S35
 refine l_callRow 5 (by decide) (O := O34) (c_slices_Clone_Luint64_uint64 Fr.lt hx1 e39) rfl rfl fun A45 c46 w40 O41 S42 h43 => ?_
 refine o_as rfl rfl (o_z ?_)
 refine ewp_seq (ewp_seq (ewp_region (o_mv rfl rfl (o_nc rfl rfl (o_fa rfl rfl ?_)))))
 replace h9 := (h9.st S35).st S42
 refine o_ld (hc := Blk.cell (i := 0) (h9.1) rfl) rfl rfl ?_
 refine o_ln rfl rfl ?_
 replace h12 := (h12.st S35).st S42
 have l49 : x0.fields.length ≤ 9223372036854775807 := Nat.le_trans h12.len.2.1 h12.len.2.2
 have r48 : inI64 (x0.fields.length : Int) := rngNat l49
 refine o_mv rfl rfl (o_z ?_)
 obtain ⟨O50, S51, hz53, ha54, h52⟩ := Pkr.shut (x := x0) (l0 := 2) (l1 := 3) (by decide) h9 h12 r16
 have h55 := (h12.lend [3] (by decide)).shutS S51 hz53 ha54 [2] (by decide)
 obtain ⟨res56, hL57, hm⟩ := bs hm
 refine ewp_join (aft res56 (fun (s58 : (List Int) × (List U64)) (x59 : Unit) => [(6, (.slice (some ⟨g32, 0, none⟩) u25.length m27)), (7, (.slice A45 q38.length c46))]) (fun s58 x59 w' => ∃ O' : Lab, Bm w O0 w' O' ∧ Rw 4 w' O' 3 (.slice (some ⟨g32, 0, none⟩) u25.length m27) s58.1 ∧ Rw 5 w' O' 182 (.slice A45 q38.length c46) s58.2 ∧ Ob 2 w' O' (.pointer (some ⟨p0, 0, none⟩)) x0)) ?_ ?_
 ·
  refine ewp_block ?_
  replace hB := (((hB.st S8).st S35).st S42).st S51
  replace hx1 := (hx1.st S42).st S51
  replace h36 := (h36.st S42).st S51
  replace h43 := h43.st S51
  refine ewp_rng (σ := (List Int) × (List U64)) (X := Unit) (x0.fields.length) hL57 rfl l49 (fun (s58 : (List Int) × (List U64)) (x59 : Unit) => [(1, (.slice A3 x1.length c4)), (6, (.slice (some ⟨g32, 0, none⟩) u25.length m27)), (7, (.slice A45 q38.length c46)), (34, (.slice A13 x0.fields.length c14))]) _ (fun s58 x59 w' => ∃ O' : Lab, Bm w O0 w' O' ∧ Vb w' (Fr 0 w' O') (.slice A3 x1.length c4) x1 ∧ Rw 4 w' O' 3 (.slice (some ⟨g32, 0, none⟩) u25.length m27) s58.1 ∧ Rw 5 w' O' 182 (.slice A45 q38.length c46) s58.2 ∧ Vb w' (FrS [2] w' O') (.slice A13 x0.fields.length c14) x0.fields ∧ Ob 2 w' O' (.pointer (some ⟨p0, 0, none⟩)) x0) _ () ⟨O50, hB, hx1, h36, h43, h55, h52⟩ ⟨rfl, rfl, rfl, rfl, rfl, rfl, trivial⟩ (fun _ _ => ⟨rfl, rfl⟩) (fun _ _ => ⟨rfl, rfl, trivial⟩) (fun _ _ _ ⟨O', hB, hx1, h75, h77, h55, h52⟩ => ⟨O', hB, h75, h77, h52⟩) ⟨rfl, rfl, rfl⟩ ⟨rfl, rfl⟩ ?_
  rintro k60 a61 s58 x59 w62 cc64 hx65 ⟨O63, hB, hx1, h75, h77, h55, h52⟩ hf66 hret67 hbrk68
  have rk60 : inI64 (k60 : Int) := rngK hx65 l49
  refine ewp_seq (ewp_region (o_mv rfl rfl ?_))
  obtain ⟨b79, o80, ce81, hA82, hl83, hd84, rfl, r86, r87, r88, r89⟩ := h55.elem' hx65
  refine o_iaE (hA := hA82) (hj := rfl) (hlt := hl83) rfl rfl rfl ?_
  refine o_la (hl := rfl) (hc := hd84) rfl rfl ?_
  refine l_alloc 6 O63 rfl fun g90 w91 O92 S93 h94 => ?_
  replace h55 := h55.stS S93 id (fun _ _ => id)
  refine o_as rfl rfl (l_store h94 rfl rfl rfl (nle_b rfl) (allOne rfl) fun w95 S96 h94 => ?_)
  replace h94 : Lc 6 w95 O92 g90 177 [(.int .i64 a61.word), (.int .i64 a61.bit), (.int .i64 a61.width), (.int .i64 a61.size)] := h94
  replace h55 := h55.stS S96 (by decide) (by decide)
  refine o_z ?_
  refine ewp_seq (ewp_region (o_mv rfl rfl (o_mv rfl rfl (o_la (hl := rfl) (hc := (h94.1).cellsAt) rfl rfl ?_))))
  refine o_mv rfl rfl ?_
  obtain ⟨q97, e98, hf66⟩ := bs hf66
  replace hx1 := (hx1.st S93).st S96
  refine l_callA (O := O92) (A := All w95) (R := fun w' F v => Vb w' F v q97) (c_pack_field_get (fun _ h => h) (Vb.mono (F := Fr 0 w95 O92) (Vb.ofAgg (cs := [(.int .i64 a61.word), (.int .i64 a61.bit), (.int .i64 a61.width), (.int .i64 a61.size)]) (x := a61) rfl ⟨rfl, r86, r87, r88, r89⟩) Fr.lt) (Vb.mono (F := Fr 0 w95 O92) hx1 Fr.lt) e98) rfl rfl fun v103 w99 O100 S101 h102 => ?_
  obtain ⟨rfl, r104⟩ := h102.int
  replace h55 := h55.stS S101 id (fun _ _ => id)
  obtain ⟨a105, e106, hf66⟩ := bs hf66
  replace h75 := ((h75.st S93).st S96).st S101
  obtain ⟨b107, o108, ce109, hA110, hl111, hd112, rfl, r114⟩ := h75.elem e106
  refine o_iaE (hA := hA110) (hj := rfl) (hlt := hl111) rfl rfl rfl ?_
  refine l_setE rfl h75 (a := q97) (vInt r104) hA110 rfl rfl (lt_of_get e106) fun w115 S116 h75 => ?_
  replace h55 := h55.stS S116 (by decide) (by decide)
  refine o_z ?_
  refine ewp_seq (ewp_seq (ewp_draw (· = w115) [(0, true), (1, true), (2, true), (3, true), (4, true), (5, true), (6, true)] (by kernel_rfl) rfl (by kernel_rfl) rfl ?_))
  refine h_mv rfl rfl rfl (h_mv rfl rfl rfl ?_)
  obtain ⟨a117, e118, hf66⟩ := bs hf66
  obtain ⟨b119, o120, ce121, hA122, hl123, hd124, rfl, r126⟩ := h75.elem e118
  refine h_iaE (hA := hA122) (hj := rfl) (hlt := hl123) rfl rfl rfl rfl ?_
  refine h_ldA (hc := cat0 hd124) rfl rfl rfl ?_
  refine h_fa rfl rfl rfl ?_
  replace h94 := (h94.st S101).st S116
  refine h_ldA (hc := Blk.cell (i := 3) (h94.1) rfl) rfl rfl rfl ?_
  refine h_geS rfl rfl rfl rfl (fun c127 => ?_) fun c127 => ?_
  ·
   replace hf66 := ip hf66 c127
   refine h_z ?_
   refine ewp_true rfl (ewp_seq (ewp_region (o_miE rfl rfl ?_)))
   refine o_as rfl rfl (o_as rfl rfl (o_z ?_))
   refine ewp_ret ?_
   obtain rfl := sm hf66
   obtain rfl := hret67 _ rfl
   obtain rfl := sm (fin_ret hm)
   replace hB := (((hB.st S93).st S96).st S101).st S116
   obtain ⟨O', hS', hz, hl⟩ := hE.leave (fun q => if q = 2 then i0 else 0) rfl hB
   replace h52 := (((h52.st S93).st S96).st S101).st S116
   exact ret2 rfl (res_tmp rfl) (res_tmp rfl) ⟨O', hS', _, _, (Ob.leave h52 hz (hl 2 (by decide) (by decide)) hx0.2), rfl, (Vb.mono (Vb.nil _ _) hz), (vErr (by decide))⟩
  replace hf66 := im hf66 c127
  refine h_z ?_
  refine ewp_false rfl (ewp_skip (ewp_drawX [] O100 ?_))
  refine x_pre (fuel := 4) [] [(0, true), (1, true), (2, true), (3, true), (4, true), (5, true)] (by kernel_rfl) rfl ?_
  refine h_mv rfl rfl rfl (h_fa rfl rfl rfl (h_ldC (hc := fun w' ⟨O', hq⟩ => Blk.cell (i := 0) ((h94.st hq (by decide)).1) rfl) rfl rfl rfl ?_))
  obtain ⟨a128, e129, hf66⟩ := bs hf66
  obtain ⟨p131, x130⟩ := atI_some' e129
  replace h77 := (((h77.st S93).st S96).st S101).st S116
  obtain ⟨b132, o133, ce134, hA135, hF138, hl136, hd137, rfl⟩ := h77.elemF x130
  refine h_iaE (hA := hA135) (hj := (Int.toNat_of_nonneg p131).symm) (hlt := hl136) rfl rfl rfl rfl ?_
  refine h_ldC (hc := fun w' ⟨O', hq⟩ => cat0 (cellsAt_agree (hq.agree (i := 5) (by decide)) hF138 hd137)) rfl rfl rfl ?_
  refine h_laB (hl := rfl) (hb := fun w' ⟨O', hq⟩ => ((h94.st hq (by decide)).1).cellsAt) rfl rfl rfl ?_
  refine hwp_nilT ?_
  refine x_one (i := 6) (by kernel_rfl) rfl ?_
  obtain ⟨q139, e140, hf66⟩ := bs hf66
  refine l_callA (O := O100) (A := All w115) (R := fun w' F v => Vb w' F v q139) (c_pack_field_mask (fun _ h => h) (Vb.mono (F := Fr 0 w115 O100) (Vb.ofAgg (cs := [(.int .i64 a61.word), (.int .i64 a61.bit), (.int .i64 a61.width), (.int .i64 a61.size)]) (x := a61) rfl ⟨rfl, r86, r87, r88, r89⟩) Fr.lt) e140) rfl rfl fun v145 w141 O142 S143 h144 => ?_
  obtain rfl := h144.u64
  have hZ := S143.lst [] (fun _ h => h.elim)
  replace h55 := h55.stS S143 id (fun _ _ => id)
  refine x_go [] hZ (by kernel_rfl) ?_
  refine x_pre (fuel := 1) [] [(7, true), (8, true)] (by kernel_rfl) rfl ?_
  refine h_uns (a := a128) (b := q139) rfl rfl rfl rfl ?_
  obtain ⟨a146, e147, hf66⟩ := bs hf66
  obtain ⟨p149, x148⟩ := atI_some' e147
  replace h77 := h77.st S143
  obtain ⟨b150, o151, ce152, hA153, hF156, hl154, hd155, rfl⟩ := h77.elemF x148
  refine h_iaE (hA := hA153) (hj := (Int.toNat_of_nonneg p149).symm) (hlt := hl154) rfl rfl rfl rfl ?_
  refine hwp_nilT ?_
  refine x_one (i := 9) (by kernel_rfl) rfl ?_
  refine l_setE rfl h77 (a := (a128 &&& ~~~q139)) vU64 hA153 rfl rfl (lt_of_get x148) fun w157 S158 h77 => ?_
  replace h55 := h55.stS S158 (by decide) (by decide)
  refine x_end (by kernel_rfl) ?_
  refine x_nil (by kernel_rfl) ?_
  obtain rfl := sm hf66
  replace hB := (((((hB.st S93).st S96).st S101).st S116).st S143).st S158
  replace hx1 := (((hx1.st S101).st S116).st S143).st S158
  replace h52 := (((((h52.st S93).st S96).st S101).st S116).st S143).st S158
  replace h75 := (h75.st S143).st S158
  exact show Exists _ from ⟨_, (), rfl, ⟨rfl, rfl, rfl, rfl, rfl, rfl, trivial⟩, _, hB, hx1, h75, h77, h55, h52⟩
 replace hB := (((hB.st S8).st S35).st S42).st S51
 rintro l159 w160 ⟨s163, x164, rfl, hs162, O161, hB, h75, h77, h52⟩
 replace hm := fin_done hm
 refine ewp_sub _ hs162 ?_
 refine ewp_seq (ewp_seq (ewp_region (o_mv rfl rfl (o_ln rfl rfl ?_))))
 have l166 : q38.length ≤ 9223372036854775807 := Nat.le_trans h77.len.2.1 h77.len.2.2
 have r165 : inI64 (q38.length : Int) := rngNat l166
 refine o_mv rfl rfl (o_z ?_)
 obtain ⟨res167, hL168, hm⟩ := bs hm
 refine ewp_join (aft res167 (fun (s169 : Unit) (x170 : Unit) => [(6, (.slice (some ⟨g32, 0, none⟩) u25.length m27))]) (fun s169 x170 w' => ∃ O' : Lab, Bm w O0 w' O' ∧ Rw 4 w' O' 3 (.slice (some ⟨g32, 0, none⟩) u25.length m27) s163.1 ∧ Ob 2 w' O' (.pointer (some ⟨p0, 0, none⟩)) x0)) ?_ ?_
 ·
  refine ewp_block (ewp_rng (σ := Unit) (X := Unit) (q38.length) hL168 rfl l166 (fun (s169 : Unit) (x170 : Unit) => [(6, (.slice (some ⟨g32, 0, none⟩) u25.length m27)), (65, (.slice A45 q38.length c46))]) _ (fun s169 x170 w' => ∃ O' : Lab, Bm w O0 w' O' ∧ Rw 4 w' O' 3 (.slice (some ⟨g32, 0, none⟩) u25.length m27) s163.1 ∧ Rw 5 w' O' 182 (.slice A45 q38.length c46) s163.2 ∧ Ob 2 w' O' (.pointer (some ⟨p0, 0, none⟩)) x0) _ () ⟨O161, hB, h75, h77, h52⟩ ⟨rfl, rfl, rfl, rfl, trivial⟩ (fun _ _ => ⟨rfl, rfl⟩) (fun _ _ => ⟨rfl, trivial⟩) (fun _ _ _ ⟨O', hB, h75, h77, h52⟩ => ⟨O', hB, h75, h52⟩) ⟨rfl, rfl, rfl⟩ ⟨rfl, rfl⟩ ?_)
  rintro k171 a172 s169 x170 w173 cc175 hx176 ⟨O174, hB, h75, h77, h52⟩ hf177 hret178 hbrk179
  have rk171 : inI64 (k171 : Int) := rngK hx176 l166
  refine ewp_seq (ewp_region ?_)
  obtain ⟨a182, e183, hf177⟩ := bs hf177
  obtain ⟨b184, o185, ce186, hA187, hl188, hd189, rfl⟩ := h77.elem e183
  refine o_iaE (hA := hA187) (hj := rfl) (hlt := hl188) rfl rfl rfl ?_
  refine o_ld (hc := cat0 hd189) rfl rfl ?_
  refine o_as rfl rfl (o_z ?_)
  refine ewp_seq (ewp_region (o_mv rfl rfl (o_neS rfl rfl rfl (fun c191 => ?_) fun c191 => ?_)))
  ·
   replace hf177 := ip hf177 c191
   refine o_z ?_
   refine ewp_true rfl (ewp_seq (ewp_region (o_miE rfl rfl ?_)))
   refine o_as rfl rfl (o_as rfl rfl (o_z ?_))
   refine ewp_ret ?_
   obtain rfl := sm hf177
   obtain rfl := hret178 _ rfl
   obtain rfl := sm (fin_ret hm)
   obtain ⟨O', hS', hz, hl⟩ := hE.leave (fun q => if q = 2 then i0 else 0) rfl hB
   exact ret2 rfl (res_tmp rfl) (res_tmp rfl) ⟨O', hS', _, _, (Ob.leave h52 hz (hl 2 (by decide) (by decide)) hx0.2), rfl, (Vb.mono (Vb.nil _ _) hz), (vErr (by decide))⟩
  replace hf177 := im hf177 c191
  refine o_z ?_
  refine ewp_false rfl (ewp_skip ?_)
  obtain rfl := sm hf177
  exact show Exists _ from ⟨_, (), rfl, ⟨rfl, rfl, rfl, rfl, trivial⟩, _, hB, h75, h77, h52⟩
 rintro l192 w193 ⟨s196, x197, rfl, hs195, O194, hB, h75, h52⟩
 replace hm := fin_done hm
 refine ewp_sub _ hs195 ?_
 refine ewp_seq (ewp_region (o_mv rfl rfl (o_as rfl rfl (o_as rfl rfl (o_z ?_)))))
 refine ewp_ret ?_
 obtain ⟨O198, S199, h75⟩ := h75.freeze
 obtain rfl := sm hm
 replace hB := hB.st S199
 obtain ⟨O', hS', hz, hl⟩ := hE.leave (fun q => if q = 2 then i0 else 0) rfl hB
 replace h52 := h52.st S199
 exact ret2 rfl (res_tmp rfl) (res_tmp rfl) ⟨O', hS', _, _, (Ob.leave h52 hz (hl 2 (by decide) (by decide)) hx0.2), rfl, (Vb.mono h75 hz), (vErr (show inI64 0 from by decide))⟩
noncomputable def m_pack_Packer_Hash (x0 : Pkr) (x1 : List U64) : Option Int :=
  bnd (rng (ρ := Int) (fun (k13 : Nat) (a14 : U64) (s11 : U64) => bnd (shrU ((s11 ^^^ a14) * (13787848793156543929 : U64)) 29) fun n31 => some (.next (((s11 ^^^ a14) * (13787848793156543929 : U64)) ^^^ n31))) x1 0 ((BitVec.ofInt 64 (x1.length : Int)) + (11400714819323198485 : U64))) fun res9 => fin res9 fun (s37 : U64) => bnd (shrU s37 2) fun n39 => some n39.toInt
theorem c_pack_Packer_Hash {w : World} {O : Lab} {p0 i0 : Nat} {x0 : Pkr} (hx0 : Ob i0 w O (.pointer (some ⟨p0, 0, none⟩)) x0) {vx1 : Value} {x1 : List U64} (hx1 : Vb w (Fr 0 w O) vx1 x1) {r : Int} (hm : m_pack_Packer_Hash x0 x1 = some r) :
    Fn Tryz.prog 108 [(.pointer (some ⟨p0, 0, none⟩)), vx1] w fun v w' => ∃ O', St (eT i0) w O w' O' ∧ Ob i0 w' O' (.pointer (some ⟨p0, 0, none⟩)) x0 ∧ Vb w' (Fr 0 w' O') v r := by
 obtain ⟨O0, hE, hz0, hl2⟩ := ent1 (w := w) (O := O) hx0.2
 have hx0' := Ob.leave hx0 hz0 hl2 (j := 2) (by decide)
 have hB : Bm w O0 w O0 := Bm.refl
 replace hx1 := hx1.mono hz0
 obtain ⟨A3, c4, rfl⟩ := hx1.form
 refine fn_enter Tryz.func108 rfl Tryz.ntmps108 rfl ?_
 unfold m_pack_Packer_Hash at hm
 refine ewp_seq (ewp_region (o_as rfl rfl (o_z ?_)))
 refine ewp_seq (ewp_seq (ewp_region (o_mv rfl rfl (o_pn rfl rfl ?_))))
 refine o_z ?_
 refine ewp_false rfl (ewp_skip (ewp_seq (ewp_region (o_mv rfl rfl (o_ln rfl rfl ?_)))))
 have l6 : x1.length ≤ 9223372036854775807 := Nat.le_trans hx1.len.2.1 hx1.len.2.2
 have r5 : inI64 (x1.length : Int) := rngNat l6
 refine o_cvU rfl rfl ?_
 refine o_uad (a := (BitVec.ofInt 64 (x1.length : Int))) (b := (11400714819323198485 : U64)) rfl rfl rfl ?_
 refine o_as rfl rfl (o_z ?_)
 refine ewp_seq (ewp_seq (ewp_region (o_mv rfl rfl (o_ln rfl rfl ?_))))
 have l8 : x1.length ≤ 9223372036854775807 := Nat.le_trans hx1.len.2.1 hx1.len.2.2
 have r7 : inI64 (x1.length : Int) := rngNat l8
 refine o_mv rfl rfl (o_z ?_)
 obtain ⟨res9, hL10, hm⟩ := bs hm
 refine ewp_join (aft res9 (fun (s11 : U64) (x12 : Unit) => [(5, (.int .u64 s11.toNat))]) (fun s11 x12 w' => ∃ O' : Lab, Bm w O0 w' O' ∧ Ob 2 w' O' (.pointer (some ⟨p0, 0, none⟩)) x0)) ?_ ?_
 ·
  refine ewp_block (ewp_rng (σ := U64) (X := Unit) (x1.length) hL10 rfl l8 (fun (s11 : U64) (x12 : Unit) => [(5, (.int .u64 s11.toNat)), (14, (.slice A3 x1.length c4))]) _ (fun s11 x12 w' => ∃ O' : Lab, Bm w O0 w' O' ∧ Vb w' (Fr 0 w' O') (.slice A3 x1.length c4) x1 ∧ Ob 2 w' O' (.pointer (some ⟨p0, 0, none⟩)) x0) _ () ⟨O0, hB, hx1, hx0'⟩ ⟨rfl, rfl, rfl, rfl, trivial⟩ (fun _ _ => ⟨rfl, rfl⟩) (fun _ _ => ⟨rfl, trivial⟩) (fun _ _ _ ⟨O', hB, hx1, hx0'⟩ => ⟨O', hB, hx0'⟩) ⟨rfl, rfl, rfl⟩ ⟨rfl, rfl⟩ ?_)
  rintro k13 a14 s11 x12 w15 cc17 hx18 ⟨O16, hB, hx1, hx0'⟩ hf19 hret20 hbrk21
  have rk13 : inI64 (k13 : Int) := rngK hx18 l8
  refine ewp_seq (ewp_region ?_)
  obtain ⟨b24, o25, ce26, hA27, hl28, hd29, rfl⟩ := hx1.elem' hx18
  refine o_iaE (hA := hA27) (hj := rfl) (hlt := hl28) rfl rfl rfl ?_
  refine o_ld (hc := cat0 hd29) rfl rfl ?_
  refine o_as rfl rfl (o_z ?_)
  refine ewp_seq (ewp_region (o_mv rfl rfl (o_mv rfl rfl (o_uxo (a := s11) (b := a14) rfl rfl rfl ?_))))
  refine o_as rfl rfl (o_z ?_)
  refine ewp_seq (ewp_region (o_mv rfl rfl (o_uml (a := (s11 ^^^ a14)) (b := (13787848793156543929 : U64)) rfl rfl rfl ?_)))
  refine o_as rfl rfl (o_z ?_)
  refine ewp_region (o_mv rfl rfl (o_mv rfl rfl ?_))
  obtain ⟨n31, e32, hf19⟩ := bs hf19
  refine o_usr (a := ((s11 ^^^ a14) * (13787848793156543929 : U64))) (he := e32) rfl rfl rfl ?_
  refine o_uxo (a := ((s11 ^^^ a14) * (13787848793156543929 : U64))) (b := n31) rfl rfl rfl ?_
  refine o_as rfl rfl (o_z ?_)
  obtain rfl := sm hf19
  exact show Exists _ from ⟨_, (), rfl, ⟨rfl, rfl, rfl, rfl, trivial⟩, _, hB, hx1, hx0'⟩
 rintro l33 w34 ⟨s37, x38, rfl, hs36, O35, hB, hx0'⟩
 replace hm := fin_done hm
 refine ewp_sub _ hs36 ?_
 refine ewp_seq (ewp_region (o_mv rfl rfl ?_))
 obtain ⟨n39, e40, hm⟩ := bs hm
 refine o_usr (a := s37) (he := e40) rfl rfl rfl ?_
 refine o_cvI (a := n39) rfl rfl ?_
 refine o_as rfl rfl (o_z ?_)
 refine ewp_ret ?_
 obtain rfl := sm hm
 obtain ⟨O', hS', hz, hl⟩ := hE.leave (fun q => if q = 2 then i0 else 0) rfl hB
 exact ret1v rfl (res_tmp rfl) ⟨O', hS', (Ob.leave hx0' hz (hl 2 (by decide) (by decide)) hx0.2), (vInt (toIntR _))⟩
noncomputable def m_slices_Equal_Luint64_uint64 (x0 : List U64) (x1 : List U64) : Option Bool :=
  if (x0.length : Int) ≠ (x1.length : Int) then (some false) else (bnd (rng (ρ := Bool) (fun (k18 : Nat) (a19 : U64) (s16 : Unit) => bnd (x1[k18]?) fun a36 => if (a19.toNat : Int) ≠ (a36.toNat : Int) then (some (.ret false)) else (some (.next ()))) x0 0 ()) fun res14 => fin res14 fun (s50 : Unit) => some true)
theorem c_slices_Equal_Luint64_uint64 {w : World} {A : Nat → Prop} (hA : ∀ k, A k → k < w.heap.size) {vx0 : Value} {x0 : List U64} (hx0 : Vb w A vx0 x0) {vx1 : Value} {x1 : List U64} (hx1 : Vb w A vx1 x1) {r : Bool} (hm : m_slices_Equal_Luint64_uint64 x0 x1 = some r) :
    Fn Tryz.prog 109 [vx0, vx1] w fun v w' => Ext w w' ∧ Vb w' (upA A w w') v r := by
 obtain ⟨O, hB, hA0⟩ := enter hA
 replace hx0 := hx0.mono hA0
 obtain ⟨A3, c4, rfl⟩ := hx0.form
 replace hx1 := hx1.mono hA0
 obtain ⟨A5, c6, rfl⟩ := hx1.form
 refine fn_enter Tryz.func109 rfl Tryz.ntmps109 rfl ?_
 unfold m_slices_Equal_Luint64_uint64 at hm
 refine ewp_seq (ewp_region (o_as rfl rfl (o_z ?_)))
 refine ewp_seq (ewp_seq (ewp_region (o_mv rfl rfl (o_ln rfl rfl ?_))))
 have l8 : x0.length ≤ 9223372036854775807 := Nat.le_trans hx0.len.2.1 hx0.len.2.2
 have r7 : inI64 (x0.length : Int) := rngNat l8
 refine o_mv rfl rfl (o_ln rfl rfl ?_)
 have l10 : x1.length ≤ 9223372036854775807 := Nat.le_trans hx1.len.2.1 hx1.len.2.2
 have r9 : inI64 (x1.length : Int) := rngNat l10
 refine o_neS rfl rfl rfl (fun c11 => ?_) fun c11 => ?_
 ·
  replace hm := ip hm c11
  refine o_z ?_
  refine ewp_true rfl (ewp_seq (ewp_region (o_as rfl rfl (o_z ?_))))
  refine ewp_ret ?_
  obtain rfl := sm hm
  exact ret1v rfl (res_tmp rfl) ⟨hB.ext, vBool⟩
 replace hm := im hm c11
 refine o_z ?_
 refine ewp_false rfl (ewp_skip (ewp_seq (ewp_seq (ewp_region (o_mv rfl rfl (o_ln rfl rfl ?_))))))
 have l13 : x0.length ≤ 9223372036854775807 := Nat.le_trans hx0.len.2.1 hx0.len.2.2
 have r12 : inI64 (x0.length : Int) := rngNat l13
 refine o_mv rfl rfl (o_z ?_)
 obtain ⟨res14, hL15, hm⟩ := bs hm
 refine ewp_join (aft res14 (fun (s16 : Unit) (x17 : Unit) => []) (fun s16 x17 w' => ∃ O' : Lab, Bs w A w' O')) ?_ ?_
 ·
  refine ewp_block (ewp_rng (σ := Unit) (X := Unit) (x0.length) hL15 rfl l13 (fun (s16 : Unit) (x17 : Unit) => [(0, (.slice A3 x0.length c4)), (1, (.slice A5 x1.length c6))]) _ (fun s16 x17 w' => ∃ O' : Lab, Bs w A w' O' ∧ Vb w' (Fr 0 w' O') (.slice A3 x0.length c4) x0 ∧ Vb w' (Fr 0 w' O') (.slice A5 x1.length c6) x1) _ () ⟨O, hB, hx0, hx1⟩ ⟨rfl, rfl, rfl, rfl, trivial⟩ (fun _ _ => ⟨rfl, rfl⟩) (fun _ _ => trivial) (fun _ _ _ ⟨O', hB, hx0, hx1⟩ => ⟨O', hB⟩) ⟨rfl, rfl, rfl⟩ ⟨rfl, rfl⟩ ?_)
  rintro k18 a19 s16 x17 w20 cc22 hx23 ⟨O21, hB, hx0, hx1⟩ hf24 hret25 hbrk26
  have rk18 : inI64 (k18 : Int) := rngK hx23 l13
  refine ewp_seq (ewp_region (o_mv rfl rfl (o_as rfl rfl (o_z ?_))))
  refine ewp_seq (ewp_draw (· = w20) [(0, true), (1, true), (2, true), (3, true), (4, true), (5, true), (6, true), (7, true), (8, true)] (by kernel_rfl) rfl (by kernel_rfl) rfl ?_)
  refine h_mv rfl rfl rfl (h_mv rfl rfl rfl ?_)
  obtain ⟨b29, o30, ce31, hA32, hl33, hd34, rfl⟩ := hx0.elem' hx23
  refine h_iaE (hA := hA32) (hj := rfl) (hlt := hl33) rfl rfl rfl rfl ?_
  refine h_ldA (hc := cat0 hd34) rfl rfl rfl ?_
  refine h_mv rfl rfl rfl (h_mv rfl rfl rfl ?_)
  obtain ⟨a36, e37, hf24⟩ := bs hf24
  obtain ⟨b38, o39, ce40, hA41, hl42, hd43, rfl⟩ := hx1.elem' e37
  refine h_iaE (hA := hA41) (hj := rfl) (hlt := hl42) rfl rfl rfl rfl ?_
  refine h_ldA (hc := cat0 hd43) rfl rfl rfl ?_
  refine h_neS rfl rfl rfl rfl (fun c45 => ?_) fun c45 => ?_
  ·
   replace hf24 := ip hf24 c45
   refine h_z ?_
   refine ewp_true rfl (ewp_seq (ewp_region (o_as rfl rfl (o_z ?_))))
   refine ewp_ret ?_
   obtain rfl := sm hf24
   obtain rfl := hret25 _ rfl
   obtain rfl := sm (fin_ret hm)
   exact ret1v rfl (res_tmp rfl) ⟨hB.ext, vBool⟩
  replace hf24 := im hf24 c45
  refine h_z ?_
  refine ewp_false rfl (ewp_skip ?_)
  obtain rfl := sm hf24
  exact show Exists _ from ⟨_, (), rfl, ⟨rfl, rfl, rfl, rfl, trivial⟩, _, hB, hx0, hx1⟩
 rintro l46 w47 ⟨s50, x51, rfl, hs49, O48, hB⟩
 replace hm := fin_done hm
 refine ewp_sub _ hs49 ?_
 refine ewp_seq (ewp_region (o_as rfl rfl (o_z ?_)))
 refine ewp_ret ?_
 obtain rfl := sm hm
 exact ret1v rfl (res_tmp rfl) ⟨hB.ext, vBool⟩
end
section
open Go Go.RowKit
class TMap (P : Program) (t : TypeId) (k e : outParam TypeId) : Prop where eq : P.underlying t = some (.map k e)
/-- Plain data as keys. -/
class MKey (K : Type) where
  dec : DecidableEq K
  enc : K → Value
  desc : TypeDesc
  key : ∀ a, MapKept.IsKey desc (enc a)
  inj : ∀ a b, enc a = enc b → a = b
class TKey (P : Program) (t : TypeId) (K : Type) [MKey K] : Prop where eq : P.underlying t = some (MKey.desc K)
instance : MKey Int where
  dec := inferInstance
  enc a := .int .i64 a
  desc := .int .i64
  key _ := rfl
  inj _ _ h := by injection h
section
variable {K V : Type} [MKey K]
instance keyDec : DecidableEq K := MKey.dec
def mhas : List (K × V) → K → Bool
  | [], _ => false
  | p :: r, k => if p.1 = k then true else mhas r k
def mget (z : V) : List (K × V) → K → V
  | [], _ => z
  | p :: r, k => if p.1 = k then p.2 else mget z r k
def mput : List (K × V) → K → V → List (K × V)
  | [], k, v => [(k, v)]
  | p :: r, k, v => if p.1 = k then (k, v) :: r else p :: mput r k v
def midx : List (K × V) → K → Option Nat
  | [], _ => none
  | p :: r, k => if p.1 = k then some 0 else (midx r k).map (· + 1)
theorem find_spec (a : K) : ∀ (es : List MapEntry) (x : List (K × V)) (i : Nat), es.map (·.key) = x.map (fun p => MKey.enc p.1) →
    (midx x a = none ∧ Instr.findNow (MKey.desc K) (MKey.enc a) es i = some none ∧ mhas x a = false ∧ (∀ z, mget z x a = z) ∧ ∀ v, mput x a v = x ++ [(a, v)]) ∨
    ∃ j e p, midx x a = some j ∧ es[j]? = some e ∧ x[j]? = some p ∧ Instr.findNow (MKey.desc K) (MKey.enc a) es i = some (some (i + j, e.val)) ∧ e.key = MKey.enc a ∧ mhas x a = true ∧ (∀ z, mget z x a = p.2) ∧ ∀ v, mput x a v = x.set j (a, v)
  | [], [], _, _ => .inl ⟨rfl, rfl, rfl, fun _ => rfl, fun _ => rfl⟩
  | [], _ :: _, _, h => by simp at h
  | _ :: _, [], _, h => by simp at h
  | e :: es, p :: x, i, h => by
    rw [List.map_cons, List.map_cons] at h
    injection h with h1 h2
    obtain ⟨r, hr, hiff⟩ := MapKept.sameNow_of_keys (MKey.key a) (MKey.key p.1)
    by_cases hp : p.1 = a
    · have : r = true := hiff.2 (by rw [hp])
      subst this
      refine .inr ⟨0, e, p, by simp [midx, hp], rfl, rfl, ?_, by rw [h1, hp], by simp [mhas, hp], fun z => by simp [mget, hp], fun v => by simp [mput, hp]⟩
      simp [Instr.findNow, h1, hr]
    · have : r = false := by
        cases r with
        | false => rfl
        | true => exact absurd (MKey.inj _ _ (hiff.1 rfl)).symm hp
      subst this
      rcases find_spec a es x (i + 1) h2 with ⟨g0, g1, g2, g3, g4⟩ | ⟨j, e', p', g0, g1, g2, g3, g4, g5, g6, g7⟩
      · exact .inl ⟨by simp [midx, hp, g0], by simp [Instr.findNow, h1, hr, g1], by simp [mhas, hp, g2], fun z => by simp [mget, hp, g3], fun v => by simp [mput, hp, g4]⟩
      · refine .inr ⟨j + 1, e', p', by simp [midx, hp, g0], by simpa using g1, by simpa using g2, ?_, g4, by simp [mhas, hp, g5], fun z => by simp [mget, hp, g6], fun v => by simp [mput, hp, g7]⟩
        simp [Instr.findNow, h1, hr, g3]; omega
end
/-- What a look-up yields. -/
def LkV (d : TypeDesc) (z : Value) (w : World) (r : Nat) (key v : Value) (b : Bool) : Prop := ∃ es ck a, w.heap[r]? = some (.map es ck) ∧ Instr.findNow d key es.toList 0 = some a ∧ v = (match a with | some p => p.2 | none => z) ∧ b = a.isSome
theorem LkV.keep {d : TypeDesc} {z : Value} {w w' : World} {r : Nat} {key v : Value} {b : Bool} (h : LkV d z w r key v b) (e : w'.heap[r]? = w.heap[r]?) : LkV d z w' r key v b := by
  obtain ⟨es, ck, a, h1, h2⟩ := h
  exact ⟨es, ck, a, e.trans h1, h2⟩
section
variable {P : Program} {l : Env} {w : World} {dst : Option Tmp} {ty : TypeId} {pos : String} {aft : Array Edge}
theorem ev_lk {K : Type} [MKey K] {t k e : TypeId} [ht : TMap P t k e] [hk : TKey P k K] {z : Value} {size bytes : Nat} [TInfo P e z size bytes] {x y : Operand} {r : Nat} {a : K} {v : Value} {b : Bool} (hx : opv l x = some (.map (some r))) (hy : opv l y = some (MKey.enc a)) (hv : LkV (MKey.desc K) z w r (MKey.enc a) v b) :
    Ev P ⟨dst, .lookup t x y false, ty, pos, aft, none⟩ l w v := fun _ _ d ha => by
  obtain ⟨es, ck, q, h1, h2, h3, h4⟩ := hv
  have hb : (dr w d).heap[r]? = some (.map es ck) := h1
  subst h3
  cases q with
  | none => simp [execOp, ha.eval hx, ha.eval hy, Instr.lookup, run_underlying ht.eq, MapKept.run_getObj_map hb, MapKept.run_checkKey hk.eq (MKey.key a), MapKept.run_findKey hk.eq h2, Result.andThen, run_zero (P := P) (t := e)]
  | some p => simp [execOp, ha.eval hx, ha.eval hy, Instr.lookup, run_underlying ht.eq, MapKept.run_getObj_map hb, MapKept.run_checkKey hk.eq (MKey.key a), MapKept.run_findKey hk.eq h2, Result.andThen]
end
/-- Entries behind an update. -/
def putEs (es : List MapEntry) (ck : Nat) (key v : Value) : Option Nat → List MapEntry
  | none => es ++ [{ key := key, val := v, born := ck }]
  | some j => es.modify j fun e => { e with key := key, val := v }
section
variable {P : Program} {n : Nat} {ops : Array Oper} {Q : Post} {rest : List Oper} {l : Env} {w : World} {d : Tmp} {ty : TypeId} {pos : String} {aft : Array Edge}
theorem owp_mput {K V : Type} [MKey K] {t k e : TypeId} [ht : TMap P t k e] [hk : TKey P k K] {x y u : Operand} {r ck : Nat} {a : K} {v : Value} {es : List MapEntry} {xs : List (K × V)} (hb : w.heap[r]? = some (.map es.toArray ck)) (hks : es.map (·.key) = xs.map (fun p => MKey.enc p.1)) (hx : opv l x = some (.map (some r))) (hy : opv l y = some (MKey.enc a)) (hu : opv l u = some v)
    (h : ∀ w' ck', w'.os = w.os → w'.tape = w.tape → w'.output = w.output → w'.heap.size = w.heap.size → w'.heap[r]? = some (.map (putEs es ck (MKey.enc a) v (midx xs a)).toArray ck') → (∀ q, q ≠ r → w'.heap[q]? = w.heap[q]?) → owp P n ops Q rest l w') : owp P n ops Q (⟨none, .mapUpdate t x y u, ty, pos, aft, none⟩ :: rest) l w := fun ac d ha => by
  refine wpList_plain rfl fun K' hK => ?_
  have hbd : (dr w d).heap[r]? = some (.map es.toArray ck) := hb
  unfold Oper.wp
  rcases find_spec a es xs 0 hks with ⟨g0, g1, _⟩ | ⟨j, e', p, g0, g1, g2, g3, g4, _⟩
  · have hr : (execOp ac.eval ⟨none, .mapUpdate t x y u, ty, pos, aft, none⟩).run P (dr w d) = .ok .skip { (dr w d) with heap := (dr w d).heap.setIfInBounds r (.map (es.toArray.push { key := MKey.enc a, val := v, born := ck }) (ck + 1)) } := by
      simp [execOp, ha.eval hx, ha.eval hy, ha.eval hu, Instr.mapUpdate, run_underlying ht.eq, MapKept.run_getObj_map hbd, MapKept.run_checkKey hk.eq (MKey.key a), MapKept.run_findKey hk.eq g1, MapKept.run_setObj_map _ hbd, Result.andThen]
    rw [hr]
    refine hK _ _ (h { w with heap := w.heap.setIfInBounds r (.map (es.toArray.push { key := MKey.enc a, val := v, born := ck }) (ck + 1)) } (ck + 1) rfl rfl rfl (by simp) ?_ (fun q hq => (MapKept.heap_set hb).2 q hq) _ d ha)
    rw [g0]
    simpa [putEs] using (MapKept.heap_set hb).1
  · have hj : es.toArray[j]? = some e' := by simpa using g1
    have hj' : es[j]? = some e' := g1
    rw [Nat.zero_add] at g3
    have hr : (execOp ac.eval ⟨none, .mapUpdate t x y u, ty, pos, aft, none⟩).run P (dr w d) = .ok .skip { (dr w d) with heap := (dr w d).heap.setIfInBounds r (.map (es.toArray.modify j fun e => { e with key := MKey.enc a, val := v }) ck) } := by
      simp [execOp, ha.eval hx, ha.eval hy, ha.eval hu, Instr.mapUpdate, run_underlying ht.eq, MapKept.run_getObj_map hbd, MapKept.run_checkKey hk.eq (MKey.key a), MapKept.run_findKey hk.eq g3, hj', g4, MapKept.run_keyThatStays (MKey.key a), MapKept.run_setObj_map _ hbd, Result.andThen]
    rw [hr]
    refine hK _ _ (h { w with heap := w.heap.setIfInBounds r (.map (es.toArray.modify j fun e => { e with key := MKey.enc a, val := v }) ck) } ck rfl rfl rfl (by simp) ?_ (fun q hq => (MapKept.heap_set hb).2 q hq) _ d ha)
    rw [g0]
    have := (MapKept.heap_set (o' := .map (es.toArray.modify j fun e => { e with key := MKey.enc a, val := v }) ck) hb).1
    simpa [putEs] using this
theorem owp_mkmap {t : TypeId} (hd : Nat.blt d n = true) (h : ∀ w', Ext w w' → w'.heap.size = w.heap.size + 1 → w'.heap[w.heap.size]? = some (.map #[] 0) → owp P n ops Q rest ((d, .map (some w.heap.size)) :: l) w') : owp P n ops Q (⟨some d, .makeMap t none, ty, pos, aft, none⟩ :: rest) l w :=
  owp_eff (w' := w.alloc (.map #[] 0)) (fun a e ha => .inl ⟨.map (some w.heap.size), e, by simp [execOp, Instr.makeMap]; exact ⟨rfl, rfl⟩, ha.put hd _⟩)
    (h _ ((Below.refl _ _).alloc (Nat.le_refl _) _) (by simp) (by show (w.heap.push _)[_]? = _; simp))
end
theorem putEs_keys {K V : Type} [MKey K] {es : List MapEntry} {xs : List (K × V)} (ck : Nat) (a : K) (v : Value) (y : V) (h : es.map (·.key) = xs.map (fun p => MKey.enc p.1)) : (putEs es ck (MKey.enc a) v (midx xs a)).map (·.key) = (mput xs a y).map (fun p => MKey.enc p.1) := by
  rcases find_spec a es xs 0 h with ⟨g0, _, _, _, g4⟩ | ⟨j, e', p, g0, g1, g2, g3, g4, _, _, g7⟩
  · rw [g0, g4]; simp [putEs, h]
  · rw [g0, g7]
    simp only [putEs, List.map_set, ← h]
    apply List.ext_getElem?
    intro q
    rw [List.getElem?_map, List.getElem?_modify, List.getElem?_set]
    by_cases hq : j = q
    · subst hq
      have hlt : j < es.length := lt_of_get g1
      simp [g1, hlt]
    · simp [hq]
class OwM (α : Type) [Ow α] : Prop where
  mptr : ∀ {w : World} {F M : Nat → Prop} {v : Value} {x : α}, Ow.R w F M v x → ∃ r, v = .map (some r)
theorem Ob.mptr {α : Type} [Ow α] [OwM α] {i : Nat} {w : World} {O : Lab} {v : Value} {x : α} (h : Ob i w O v x) : ∃ r, v = .map (some r) := OwM.mptr h.1
/-- Maps to rows that they own; e is the type of the rows' elements. -/
structure MapR (e : TypeId) (K V : Type) where
  l : List (K × List V)
def RA {K V : Type} [Rp V] (w : World) (F M : Nat → Prop) (L : Lab) (e : TypeId) (es : List MapEntry) (xs : List (K × List V)) (skip : Option Nat) : Prop := ∀ (j : Nat) (en : MapEntry) (p : K × List V), es[j]? = some en → xs[j]? = some p → skip ≠ some j → RwM w F (fun k => M k ∧ L k = j + 1) e en.val p.2
instance {e : TypeId} {K V : Type} [MKey K] [Rp V] : Ow (MapR e K V) where
  R w F M v x := ∃ (r : Nat) (L : Lab) (es : List MapEntry) (ck : Nat), v = .map (some r) ∧ w.heap[r]? = some (.map es.toArray ck) ∧ M r ∧ L r = 0 ∧ es.map (·.key) = x.l.map (fun p => MKey.enc p.1) ∧ RA w F M L e es x.l none
  agree := by rintro w w' F M v x ⟨r, L, es, ck, rfl, hb, hM, hL, hk, hv⟩ a1 a2; exact ⟨r, L, es, ck, rfl, (a2 r hM).trans hb, hM, hL, hk, fun j en p h1 h2 h3 => (hv j en p h1 h2 h3).agree a1 fun k hk => a2 k hk.1⟩
  mono := by rintro w F M F' M' v x ⟨r, L, es, ck, rfl, hb, hM, hL, hk, hv⟩ a1 a2 a3; exact ⟨r, L, es, ck, rfl, hb, a2 r hM, hL, hk, fun j en p h1 h2 h3 => (hv j en p h1 h2 h3).mono a1 (fun k hk => ⟨a2 k hk.1, hk.2⟩) fun k hf hm => a3 k hf hm.1⟩
instance {e : TypeId} {K V : Type} [MKey K] [Rp V] : OwM (MapR e K V) := ⟨by rintro w F M v x ⟨r, L, es, ck, rfl, _⟩; exact ⟨r, rfl⟩⟩
/-- A map of which one row is taken out. -/
def MapH {K V : Type} [MKey K] [Rp V] (i : Nat) (w : World) (O : Lab) (r : Nat) (e : TypeId) (x : MapR e K V) (a : K) : Prop :=
  (∃ (L : Lab) (es : List MapEntry) (ck : Nat), w.heap[r]? = some (.map es.toArray ck) ∧ Fr i w O r ∧ es.map (·.key) = x.l.map (fun p => MKey.enc p.1) ∧ RA w (Fr 0 w O) (Fr i w O) L e es x.l (midx x.l a)) ∧ i ≠ 0
section
variable {e : TypeId} {K V : Type} [MKey K] [Rp V] {i j : Nat} {T : Nat → Prop} {w w' : World} {O O' : Lab} {r : Nat} {x : MapR e K V} {a : K}
theorem MapH.st (h : MapH i w O r e x a) (hS : St T w O w' O') (h0 : ¬ T 0 := by decide) (hi : ¬ T i := by decide) : MapH i w' O' r e x a := by
  obtain ⟨⟨L, es, ck, hb, hM, hk, hr⟩, h1⟩ := h
  refine ⟨⟨L, es, ck, (hS.agree hi r hM).trans hb, hS.fr hi r hM, hk, fun q en p g1 g2 g3 => ?_⟩, h1⟩
  exact ((hr q en p g1 g2 g3).agree (hS.agree h0) fun k hk => hS.agree hi k hk.1).mono (hS.fr h0) (fun k hk => ⟨hS.fr hi k hk.1, hk.2⟩) fun k hf hm => frNe0 h1 k hf hm.1
theorem MapR.at (h : Ob i w O (.map (some r)) x) : Fr i w O r := by
  obtain ⟨⟨r', L, es, ck, hv, hb, hM, _⟩, _⟩ := h
  injection hv with hv
  injection hv with hv
  subst hv
  exact hM
theorem MapR.get (h : Ob i w O (.map (some r)) x) (a : K) : ∃ A c, LkV (MKey.desc K) (.slice none 0 0) w r (MKey.enc a) (.slice A (mget ([] : List V) x.l a).length c) (mhas x.l a) ∧ Vb w (FrS [i] w O) (.slice A (mget ([] : List V) x.l a).length c) (mget ([] : List V) x.l a) := by
  obtain ⟨⟨r', L, es, ck, hv, hb, hM, hL, hk, hra⟩, hi⟩ := h
  injection hv with hv
  injection hv with hv
  subst hv
  rcases find_spec a es x.l 0 hk with ⟨g0, g1, g2, g3, g4⟩ | ⟨q, e', p, g0, g1, g2, g3, g4, g5, g6, g7⟩
  · rw [g3, g2]
    exact ⟨none, 0, ⟨_, ck, none, hb, by simpa using g1, rfl, rfl⟩, Vb.nil _ _⟩
  · rw [g6, g5]
    have h1 := hra q e' p g1 g2 (by simp)
    have h2 : Rw i w O e e'.val p.2 := h1.rw (fun _ h => h) (fun _ h => h.1) hi
    obtain ⟨A, c, hA⟩ := h2.form
    refine ⟨A, c, ⟨_, ck, some (0 + q, e'.val), hb, by simpa using g3, hA.symm, rfl⟩, ?_⟩
    rw [← hA]
    exact h2.lend [i] (by simp)
theorem MapR.take (h : Ob i w O (.map (some r)) x) {v : Value} {b : Bool} (hl : LkV (MKey.desc K) (.slice none 0 0) w r (MKey.enc a) v b) (j : Nat) (hj : j ≠ 0) (hij : j ≠ i) : ∃ O', St (eT i) w O w O' ∧ MapH i w O' r e x a ∧ Rw j w O' e v (mget ([] : List V) x.l a) := by
  obtain ⟨⟨r', L, es, ck, hv, hb, hM, hL, hk, hra⟩, hi⟩ := h
  injection hv with hv
  injection hv with hv
  subst hv
  obtain ⟨es', ck', q, h1, h2, h3, h4⟩ := hl
  rw [hb] at h1
  injection h1 with h1
  injection h1 with h1 h1'
  subst h1
  rw [List.toList_toArray] at h2
  rcases find_spec a es x.l 0 hk with ⟨g0, g1, g2, g3, g4⟩ | ⟨n, e', p, g0, g1, g2, g3, g4, g5, g6, g7⟩
  · rw [g1] at h2
    have := sm h2
    subst this
    rw [g3, h3]
    exact ⟨O, St.refl _ _ _, ⟨⟨L, es, ck, hb, hM, hk, fun q en p a1 a2 _ => hra q en p a1 a2 (by simp)⟩, hi⟩, Rw.nil j hj⟩
  · rw [g3] at h2
    have := sm h2
    subst this
    rw [g6, h3]
    have hrow := hra n e' p g1 g2 (by simp)
    refine ⟨fun k => if O k = i ∧ L k = n + 1 then j else O k, ⟨rfl, rfl, rfl, Nat.le_refl _, fun k _ hk => ⟨rfl, if_neg fun h => hk h.1⟩⟩, ⟨⟨L, es, ck, hb, ⟨hM.1, ?_⟩, hk, fun q en p' a1 a2 a3 => ?_⟩, hi⟩, hrow.rw (fun k hk => ⟨hk.1, ?_⟩) (fun k hk => ⟨hk.1.1, if_pos ⟨hk.1.2, hk.2⟩⟩) hj⟩
    · show (if _ then _ else _) = _
      rw [if_neg (by rw [hL]; omega)]; exact hM.2
    · rw [g0] at a3
      have hne : n ≠ q := fun e => a3 (by rw [e])
      refine (hra q en p' a1 a2 (by simp)).mono (fun k hk => ⟨hk.1, ?_⟩) (fun k hk => ⟨⟨hk.1.1, ?_⟩, hk.2⟩) (fun k hf hm => frNe0 hi k hf hm.1)
      · show (if _ then _ else _) = _
        rw [if_neg (by rw [hk.2]; exact fun h => hi h.1.symm)]; exact hk.2
      · show (if _ then _ else _) = _
        rw [if_neg (by rw [hk.2]; omega)]; exact hk.1.2
    · show (if _ then _ else _) = _
      rw [if_neg (by rw [hk.2]; exact fun h => hi h.1.symm)]; exact hk.2
end
section
variable {P : Program} {n : Nat} {ops : Array Oper} {Q : Post} {rest : List Oper} {l : Env} {w : World} {d : Tmp} {ty : TypeId} {pos : String} {aft : Array Edge} {K V : Type} [MKey K] [Rp V] {i j : Nat} {O : Lab} {r : Nat}
theorem l_mputR {e' : TypeId} {x : MapR e' K V} {t k e : TypeId} [TMap P t k e] [TKey P k K] {m y u : Operand} {a : K} {v : Value} {ys : List V} (hM : MapH i w O r e' x a) (hv : Rw j w O e' v ys) (hij : j ≠ i) (hx : opv l m = some (.map (some r))) (hy : opv l y = some (MKey.enc a)) (hu : opv l u = some v)
    (h : ∀ w' O', St (fun q => q = i ∨ q = j) w O w' O' → Ob i w' O' (.map (some r)) (⟨mput x.l a ys⟩ : MapR e' K V) → owp P n ops Q rest l w') : owp P n ops Q (⟨none, .mapUpdate t m y u, ty, pos, aft, none⟩ :: rest) l w := by
  obtain ⟨⟨L, es, ck, hb, hM', hk, hra⟩, hi⟩ := hM
  refine owp_mput hb hk hx hy hu fun w' ck' e1 e2 e3 e4 e5 e6 => ?_
  have hlen : es.length = x.l.length := by have := congrArg List.length hk; simpa using this
  have hj0 : j ≠ 0 := hv.2.2
  have hrj : O r ≠ j := by rw [hM'.2]; exact Ne.symm hij
  let n0 : Nat := match midx x.l a with | some q => q | none => es.length
  have hS : St (fun q => q = i ∨ q = j) w O w' (fun k => if O k = j then i else O k) := ⟨e1, e2, e3, by omega, fun q hq hT => ⟨e6 q fun e => hT (by rw [e]; exact .inl hM'.2), if_neg fun e => hT (.inr e)⟩⟩
  have hF : ∀ k, Fr 0 w O k → Fr 0 w' (fun k => if O k = j then i else O k) k := fun k hk => ⟨by rw [e4]; exact hk.1, by show (if _ then _ else _) = _; rw [if_neg (by rw [hk.2]; exact Ne.symm hj0)]; exact hk.2⟩
  have hA0 : Agree (Fr 0 w O) w w' := fun k hk => e6 k fun e => by rw [e] at hk; exact hi (hM'.2.symm.trans hk.2)
  have hdis : ∀ m : Nat, ∀ k, Fr 0 w' (fun k => if O k = j then i else O k) k → ¬ (Fr i w' (fun k => if O k = j then i else O k) k ∧ (if O k = j then n0 + 1 else if k = r then 0 else L k) = m) := fun m k hf hm => frNe0 hi k hf hm.1
  have hnew : RwM w' (Fr 0 w' (fun k => if O k = j then i else O k)) (fun k => Fr i w' (fun k => if O k = j then i else O k) k ∧ (if O k = j then n0 + 1 else if k = r then 0 else L k) = n0 + 1) e' v ys := by
    have h1 : RwM w (Fr 0 w O) (Fr j w O) e' v ys := hv.m (fun _ h => h) (fun _ h => h) (frNe0 hj0)
    have h2 := h1.agree hA0 (fun k hk => e6 k fun e => by rw [e] at hk; exact hrj hk.2)
    exact h2.mono hF (fun k hk => ⟨⟨by rw [e4]; exact hk.1, if_pos hk.2⟩, if_pos hk.2⟩) (hdis _)
  have hkeep : ∀ q en (p : K × List V), es[q]? = some en → x.l[q]? = some p → midx x.l a ≠ some q → RwM w' (Fr 0 w' (fun k => if O k = j then i else O k)) (fun k => Fr i w' (fun k => if O k = j then i else O k) k ∧ (if O k = j then n0 + 1 else if k = r then 0 else L k) = q + 1) e' en.val p.2 := fun q en p g1 g2 g3 => by
    have h1 := hra q en p g1 g2 g3
    have hnr : ∀ g, en.val.ownBlock = some g → g ≠ r := fun g hg e => by
      subst e
      have h2 := h1.1
      obtain ⟨cells, o1, o2, o3⟩ := h2
      rcases o1.2 with ⟨hv0, _⟩ | ⟨g', cap, cur, hv0, _, hh, _⟩
      · rw [hv0] at hg; simp [Value.ownBlock] at hg
      · rw [hv0] at hg
        have : g' = g := by simpa [Value.ownBlock] using hg
        subst this
        rw [hb] at hh; cases hh
    have h2 : RwM w (Fr 0 w O) (fun k => (Fr i w O k ∧ L k = q + 1) ∧ k ≠ r) e' en.val p.2 := ⟨h1.1, fun g hg => ⟨h1.2 g hg, hnr g hg⟩⟩
    have h3 := h2.agree hA0 (fun k hk => e6 k hk.2)
    refine h3.mono hF (fun k hk => ?_) (hdis _)
    have hkj : O k ≠ j := by rw [hk.1.1.2]; exact Ne.symm hij
    exact ⟨⟨by rw [e4]; exact hk.1.1.1, by show (if _ then _ else _) = _; rw [if_neg hkj]; exact hk.1.1.2⟩, by rw [if_neg hkj, if_neg hk.2]; exact hk.1.2⟩
  refine h w' _ hS ⟨⟨r, fun k => if O k = j then n0 + 1 else if k = r then 0 else L k, _, ck', rfl, e5, ⟨by rw [e4]; exact hM'.1, by show (if _ then _ else _) = _; rw [if_neg hrj]; exact hM'.2⟩, by show (if _ then _ else _) = _; rw [if_neg hrj, if_pos rfl], putEs_keys ck a v ys hk, ?_⟩, hi⟩
  intro q en p h1 h2 _
  rcases find_spec a es x.l 0 hk with ⟨g0, _, _, _, g4⟩ | ⟨m, e'', p', g0, g1, g2, g3, g4, _, _, g7⟩
  · have hn0 : n0 = es.length := by show (match midx x.l a with | some q => q | none => es.length) = _; rw [g0]
    rw [g0] at h1
    rw [g4] at h2
    simp only [putEs] at h1
    by_cases hq : q < es.length
    · rw [List.getElem?_append_left hq] at h1
      rw [List.getElem?_append_left (by omega)] at h2
      exact hkeep q en p h1 h2 (by rw [g0]; simp)
    · rw [List.getElem?_append_right (by omega)] at h1
      rw [List.getElem?_append_right (by omega)] at h2
      cases hz : q - es.length with
      | zero =>
        rw [hz] at h1
        rw [show q - x.l.length = 0 from by omega] at h2
        simp at h1 h2
        subst h1; subst h2
        have hqe : q = n0 := by rw [hn0]; omega
        rw [hqe]
        exact hnew
      | succ m => rw [hz] at h1; simp at h1
  · have hn0 : n0 = m := by show (match midx x.l a with | some q => q | none => es.length) = _; rw [g0]
    rw [g0] at h1
    rw [g7] at h2
    simp only [putEs] at h1
    rw [List.getElem?_modify] at h1
    rw [List.getElem?_set] at h2
    by_cases hq : m = q
    · subst hq
      have hlt := lt_of_get g2
      rw [g1] at h1
      simp [hlt] at h1 h2
      subst h1; subst h2
      rw [← hn0]
      exact hnew
    · simp [hq] at h1 h2
      exact hkeep q en p h1 h2 (by rw [g0]; simpa using hq)
theorem l_mkmapR {t : TypeId} (e : TypeId) (i : Nat) (hi : i ≠ 0) (O : Lab) (hd : Nat.blt d n = true) (h : ∀ g w' O', St nT w O w' O' → Ob i w' O' (.map (some g)) (⟨[]⟩ : MapR e K V) → owp P n ops Q rest ((d, .map (some g)) :: l) w') : owp P n ops Q (⟨some d, .makeMap t none, ty, pos, aft, none⟩ :: rest) l w :=
  owp_mkmap hd fun w' hE hs hb => h _ w' _ (hE.st O fun _ => i) ⟨⟨w.heap.size, fun _ => 0, [], 0, rfl, hb, ⟨by omega, upO_new (Nat.le_refl _)⟩, rfl, rfl, fun j e p h1 _ => by simp at h1⟩, hi⟩
end
section
variable {P : Program} {n : Nat} {ops : Array Oper} {Q : Post} {rest : List Oper} {l : Env} {w : World} {d : Tmp} {ty : TypeId} {pos : String} {aft : Array Edge} {S : World → Prop} {rr : List (Nat × Bool)} {i' : Nat}
theorem o_lk {K : Type} [MKey K] {t k e : TypeId} [TMap P t k e] [TKey P k K] {z : Value} {size bytes : Nat} [TInfo P e z size bytes] {x y : Operand} {r : Nat} {v : Value} {b : Bool} (a : K) (hv : LkV (MKey.desc K) z w r (MKey.enc a) v b) (hx : opv l x = some (.map (some r))) (hy : opv l y = some (MKey.enc a)) (hd : Nat.blt d n = true) (h : owp P n ops Q rest ((d, v) :: l) w) : owp P n ops Q (⟨some d, .lookup t x y false, ty, pos, aft, none⟩ :: rest) l w := owp_ev (ev_lk hx hy hv) hd h
theorem h_lk {K : Type} [MKey K] {t k e : TypeId} [TMap P t k e] [TKey P k K] {z : Value} {size bytes : Nat} [TInfo P e z size bytes] {x y : Operand} {r : Nat} {v : Value} {b : Bool} (a : K) (hv : ∀ w', S w' → LkV (MKey.desc K) z w' r (MKey.enc a) v b) (hi : ops[i']? = some ⟨some d, .lookup t x y false, ty, pos, aft, none⟩) (hx : opv l x = some (.map (some r))) (hy : opv l y = some (MKey.enc a)) (hd : Nat.blt d n = true) (h : hwp P n ops Q S rr ((d, v) :: l) w) : hwp P n ops Q S ((i', true) :: rr) l w := hwp_o hi (hwq_ev (fun w' hS => ev_lk hx hy (hv w' hS)) hd h)
end
end
section
open Go Go.RowKit
attribute [local irreducible] ewp owp hwp hwq hws Ev Evg Fn retPost loud loudS Res1
attribute [local irreducible] hwx loudX
instance : TMap Tryz.prog 134 3 22 := ⟨Tryz.underlying134⟩
instance : TKey Tryz.prog 3 Int := ⟨Tryz.underlying3⟩
structure RLk where
  parent : Int
  op : Int
  cost : Int
structure REn where
  words : List U64
  link : RLk
instance : Rp REn where
  isAgg := true
  size := 4
  R w F cs x := ∃ v0, cs = [v0, .int .i64 x.link.parent, .int .i64 x.link.op, .int .i64 x.link.cost] ∧ Vb w F v0 x.words ∧ inI64 x.link.parent ∧ inI64 x.link.op ∧ inI64 x.link.cost
  len := by rintro w F cs x ⟨v0, rfl, h0, h1, h2, h3⟩; rfl
  one := by rintro w F cs x ⟨v0, rfl, h0, h1, h2, h3⟩ u hu; simp at hu; rcases hu with rfl | rfl | rfl | rfl <;> first | rfl | exact Vb.one rfl (by assumption)
  agree := by rintro w w' F cs x ⟨v0, rfl, h0, h1, h2, h3⟩ ha; exact ⟨v0, rfl, h0.agree ha, h1, h2, h3⟩
  mono := by rintro w F G cs x ⟨v0, rfl, h0, h1, h2, h3⟩ ha; exact ⟨v0, rfl, h0.mono ha, h1, h2, h3⟩
structure Reg where
  packer : Pkr
  entries : List REn
  table : MapR 3 Int Int
instance : Ow Reg where
  R w F M v x := ∃ (g : Nat) (L : Lab) (c0 c1 c2 : Value), v = .pointer (some ⟨g, 0, none⟩) ∧ Blk w g 137 [c0, c1, c2] ∧ M g ∧ L g = 0 ∧ Ow.R w F (fun k => M k ∧ L k = 1) c0 x.packer ∧ RwM w F (fun k => M k ∧ L k = 2) 144 c1 x.entries ∧ Ow.R w F (fun k => M k ∧ L k = 3) c2 x.table
  agree := by rintro w w' F M v x ⟨g, L, c0, c1, c2, rfl, hb, hM, hL, h0, h1, h2⟩ a1 a2; exact ⟨g, L, c0, c1, c2, rfl, hb.keep (a2 g hM), hM, hL, Ow.agree h0 a1 fun k hk => a2 k hk.1, h1.agree a1 fun k hk => a2 k hk.1, Ow.agree h2 a1 fun k hk => a2 k hk.1⟩
  mono := by rintro w F M F' M' v x ⟨g, L, c0, c1, c2, rfl, hb, hM, hL, h0, h1, h2⟩ a1 a2 a3; exact ⟨g, L, c0, c1, c2, rfl, hb, a2 g hM, hL, Ow.mono h0 a1 (fun k hk => ⟨a2 k hk.1, hk.2⟩) fun k hf hm => a3 k hf hm.1, h1.mono a1 (fun k hk => ⟨a2 k hk.1, hk.2⟩) fun k hf hm => a3 k hf hm.1, Ow.mono h2 a1 (fun k hk => ⟨a2 k hk.1, hk.2⟩) fun k hf hm => a3 k hf hm.1⟩
instance : OwP Reg := ⟨by rintro w F M v x ⟨g, L, c0, c1, c2, rfl, _⟩; exact ⟨g, rfl⟩⟩
theorem Reg.opn {i : Nat} {w : World} {O : Lab} {p : Nat} {x : Reg} (h : Ob i w O (.pointer (some ⟨p, 0, none⟩)) x) (l0 l1 l2 l3 : Nat) (hl : l0 ≠ 0 ∧ l1 ≠ 0 ∧ l2 ≠ 0 ∧ l3 ≠ 0) : ∃ (O' : Lab) (c0 c1 c2 : Value), St (eT i) w O w O' ∧ (∀ k, Fr i w O k → ∃ q, q ∈ [l0, l1, l2, l3] ∧ Fr q w O' k) ∧ Lc l0 w O' p 137 [c0, c1, c2] ∧ Ob l1 w O' c0 x.packer ∧ Rw l2 w O' 144 c1 x.entries ∧ Ob l3 w O' c2 x.table := by
  obtain ⟨⟨g, L, c0, c1, c2, hv, hb, hM, hL, h0, h1, h2⟩, hi⟩ := h
  obtain rfl : p = g := by injection hv with hv; injection hv with hv; injection hv
  exact ⟨part O i L [l0, l1, l2, l3], c0, c1, c2, part_st hi, part_all (by simp), ⟨hb, (part_fr (j := 0) rfl p ⟨hM, hL⟩).2⟩, ⟨Ow.mono h0 (part_fr0 hi) (part_fr (j := 1) rfl) (frNe0 hl.2.1), hl.2.1⟩, h1.rw (part_fr0 hi) (part_fr (j := 2) rfl) hl.2.2.1, ⟨Ow.mono h2 (part_fr0 hi) (part_fr (j := 3) rfl) (frNe0 hl.2.2.2), hl.2.2.2⟩⟩
theorem Reg.shut {w : World} {O : Lab} {p : Nat} {x : Reg} {l0 l1 l2 l3 : Nat} {c0 c1 c2 : Value} (hd : ¬ 0 ∈ [l0, l1, l2, l3] ∧ [l0, l1, l2, l3].idxOf l0 = 0 ∧ [l0, l1, l2, l3].idxOf l1 = 1 ∧ [l0, l1, l2, l3].idxOf l2 = 2 ∧ [l0, l1, l2, l3].idxOf l3 = 3) (hb : Lc l0 w O p 137 [c0, c1, c2]) (h0 : Ob l1 w O c0 x.packer) (h1 : Rw l2 w O 144 c1 x.entries) (h2 : Ob l3 w O c2 x.table) : ∃ O', St (· ∈ [l0, l1, l2, l3]) w O w O' ∧ (∀ k, Fr 0 w O k → Fr 0 w O' k) ∧ (∀ q, q ∈ [l0, l1, l2, l3] → ∀ k, Fr q w O k → Fr l0 w O' k) ∧ Ob l0 w O' (.pointer (some ⟨p, 0, none⟩)) x := by
  have hb1 : l0 ≠ 0 := fun e => hd.1 (by simp [e])
  have hg := whole_fr (i := l0) hd.2.1 (by simp) p ⟨hb.1.lt, hb.2⟩
  exact ⟨whole O l0 [l0, l1, l2, l3], whole_st, whole_fr0 hd.1, whole_all, ⟨p, fun k => [l0, l1, l2, l3].idxOf (O k), c0, c1, c2, rfl, hb.1, hg.1, hg.2, Ow.mono h0.1 (whole_fr0 hd.1) (whole_fr hd.2.2.1 (by simp)) (fun k a b => frNe0 hb1 k a b.1), h1.m (whole_fr0 hd.1) (whole_fr hd.2.2.2.1 (by simp)) (fun k a b => frNe0 hb1 k a b.1), Ow.mono h2.1 (whole_fr0 hd.1) (whole_fr hd.2.2.2.2 (by simp)) (fun k a b => frNe0 hb1 k a b.1)⟩, hb1⟩
noncomputable def m_registry_New (x0 : List Int) : Option ((Option Reg) × Err) :=
  bnd (m_pack_New x0) fun q4 => if q4.2.n ≠ 0 then (some (none, (⟨q4.2.n⟩ : Err))) else (bnd q4.1 fun o22 => some ((some (⟨o22, ([] : List REn), (⟨[]⟩ : MapR 3 Int Int)⟩ : Reg)), (⟨0⟩ : Err)))
theorem c_registry_New {w : World} {O : Lab} {vx0 : Value} {x0 : List Int} (hx0 : Vb w (Fr 0 w O) vx0 x0) (j0 : Nat) (hj0 : j0 ≠ 0) {r : (Option Reg) × Err} (hm : m_registry_New x0 = some r) :
    Fn Tryz.prog 43 [vx0] w fun v w' => ∃ O', St nT w O w' O' ∧ ∃ v0 v1 : Value, v = .tuple #[v0, v1] ∧ Obo j0 w' O' v0 r.1 ∧ Vb w' (Fr 0 w' O') v1 r.2 := by
 obtain ⟨O0, hE, hz0⟩ := ent0 (w := w) (O := O)
 have hB : Bm w O0 w O0 := Bm.refl
 replace hx0 := hx0.mono hz0
 obtain ⟨A2, c3, rfl⟩ := hx0.form
 refine fn_enter Tryz.func43 rfl Tryz.ntmps43 rfl ?_
 unfold m_registry_New at hm
 refine ewp_seq (ewp_region (o_as rfl rfl (o_as rfl rfl (o_z ?_))))
 refine ewp_seq (ewp_region (o_mv rfl rfl ?_))
 obtain ⟨q4, e5, hm⟩ := bs hm
 refine l_callM (O := O0) (c_pack_New hx0 2 (by decide) e5) rfl rfl fun v10 w6 O7 S8 h9 => ?_
 obtain ⟨v11, v12, rfl, h13, h14⟩ := h9
 obtain ⟨rfl, r15⟩ := h14.err
 refine o_mv rfl rfl (o_ex rfl rfl rfl (o_ex rfl rfl rfl (o_as rfl rfl (o_as rfl rfl (o_z ?_)))))
 refine ewp_seq (ewp_seq (ewp_region (o_mv rfl rfl (o_rnS rfl rfl (fun c16 => ?_) fun c16 => ?_))))
 ·
  replace hm := ip hm c16
  refine o_z ?_
  refine ewp_true rfl (ewp_seq (ewp_region (o_mv rfl rfl (o_as rfl rfl (o_as rfl rfl (o_z ?_))))))
  refine ewp_ret ?_
  obtain rfl := sm hm
  replace hB := hB.st S8
  obtain ⟨O', hS', hz, hl⟩ := hE.leave (fun _ => 0) rfl hB
  exact ret2 rfl (res_tmp rfl) (res_tmp rfl) ⟨O', hS', _, _, rfl, rfl, (vErr r15)⟩
 replace hm := im hm c16
 refine o_z ?_
 refine ewp_false rfl (ewp_skip (ewp_seq (ewp_region (o_mv rfl rfl (l_mkmapR (K := Int) (V := Int) 3 3 (by decide) O7 rfl fun p17 w18 O19 S20 h21 => ?_)))))
 obtain ⟨o22, e23, hm⟩ := bs hm
 replace h13 := h13.st S20
 rw [e23] at h13
 obtain ⟨p24, rfl⟩ := Ob.ptr h13
 refine o_bd rfl rfl rfl ?_
 refine l_box 4 O19 rfl rfl fun g25 w26 O27 S28 h29 => ?_
 replace h29 : Lc 4 w26 O27 g25 137 [(.pointer (some ⟨p24, 0, none⟩)), (.slice none 0 0), (.map (some p17))] := h29
 refine o_as rfl rfl (o_as rfl rfl (o_z ?_))
 refine ewp_ret ?_
 have h30 : Rw 5 w26 O27 144 (.slice none 0 0) ([] : List REn) := Rw.nil 5 (by decide)
 replace h13 := h13.st S28
 replace h21 := h21.st S28
 obtain ⟨O32, S33, hz35, ha36, h34⟩ := Reg.shut (x := (⟨o22, ([] : List REn), (⟨[]⟩ : MapR 3 Int Int)⟩ : Reg)) (l0 := 4) (l1 := 2) (l2 := 5) (l3 := 3) (by decide) h29 h13 h30 h21
 obtain rfl := sm hm
 replace hB := (((hB.st S8).st S20).st S28).st S33
 obtain ⟨O', hS', hz, hl⟩ := hE.leave (fun q => if q = 4 then j0 else 0) rfl hB
 exact ret2 rfl (res_tmp rfl) (res_tmp rfl) ⟨O', hS', _, _, rfl, (Ob.leave h34 hz (hl 4 (by decide) (by decide)) hj0), (vErr (show inI64 0 from by decide))⟩
noncomputable def m_registry_Registry_find (x0 : Reg) (x1 : List Int) : Option ((List U64) × Int × Int × Err) :=
  bnd (m_pack_Packer_Pack x0.packer x1) fun q20 => if q20.2.n ≠ 0 then (some (([] : List U64), 0, (-1), (⟨2⟩ : Err))) else (bnd (m_pack_Packer_Hash x0.packer q20.1) fun q41 => bnd (rng (ρ := (List U64) × Int × Int × Err) (fun (k66 : Nat) (a67 : Int) (s64 : Unit) => bnd (atI x0.entries a67) fun a100 => bnd (m_slices_Equal_Luint64_uint64 a100.words q20.1) fun q118 => if q118 = true then some (.ret (q20.1, q41, a67, (⟨0⟩ : Err))) else some (.next ())) (mget ([] : List Int) x0.table.l q41) 0 ()) fun res62 => fin res62 fun (s139 : Unit) => some (q20.1, q41, (-1), (⟨0⟩ : Err)))
theorem c_registry_Registry_find {w : World} {O : Lab} {p0 i0 : Nat} {x0 : Reg} (hx0 : Ob i0 w O (.pointer (some ⟨p0, 0, none⟩)) x0) {vx1 : Value} {x1 : List Int} (hx1 : Vb w (Fr 0 w O) vx1 x1) {r : (List U64) × Int × Int × Err} (hm : m_registry_Registry_find x0 x1 = some r) :
    Fn Tryz.prog 83 [(.pointer (some ⟨p0, 0, none⟩)), vx1] w fun v w' => ∃ O', St (eT i0) w O w' O' ∧ ∃ v0 v1 v2 v3 : Value, Ob i0 w' O' (.pointer (some ⟨p0, 0, none⟩)) x0 ∧ v = .tuple #[v0, v1, v2, v3] ∧ Vb w' (Fr 0 w' O') v0 r.1 ∧ Vb w' (Fr 0 w' O') v1 r.2.1 ∧ Vb w' (Fr 0 w' O') v2 r.2.2.1 ∧ Vb w' (Fr 0 w' O') v3 r.2.2.2 := by
 obtain ⟨O0, hE, hz0, hl2⟩ := ent1 (w := w) (O := O) hx0.2
 have hx0' := Ob.leave hx0 hz0 hl2 (j := 2) (by decide)
 have hB : Bm w O0 w O0 := Bm.refl
 replace hx1 := hx1.mono hz0
 obtain ⟨A3, c4, rfl⟩ := hx1.form
 refine fn_enter Tryz.func83 rfl Tryz.ntmps83 rfl ?_
 unfold m_registry_Registry_find at hm
 refine ewp_seq (ewp_region (o_as rfl rfl (o_as rfl rfl (o_as rfl rfl (o_as rfl rfl (o_z ?_))))))
 refine ewp_seq (ewp_region (o_mv rfl rfl (o_nc rfl rfl ?_)))
 obtain ⟨O5, v9, v12, v17, S6, ha8, h7, h10, h13, h18⟩ := Reg.opn hx0' 2 3 4 5 (by decide)
 obtain ⟨p11, rfl⟩ := h10.ptr
 obtain ⟨A14, c15, rfl⟩ := h13.form
 obtain ⟨p19, rfl⟩ := h18.mptr
 refine o_fa rfl rfl (o_ld (hc := Blk.cell (i := 0) (h7.1) rfl) rfl rfl ?_)
 refine o_mv rfl rfl ?_
 obtain ⟨q20, e21, hm⟩ := bs hm
 replace hx1 := hx1.st S6
 refine l_callM (O := O5) (c_pack_Packer_Pack h10 hx1 e21) rfl rfl fun v26 w22 O23 S24 h25 => ?_
 obtain ⟨v28, v29, h27, rfl, h30, h31⟩ := h25
 obtain ⟨A32, c33, rfl⟩ := h30.form
 obtain ⟨rfl, r34⟩ := h31.err
 refine o_mv rfl rfl (o_ex rfl rfl rfl (o_ex rfl rfl rfl (o_as rfl rfl (o_as rfl rfl (o_z ?_)))))
 refine ewp_seq (ewp_seq (ewp_region (o_mv rfl rfl (o_rnS rfl rfl (fun c35 => ?_) fun c35 => ?_))))
 ·
  replace hm := ip hm c35
  refine o_z ?_
  refine ewp_true rfl (ewp_seq (ewp_region (o_miE rfl rfl ?_)))
  refine o_as rfl rfl (o_as rfl rfl (o_as rfl rfl (o_as rfl rfl (o_z ?_))))
  refine ewp_ret ?_
  replace h7 := h7.st S24
  replace h13 := h13.st S24
  replace h18 := h18.st S24
  obtain ⟨O36, S37, hz39, ha40, h38⟩ := Reg.shut (x := x0) (l0 := 2) (l1 := 3) (l2 := 4) (l3 := 5) (by decide) h7 h27 h13 h18
  obtain rfl := sm hm
  replace hB := ((hB.st S6).st S24).st S37
  obtain ⟨O', hS', hz, hl⟩ := hE.leave (fun q => if q = 2 then i0 else 0) rfl hB
  exact ret4 rfl (res_tmp rfl) (res_tmp rfl) (res_tmp rfl) (res_tmp rfl) ⟨O', hS', _, _, _, _, (Ob.leave h38 hz (hl 2 (by decide) (by decide)) hx0.2), rfl, (Vb.mono (Vb.nil _ _) hz), (vInt (show inI64 (0) from by decide)), (vInt (show inI64 (-1) from by decide)), (vErr (by decide))⟩
 replace hm := im hm c35
 refine o_z ?_
 refine ewp_false rfl (ewp_skip (ewp_seq (ewp_region (o_mv rfl rfl (o_nc rfl rfl (o_fa rfl rfl ?_))))))
 replace h7 := h7.st S24
 refine o_ld (hc := Blk.cell (i := 0) (h7.1) rfl) rfl rfl ?_
 refine o_mv rfl rfl ?_
 obtain ⟨q41, e42, hm⟩ := bs hm
 refine l_callM (O := O23) (c_pack_Packer_Hash h27 h30 e42) rfl rfl fun v47 w43 O44 S45 h46 => ?_
 obtain ⟨h48, h49⟩ := h46
 obtain ⟨rfl, r50⟩ := h49.int
 refine o_as rfl rfl (o_z ?_)
 refine ewp_seq (ewp_seq (ewp_region (o_mv rfl rfl (o_nc rfl rfl (o_fa rfl rfl ?_)))))
 replace h7 := h7.st S45
 refine o_ld (hc := Blk.cell (i := 2) (h7.1) rfl) rfl rfl ?_
 refine o_mv rfl rfl ?_
 replace h18 := (h18.st S24).st S45
 obtain ⟨A53, c54, hl51, h52⟩ := MapR.get h18 q41
 refine o_lk q41 hl51 rfl rfl rfl ?_
 refine o_ln rfl rfl ?_
 have l56 : (mget ([] : List Int) x0.table.l q41).length ≤ 9223372036854775807 := Nat.le_trans h52.len.2.1 h52.len.2.2
 have r55 : inI64 ((mget ([] : List Int) x0.table.l q41).length : Int) := rngNat l56
 refine o_mv rfl rfl (o_z ?_)
 replace h13 := (h13.st S24).st S45
 obtain ⟨O57, S58, hz60, ha61, h59⟩ := Reg.shut (x := x0) (l0 := 2) (l1 := 3) (l2 := 4) (l3 := 5) (by decide) h7 h48 h13 h18
 replace h52 := h52.shutS S58 hz60 ha61 [2] (by decide)
 obtain ⟨res62, hL63, hm⟩ := bs hm
 refine ewp_join (aft res62 (fun (s64 : Unit) (x65 : Unit) => [(8, (.slice A32 q20.1.length c33)), (10, (.int .i64 q41))]) (fun s64 x65 w' => ∃ O' : Lab, Bm w O0 w' O' ∧ Vb w' (Fr 0 w' O') (.slice A32 q20.1.length c33) q20.1 ∧ Ob 2 w' O' (.pointer (some ⟨p0, 0, none⟩)) x0)) ?_ ?_
 ·
  refine ewp_block ?_
  replace hB := (((hB.st S6).st S24).st S45).st S58
  replace h30 := (h30.st S45).st S58
  refine ewp_rng (σ := Unit) (X := Unit) ((mget ([] : List Int) x0.table.l q41).length) hL63 rfl l56 (fun (s64 : Unit) (x65 : Unit) => [(0, (.pointer (some ⟨p0, 0, none⟩))), (8, (.slice A32 q20.1.length c33)), (10, (.int .i64 q41)), (36, (.slice A53 (mget ([] : List Int) x0.table.l q41).length c54))]) _ (fun s64 x65 w' => ∃ O' : Lab, Bm w O0 w' O' ∧ Ob 2 w' O' (.pointer (some ⟨p0, 0, none⟩)) x0 ∧ Vb w' (Fr 0 w' O') (.slice A32 q20.1.length c33) q20.1 ∧ Vb w' (FrS [2] w' O') (.slice A53 (mget ([] : List Int) x0.table.l q41).length c54) (mget ([] : List Int) x0.table.l q41)) _ () ⟨O57, hB, h59, h30, h52⟩ ⟨rfl, rfl, rfl, rfl, rfl, rfl, trivial⟩ (fun _ _ => ⟨rfl, rfl⟩) (fun _ _ => ⟨rfl, rfl, trivial⟩) (fun _ _ _ ⟨O', hB, h59, h30, h52⟩ => ⟨O', hB, h30, h59⟩) ⟨rfl, rfl, rfl⟩ ⟨rfl, rfl⟩ ?_
  rintro k66 a67 s64 x65 w68 cc70 hx71 ⟨O69, hB, h59, h30, h52⟩ hf72 hret73 hbrk74
  have rk66 : inI64 (k66 : Int) := rngK hx71 l56
  refine ewp_seq (ewp_region ?_)
  obtain ⟨b77, o78, ce79, hA80, hl81, hd82, rfl, r84⟩ := h52.elem' hx71
  refine o_iaE (hA := hA80) (hj := rfl) (hlt := hl81) rfl rfl rfl ?_
  refine o_ld (hc := cat0 hd82) rfl rfl ?_
  refine o_as rfl rfl (o_z ?_)
  refine ewp_seq (ewp_region (o_mv rfl rfl (o_nc rfl rfl ?_)))
  obtain ⟨O85, v89, v92, v97, S86, ha88, h87, h90, h93, h98⟩ := Reg.opn h59 2 3 4 5 (by decide)
  obtain ⟨p91, rfl⟩ := h90.ptr
  obtain ⟨A94, c95, rfl⟩ := h93.form
  obtain ⟨p99, rfl⟩ := h98.mptr
  replace h52 := h52.opnS S86 (by decide) ha88 [2, 3, 4, 5] (by decide)
  refine o_fa rfl rfl (o_ld (hc := Blk.cell (i := 1) (h87.1) rfl) rfl rfl ?_)
  refine o_mv rfl rfl ?_
  obtain ⟨a100, e101, hf72⟩ := bs hf72
  obtain ⟨p103, x102⟩ := atI_some' e101
  obtain ⟨b104, o105, ce106, hA107, hl108, hd109, v111, rfl, h112, r115, r116, r117⟩ := h93.elem x102
  obtain ⟨A113, c114, rfl⟩ := h112.form
  refine o_iaE (hA := hA107) (hj := (Int.toNat_of_nonneg p103).symm) (hlt := hl108) rfl rfl rfl ?_
  refine o_fa rfl rfl (o_ld (hc := cat0 hd109) rfl rfl ?_)
  refine o_mv rfl rfl ?_
  obtain ⟨q118, e119, hf72⟩ := bs hf72
  replace h30 := h30.st S86
  refine l_callA (O := O85) (A := All w68) (R := fun w' F v => Vb w' F v q118) (c_slices_Equal_Luint64_uint64 (fun _ h => h) (Vb.mono (F := Fr 0 w68 O85) h112 Fr.lt) (Vb.mono (F := Fr 0 w68 O85) h30 Fr.lt) e119) rfl rfl fun v124 w120 O121 S122 h123 => ?_
  obtain rfl := h123.bool
  replace h52 := h52.stS S122 id (fun _ _ => id)
  cases q118
  case false =>
   replace hf72 := iF hf72
   refine o_z ?_
   refine ewp_false rfl (ewp_skip ?_)
   replace h87 := h87.st S122
   replace h90 := h90.st S122
   replace h93 := h93.st S122
   replace h98 := h98.st S122
   obtain ⟨O125, S126, hz128, ha129, h127⟩ := Reg.shut (x := x0) (l0 := 2) (l1 := 3) (l2 := 4) (l3 := 5) (by decide) h87 h90 h93 h98
   replace h52 := h52.shutS S126 hz128 ha129 [2] (by decide)
   obtain rfl := sm hf72
   replace hB := ((hB.st S86).st S122).st S126
   replace h30 := (h30.st S122).st S126
   exact show Exists _ from ⟨_, (), rfl, ⟨rfl, rfl, rfl, rfl, rfl, rfl, trivial⟩, _, hB, h127, h30, h52⟩
  replace hf72 := iT hf72
  refine o_z ?_
  refine ewp_true rfl (ewp_seq (ewp_region (o_mv rfl rfl (o_mv rfl rfl (o_mv rfl rfl (o_as rfl rfl (o_as rfl rfl (o_as rfl rfl (o_as rfl rfl (o_z ?_))))))))))
  refine ewp_ret ?_
  replace h87 := h87.st S122
  replace h90 := h90.st S122
  replace h93 := h93.st S122
  replace h98 := h98.st S122
  obtain ⟨O130, S131, hz133, ha134, h132⟩ := Reg.shut (x := x0) (l0 := 2) (l1 := 3) (l2 := 4) (l3 := 5) (by decide) h87 h90 h93 h98
  obtain rfl := sm hf72
  obtain rfl := hret73 _ rfl
  obtain rfl := sm (fin_ret hm)
  replace hB := ((hB.st S86).st S122).st S131
  obtain ⟨O', hS', hz, hl⟩ := hE.leave (fun q => if q = 2 then i0 else 0) rfl hB
  replace h30 := (h30.st S122).st S131
  exact ret4 rfl (res_tmp rfl) (res_tmp rfl) (res_tmp rfl) (res_tmp rfl) ⟨O', hS', _, _, _, _, (Ob.leave h132 hz (hl 2 (by decide) (by decide)) hx0.2), rfl, (Vb.mono h30 hz), (vInt r50), (vInt r84), (vErr (show inI64 0 from by decide))⟩
 replace hB := (((hB.st S6).st S24).st S45).st S58
 replace h30 := (h30.st S45).st S58
 rintro l135 w136 ⟨s139, x140, rfl, hs138, O137, hB, h30, h59⟩
 replace hm := fin_done hm
 refine ewp_sub _ hs138 ?_
 refine ewp_seq (ewp_region (o_mv rfl rfl (o_mv rfl rfl (o_as rfl rfl (o_as rfl rfl (o_as rfl rfl (o_as rfl rfl (o_z ?_))))))))
 refine ewp_ret ?_
 obtain rfl := sm hm
 obtain ⟨O', hS', hz, hl⟩ := hE.leave (fun q => if q = 2 then i0 else 0) rfl hB
 exact ret4 rfl (res_tmp rfl) (res_tmp rfl) (res_tmp rfl) (res_tmp rfl) ⟨O', hS', _, _, _, _, (Ob.leave h59 hz (hl 2 (by decide) (by decide)) hx0.2), rfl, (Vb.mono h30 hz), (vInt r50), (vInt (show inI64 (-1) from by decide)), (vErr (show inI64 0 from by decide))⟩
noncomputable def m_registry_Registry_Add (x0 : Reg) (x1 : List Int) : Option (Int × Bool × Err × Reg) :=
  bnd (m_registry_Registry_find x0 x1) fun q5 => if q5.2.2.2.n ≠ 0 then (some (0, false, (⟨q5.2.2.2.n⟩ : Err), x0)) else (if 0 ≤ q5.2.2.1 then (some (q5.2.2.1, false, (⟨0⟩ : Err), x0)) else (if 65536 ≤ (x0.entries.length : Int) then (some (0, false, (⟨10⟩ : Err), x0)) else (bnd (appI 48 x0.entries [(⟨q5.1, (⟨(-1), (-1), 0⟩ : RLk)⟩ : REn)]) fun u53 => bnd (appI 8 (mget ([] : List Int) x0.table.l q5.2.1) ([(x0.entries.length : Int)] : List Int)) fun u82 => some ((x0.entries.length : Int), true, (⟨0⟩ : Err), (⟨x0.packer, u53, (⟨mput x0.table.l q5.2.1 u82⟩ : MapR 3 Int Int)⟩ : Reg)))))
theorem c_registry_Registry_Add {w : World} {O : Lab} {p0 i0 : Nat} {x0 : Reg} (hx0 : Ob i0 w O (.pointer (some ⟨p0, 0, none⟩)) x0) {vx1 : Value} {x1 : List Int} (hx1 : Vb w (Fr 0 w O) vx1 x1) {r : Int × Bool × Err × Reg} (hm : m_registry_Registry_Add x0 x1 = some r) :
    Fn Tryz.prog 44 [(.pointer (some ⟨p0, 0, none⟩)), vx1] w fun v w' => ∃ O', St (eT i0) w O w' O' ∧ ∃ v0 v1 v2 : Value, Ob i0 w' O' (.pointer (some ⟨p0, 0, none⟩)) r.2.2.2 ∧ v = .tuple #[v0, v1, v2] ∧ Vb w' (Fr 0 w' O') v0 r.1 ∧ Vb w' (Fr 0 w' O') v1 r.2.1 ∧ Vb w' (Fr 0 w' O') v2 r.2.2.1 := by
 obtain ⟨O0, hE, hz0, hl2⟩ := ent1 (w := w) (O := O) hx0.2
 have hx0' := Ob.leave hx0 hz0 hl2 (j := 2) (by decide)
 have hB : Bm w O0 w O0 := Bm.refl
 replace hx1 := hx1.mono hz0
 obtain ⟨A3, c4, rfl⟩ := hx1.form
 refine fn_enter Tryz.func44 rfl Tryz.ntmps44 rfl ?_
 unfold m_registry_Registry_Add at hm
 refine ewp_seq (ewp_region (o_as rfl rfl (o_as rfl rfl (o_as rfl rfl (o_z ?_)))))
 refine ewp_seq (ewp_seq (ewp_region (o_mv rfl rfl (o_pn rfl rfl ?_))))
 refine o_z ?_
 refine ewp_false rfl (ewp_skip (ewp_seq (ewp_region (o_mv rfl rfl (o_mv rfl rfl ?_)))))
 obtain ⟨q5, e6, hm⟩ := bs hm
 refine l_callM (O := O0) (c_registry_Registry_find hx0' hx1 e6) rfl rfl fun v11 w7 O8 S9 h10 => ?_
 obtain ⟨v13, v14, v15, v16, h12, rfl, h17, h18, h19, h20⟩ := h10
 obtain ⟨A21, c22, rfl⟩ := h17.form
 obtain ⟨rfl, r23⟩ := h18.int
 obtain ⟨rfl, r24⟩ := h19.int
 obtain ⟨rfl, r25⟩ := h20.err
 refine o_mv rfl rfl (o_ex rfl rfl rfl (o_ex rfl rfl rfl (o_ex rfl rfl rfl (o_ex rfl rfl rfl (o_as rfl rfl (o_as rfl rfl (o_as rfl rfl (o_as rfl rfl (o_z ?_)))))))))
 refine ewp_seq (ewp_block (ewp_seq (ewp_region (o_mv rfl rfl (o_rnS rfl rfl (fun c26 => ?_) fun c26 => ?_)))))
 ·
  replace hm := ip hm c26
  refine o_as rfl rfl (o_z ?_)
  refine ewp_true rfl (ewp_seq (ewp_region (o_mv rfl rfl (o_as rfl rfl (o_as rfl rfl (o_as rfl rfl (o_z ?_)))))))
  refine ewp_ret ?_
  obtain rfl := sm hm
  replace hB := hB.st S9
  obtain ⟨O', hS', hz, hl⟩ := hE.leave (fun q => if q = 2 then i0 else 0) rfl hB
  exact ret3 rfl (res_tmp rfl) (res_tmp rfl) (res_tmp rfl) ⟨O', hS', _, _, _, (Ob.leave h12 hz (hl 2 (by decide) (by decide)) hx0.2), rfl, (vInt (show inI64 (0) from by decide)), vBool, (vErr r25)⟩
 replace hm := im hm c26
 refine o_as rfl rfl (o_z ?_)
 refine ewp_false rfl (ewp_seq (ewp_region (o_mv rfl rfl (o_geS rfl rfl rfl (fun c27 => ?_) fun c27 => ?_))))
 ·
  replace hm := ip hm c27
  refine o_as rfl rfl (o_z ?_)
  refine ewp_true rfl (ewp_seq (ewp_region (o_mv rfl rfl (o_as rfl rfl (o_as rfl rfl (o_as rfl rfl (o_z ?_)))))))
  refine ewp_ret ?_
  obtain rfl := sm hm
  replace hB := hB.st S9
  obtain ⟨O', hS', hz, hl⟩ := hE.leave (fun q => if q = 2 then i0 else 0) rfl hB
  exact ret3 rfl (res_tmp rfl) (res_tmp rfl) (res_tmp rfl) ⟨O', hS', _, _, _, (Ob.leave h12 hz (hl 2 (by decide) (by decide)) hx0.2), rfl, (vInt r24), vBool, (vErr (show inI64 0 from by decide))⟩
 replace hm := im hm c27
 refine o_as rfl rfl (o_z ?_)
 refine ewp_false rfl (ewp_seq (ewp_region (o_mv rfl rfl (o_nc rfl rfl ?_))))
 obtain ⟨O28, v32, v35, v40, S29, ha31, h30, h33, h36, h41⟩ := Reg.opn h12 2 3 4 5 (by decide)
 obtain ⟨p34, rfl⟩ := h33.ptr
 obtain ⟨A37, c38, rfl⟩ := h36.form
 obtain ⟨p42, rfl⟩ := h41.mptr
 refine o_fa rfl rfl (o_ld (hc := Blk.cell (i := 1) (h30.1) rfl) rfl rfl ?_)
 refine o_ln rfl rfl ?_
 have l44 : x0.entries.length ≤ 9223372036854775807 := Nat.le_trans h36.len.2.1 h36.len.2.2
 have r43 : inI64 (x0.entries.length : Int) := rngNat l44
 refine o_geS rfl rfl rfl (fun c45 => ?_) fun c45 => ?_
 ·
  replace hm := ip hm c45
  refine o_as rfl rfl (o_z ?_)
  refine ewp_true rfl (ewp_seq (ewp_region (o_miE rfl rfl ?_)))
  refine o_as rfl rfl (o_as rfl rfl (o_as rfl rfl (o_z ?_)))
  refine ewp_ret ?_
  obtain ⟨O46, S47, hz49, ha50, h48⟩ := Reg.shut (x := x0) (l0 := 2) (l1 := 3) (l2 := 4) (l3 := 5) (by decide) h30 h33 h36 h41
  obtain rfl := sm hm
  replace hB := ((hB.st S9).st S29).st S47
  obtain ⟨O', hS', hz, hl⟩ := hE.leave (fun q => if q = 2 then i0 else 0) rfl hB
  exact ret3 rfl (res_tmp rfl) (res_tmp rfl) (res_tmp rfl) ⟨O', hS', _, _, _, (Ob.leave h48 hz (hl 2 (by decide) (by decide)) hx0.2), rfl, (vInt (show inI64 (0) from by decide)), vBool, (vErr (by decide))⟩
 replace hm := im hm c45
 refine o_as rfl rfl (o_z ?_)
 refine ewp_false rfl (ewp_skip (ewp_seq (ewp_region (o_mv rfl rfl (o_nc rfl rfl (o_fa rfl rfl (o_ld (hc := Blk.cell (i := 1) (h30.1) rfl) rfl rfl ?_)))))))
 refine o_ln rfl rfl ?_
 have l52 : x0.entries.length ≤ 9223372036854775807 := Nat.le_trans h36.len.2.1 h36.len.2.2
 have r51 : inI64 (x0.entries.length : Int) := rngNat l52
 refine o_as rfl rfl (o_z ?_)
 refine ewp_seq (ewp_region (o_mv rfl rfl (o_mv rfl rfl (o_nc rfl rfl (o_fa rfl rfl (o_ld (hc := Blk.cell (i := 1) (h30.1) rfl) rfl rfl ?_))))))
 refine o_mv rfl rfl (o_bd rfl rfl rfl ?_)
 refine o_bd rfl rfl rfl ?_
 obtain ⟨u53, e54, hm⟩ := bs hm
 obtain ⟨e54, e55, e56⟩ := appI_some e54
 replace h17 := h17.st S29
 refine l_append1 rfl (a := (⟨q5.1, (⟨(-1), (-1), 0⟩ : RLk)⟩ : REn)) h36 (Vb.ofAgg (cs := [(.slice A21 q5.1.length c22), (.int .i64 (-1)), (.int .i64 (-1)), (.int .i64 0)]) (x := (⟨q5.1, (⟨(-1), (-1), 0⟩ : RLk)⟩ : REn)) rfl ⟨_, rfl, h17, (show inI64 (-1) from by decide), (show inI64 (-1) from by decide), (show inI64 (0) from by decide)⟩) (fun _ => rfl) rfl (by decide) (by decide) e55 e56 ⟨rfl, rfl⟩ fun g57 A58 c59 w60 O61 S62 h63 => ?_
 rw [← e54] at h63 ⊢
 refine o_nc rfl rfl (o_fa rfl rfl ?_)
 replace h30 := h30.st S62
 refine l_store h30 rfl rfl rfl (nle_b rfl) (allOne rfl) fun w65 S66 h30 => ?_
 replace h30 : Lc 2 w65 O61 p0 137 [(.pointer (some ⟨p34, 0, none⟩)), (.slice A58 u53.length c59), (.map (some p42))] := h30
 refine o_z ?_
 refine ewp_seq (ewp_drawX [(13, [5, 7])] O61 ?_)
 refine x_pre (fuel := 8) [] [(5, true), (6, true), (7, true), (8, true), (9, true), (10, true), (11, true)] (by kernel_rfl) rfl ?_
 refine h_mv rfl rfl rfl (h_nc rfl rfl rfl (h_fa rfl rfl rfl (h_ldC (hc := fun w' ⟨O', hq⟩ => Blk.cell (i := 2) ((h30.st hq (by decide)).1) rfl) rfl rfl rfl ?_)))
 refine h_mv rfl rfl rfl ?_
 replace h41 := (h41.st S62).st S66
 obtain ⟨A69, c70, hl67, h68⟩ := MapR.get h41 q5.2.1
 refine h_lk q5.2.1 (fun w' ⟨O', hq⟩ => hl67.keep (hq.agree (i := 5) (by decide) _ (MapR.at h41))) rfl rfl rfl rfl ?_
 refine h_mv rfl rfl rfl (hwp_nilT ?_)
 refine x_pre (fuel := 3) [5, 7] [(0, true), (1, true), (2, true), (3, true), (4, true)] (by kernel_rfl) rfl ?_
 refine h_mv rfl rfl rfl (h_nc rfl rfl rfl (h_fa rfl rfl rfl (h_ldC (hc := fun w' ⟨O', hq⟩ => Blk.cell (i := 2) ((h30.st hq (by decide)).1) rfl) rfl rfl rfl ?_)))
 refine h_mv rfl rfl rfl (hwp_nilT ?_)
 refine x_one (i := 12) (by kernel_rfl) rfl ?_
 refine l_bslice 6 (by decide) O61 (xs := (([(x0.entries.length : Int)] : List Int) : List Int)) rfl rfl rfl rfl ⟨(vInt r51), trivial⟩ (by decide) (by decide) rfl fun g71 w72 O73 S74 h75 => ?_
 have hZ := S74.lst [] (fun _ h => h.elim)
 replace hl67 := hl67.keep (S74.agree (i := 5) id _ (MapR.at h41))
 replace h68 := h68.stS S74 id (fun _ _ => id)
 refine x_go [(13, [5, 7])] hZ (by kernel_rfl) ?_
 refine x_one (i := 13) (by kernel_rfl) rfl ?_
 replace h41 := h41.st S74
 obtain ⟨O77, S78, h79, h80⟩ := MapR.take h41 hl67 7 (by decide) (by decide)
 have hZ := S78.lst [5] (fun _ h => by cases h; decide)
 obtain ⟨u82, e83, hm⟩ := bs hm
 obtain ⟨e83, e84, e85⟩ := appI_some e83
 replace h75 := h75.st S78
 refine l_append rfl h80 (h75.rd) rfl rfl (by decide) e84 e85 rfl fun A86 c87 w88 O89 S90 h91 => ?_
 rw [← e83] at h91 ⊢
 replace hZ := hZ.cmp S90 [5, 7] (fun _ h => by cases h; decide) rfl
 refine x_go [] hZ (by kernel_rfl) ?_
 refine x_one (i := 14) (by kernel_rfl) rfl ?_
 replace h79 := h79.st S90
 refine l_mputR h79 h91 (by decide) rfl rfl rfl fun w93 O94 S95 h96 => ?_
 refine x_end (by kernel_rfl) ?_
 refine x_nil (by kernel_rfl) ?_
 refine ewp_seq (ewp_region (o_mv rfl rfl (o_as rfl rfl (o_as rfl rfl (o_as rfl rfl (o_z ?_))))))
 refine ewp_ret ?_
 replace h30 := (((h30.st S74).st S78).st S90).st S95
 replace h33 := (((((h33.st S62).st S66).st S74).st S78).st S90).st S95
 replace h63 := ((((h63.st S66).st S74).st S78).st S90).st S95
 obtain ⟨O97, S98, hz100, ha101, h99⟩ := Reg.shut (x := (⟨x0.packer, u53, (⟨mput x0.table.l q5.2.1 u82⟩ : MapR 3 Int Int)⟩ : Reg)) (l0 := 2) (l1 := 3) (l2 := 4) (l3 := 5) (by decide) h30 h33 h63 h96
 obtain rfl := sm hm
 replace hB := ((((((((hB.st S9).st S29).st S62).st S66).st S74).st S78).st S90).st S95).st S98
 obtain ⟨O', hS', hz, hl⟩ := hE.leave (fun q => if q = 2 then i0 else 0) rfl hB
 exact ret3 rfl (res_tmp rfl) (res_tmp rfl) (res_tmp rfl) ⟨O', hS', _, _, _, (Ob.leave h99 hz (hl 2 (by decide) (by decide)) hx0.2), rfl, (vInt r51), vBool, (vErr (show inI64 0 from by decide))⟩
noncomputable def m_registry_Registry_has (x0 : Reg) (x1 : Int) : Option Bool :=
  bnd (if 0 ≤ x1 then (if x1 < (x0.entries.length : Int) then (some true) else (some false)) else (some false) : Option Bool) fun y3 => some y3
theorem c_registry_Registry_has {w : World} {O : Lab} {p0 i0 : Nat} {x0 : Reg} (hx0 : Ob i0 w O (.pointer (some ⟨p0, 0, none⟩)) x0) {x1 : Int} (rx1 : inI64 x1) {r : Bool} (hm : m_registry_Registry_has x0 x1 = some r) :
    Fn Tryz.prog 85 [(.pointer (some ⟨p0, 0, none⟩)), (.int .i64 x1)] w fun v w' => ∃ O', St (eT i0) w O w' O' ∧ Ob i0 w' O' (.pointer (some ⟨p0, 0, none⟩)) x0 ∧ Vb w' (Fr 0 w' O') v r := by
 obtain ⟨O0, hE, hz0, hl2⟩ := ent1 (w := w) (O := O) hx0.2
 have hx0' := Ob.leave hx0 hz0 hl2 (j := 2) (by decide)
 have hB : Bm w O0 w O0 := Bm.refl
 refine fn_enter Tryz.func85 rfl Tryz.ntmps85 rfl ?_
 unfold m_registry_Registry_has at hm
 refine ewp_seq (ewp_region (o_as rfl rfl (o_z ?_)))
 refine ewp_seq ?_
 obtain ⟨y3, hy4, hm⟩ := bs hm
 refine ewp_join (fun l' w' => ∃ (x6 : Unit) (O' : Lab), subs l' [(4, (.bool y3))] ∧ Bm w O0 w' O' ∧ Ob 2 w' O' (.pointer (some ⟨p0, 0, none⟩)) x0) ?_ ?_
 ·
  refine ewp_region (o_mv rfl rfl (o_geS rfl rfl rfl (fun c7 => ?_) fun c7 => ?_))
  ·
   replace hy4 := ip hy4 c7
   refine o_mv rfl rfl (owp_yes rfl rfl (o_mv rfl rfl (owp_yes rfl rfl (o_mv rfl rfl (owp_yes rfl rfl (o_nc rfl rfl (owp_yes rfl rfl ?_)))))))
   obtain ⟨O8, v12, v15, v20, S9, ha11, h10, h13, h16, h21⟩ := Reg.opn hx0' 2 3 4 5 (by decide)
   obtain ⟨p14, rfl⟩ := h13.ptr
   obtain ⟨A17, c18, rfl⟩ := h16.form
   obtain ⟨p22, rfl⟩ := h21.mptr
   refine o_fa rfl rfl (owp_yes rfl rfl (o_ld (hc := Blk.cell (i := 1) (h10.1) rfl) rfl rfl ?_))
   refine owp_yes rfl rfl (o_ln rfl rfl ?_)
   have l24 : x0.entries.length ≤ 9223372036854775807 := Nat.le_trans h16.len.2.1 h16.len.2.2
   have r23 : inI64 (x0.entries.length : Int) := rngNat l24
   refine owp_yes rfl rfl (o_ltS rfl rfl rfl (fun c25 => ?_) fun c25 => ?_)
   ·
    replace hy4 := ip hy4 c25
    refine o_pt rfl rfl rfl (o_as rfl rfl (o_z ?_))
    obtain ⟨O26, S27, hz29, ha30, h28⟩ := Reg.shut (x := x0) (l0 := 2) (l1 := 3) (l2 := 4) (l3 := 5) (by decide) h10 h13 h16 h21
    obtain rfl := sm hy4
    replace hB := (hB.st S9).st S27
    exact ⟨(), _, ⟨rfl, trivial⟩, hB, h28⟩
   replace hy4 := im hy4 c25
   refine o_pt rfl rfl rfl (o_as rfl rfl (o_z ?_))
   obtain ⟨O31, S32, hz34, ha35, h33⟩ := Reg.shut (x := x0) (l0 := 2) (l1 := 3) (l2 := 4) (l3 := 5) (by decide) h10 h13 h16 h21
   obtain rfl := sm hy4
   replace hB := (hB.st S9).st S32
   exact ⟨(), _, ⟨rfl, trivial⟩, hB, h33⟩
  replace hy4 := im hy4 c7
  refine o_mv rfl rfl (owp_no rfl rfl rfl rfl (owp_no rfl rfl rfl rfl (owp_no rfl rfl rfl rfl (owp_no rfl rfl rfl rfl (owp_no rfl rfl rfl rfl (owp_no rfl rfl rfl rfl (owp_no rfl rfl rfl rfl (o_pf rfl rfl rfl (o_as rfl rfl (o_z ?_))))))))))
  obtain rfl := sm hy4
  exact ⟨(), _, ⟨rfl, trivial⟩, hB, hx0'⟩
 rintro l36 w37 ⟨x6, O38, hs39, hB, h24⟩
 refine ewp_sub _ hs39 ?_
 refine ewp_ret ?_
 obtain rfl := sm hm
 obtain ⟨O', hS', hz, hl⟩ := hE.leave (fun q => if q = 2 then i0 else 0) rfl hB
 exact ret1v rfl (res_tmp rfl) ⟨O', hS', (Ob.leave h24 hz (hl 2 (by decide) (by decide)) hx0.2), vBool⟩
noncomputable def m_registry_Registry_State (x0 : Reg) (x1 : Int) : Option ((List Int) × Err) :=
  bnd (m_registry_Registry_has x0 x1) fun q3 => if q3 = true then bnd (atI x0.entries x1) fun a27 => bnd (m_pack_Packer_Unpack x0.packer a27.words) fun q45 => some (q45.1, (⟨q45.2.n⟩ : Err)) else some (([] : List Int), (⟨1⟩ : Err))
theorem c_registry_Registry_State {w : World} {O : Lab} {p0 i0 : Nat} {x0 : Reg} (hx0 : Ob i0 w O (.pointer (some ⟨p0, 0, none⟩)) x0) {x1 : Int} (rx1 : inI64 x1) {r : (List Int) × Err} (hm : m_registry_Registry_State x0 x1 = some r) :
    Fn Tryz.prog 47 [(.pointer (some ⟨p0, 0, none⟩)), (.int .i64 x1)] w fun v w' => ∃ O', St (eT i0) w O w' O' ∧ ∃ v0 v1 : Value, Ob i0 w' O' (.pointer (some ⟨p0, 0, none⟩)) x0 ∧ v = .tuple #[v0, v1] ∧ Vb w' (Fr 0 w' O') v0 r.1 ∧ Vb w' (Fr 0 w' O') v1 r.2 := by
 obtain ⟨O0, hE, hz0, hl2⟩ := ent1 (w := w) (O := O) hx0.2
 have hx0' := Ob.leave hx0 hz0 hl2 (j := 2) (by decide)
 have hB : Bm w O0 w O0 := Bm.refl
 refine fn_enter Tryz.func47 rfl Tryz.ntmps47 rfl ?_
 unfold m_registry_Registry_State at hm
 refine ewp_seq (ewp_region (o_as rfl rfl (o_as rfl rfl (o_z ?_))))
 refine ewp_seq (ewp_block (ewp_seq (ewp_region (o_mv rfl rfl (o_pn rfl rfl ?_)))))
 refine o_as rfl rfl (o_z ?_)
 refine ewp_false rfl (ewp_seq (ewp_region (o_mv rfl rfl (o_mv rfl rfl ?_))))
 obtain ⟨q3, e4, hm⟩ := bs hm
 refine l_callM (O := O0) (c_registry_Registry_has hx0' rx1 e4) rfl rfl fun v9 w5 O6 S7 h8 => ?_
 obtain ⟨h10, h11⟩ := h8
 obtain rfl := h11.bool
 cases q3
 case false =>
  replace hm := iF hm
  refine o_nf rfl rfl (o_as rfl rfl (o_z ?_))
  refine ewp_true rfl (ewp_seq (ewp_region (o_miE rfl rfl ?_)))
  refine o_as rfl rfl (o_as rfl rfl (o_z ?_))
  refine ewp_ret ?_
  obtain rfl := sm hm
  replace hB := hB.st S7
  obtain ⟨O', hS', hz, hl⟩ := hE.leave (fun q => if q = 2 then i0 else 0) rfl hB
  exact ret2 rfl (res_tmp rfl) (res_tmp rfl) ⟨O', hS', _, _, (Ob.leave h10 hz (hl 2 (by decide) (by decide)) hx0.2), rfl, (Vb.mono (Vb.nil _ _) hz), (vErr (by decide))⟩
 replace hm := iT hm
 refine o_nt rfl rfl (o_as rfl rfl (o_z ?_))
 refine ewp_false rfl (ewp_skip (ewp_seq ?_))
 obtain ⟨O12, v16, v19, v24, S13, ha15, h14, h17, h20, h25⟩ := Reg.opn h10 2 3 4 5 (by decide)
 obtain ⟨p18, rfl⟩ := h17.ptr
 obtain ⟨A21, c22, rfl⟩ := h20.form
 obtain ⟨p26, rfl⟩ := h25.mptr
 refine ewp_drawX [(12, [3])] O12 ?_
 refine x_pre (fuel := 5) [] [(0, true), (1, true), (2, true), (3, true), (4, true), (5, true), (6, true), (7, true), (8, true), (9, true), (10, true), (11, true)] (by kernel_rfl) rfl ?_
 refine h_mv rfl rfl rfl (h_nc rfl rfl rfl (h_fa rfl rfl rfl (h_ldC (hc := fun w' ⟨O', hq⟩ => Blk.cell (i := 0) ((h14.st hq (by decide)).1) rfl) rfl rfl rfl ?_)))
 refine h_mv rfl rfl rfl (h_nc rfl rfl rfl (h_fa rfl rfl rfl (h_ldC (hc := fun w' ⟨O', hq⟩ => Blk.cell (i := 1) ((h14.st hq (by decide)).1) rfl) rfl rfl rfl ?_)))
 refine h_mv rfl rfl rfl ?_
 obtain ⟨a27, e28, hm⟩ := bs hm
 obtain ⟨p30, x29⟩ := atI_some' e28
 obtain ⟨b31, o32, ce33, hA34, hF37, hl35, hd36, v38, rfl, h39, r42, r43, r44⟩ := h20.elemF x29
 obtain ⟨A40, c41, rfl⟩ := h39.form
 refine h_iaE (hA := hA34) (hj := (Int.toNat_of_nonneg p30).symm) (hlt := hl35) rfl rfl rfl rfl ?_
 refine h_fa rfl rfl rfl (h_ldC (hc := fun w' ⟨O', hq⟩ => cat0 (cellsAt_agree (hq.agree (i := 4) (by decide)) hF37 hd36)) rfl rfl rfl ?_)
 refine hwp_nilT ?_
 refine x_one (i := 12) (by kernel_rfl) rfl ?_
 obtain ⟨q45, e46, hm⟩ := bs hm
 refine l_callM (O := O12) (c_pack_Packer_Unpack h17 h39 e46) rfl rfl fun v51 w47 O48 S49 h50 => ?_
 obtain ⟨v53, v54, h52, rfl, h55, h56⟩ := h50
 obtain ⟨A57, c58, rfl⟩ := h55.form
 obtain ⟨rfl, r59⟩ := h56.err
 have hZ := S49.lst [3] (fun _ h => by cases h; decide)
 refine x_go [] hZ (by kernel_rfl) ?_
 refine x_pre (fuel := 0) [] [(13, true), (14, true), (15, true), (16, true)] (by kernel_rfl) rfl ?_
 refine h_ex rfl rfl rfl rfl (h_ex rfl rfl rfl rfl (h_as rfl rfl rfl (h_as rfl rfl rfl (hwp_nilT ?_))))
 refine x_nil (by kernel_rfl) ?_
 refine ewp_ret ?_
 replace h14 := h14.st S49
 replace h20 := h20.st S49
 replace h25 := h25.st S49
 obtain ⟨O60, S61, hz63, ha64, h62⟩ := Reg.shut (x := x0) (l0 := 2) (l1 := 3) (l2 := 4) (l3 := 5) (by decide) h14 h52 h20 h25
 obtain rfl := sm hm
 replace hB := (((hB.st S7).st S13).st S49).st S61
 obtain ⟨O', hS', hz, hl⟩ := hE.leave (fun q => if q = 2 then i0 else 0) rfl hB
 replace h55 := h55.st S61
 exact ret2 rfl (res_tmp rfl) (res_tmp rfl) ⟨O', hS', _, _, (Ob.leave h62 hz (hl 2 (by decide) (by decide)) hx0.2), rfl, (Vb.mono h55 hz), (vErr r59)⟩
end
section
open Go Go.RowKit
attribute [local irreducible] ewp owp hwp hwq hws Ev Evg Fn retPost loud loudS Res1
attribute [local irreducible] hwx loudX
def m_slices_Clone_Lapi_Fact_api_Fact (xs : List Fct) : Option (List Fct) := if xs.length * 16 ≤ 140737488355328 ∧ xs.length ≤ 9223372036854775807 then some xs else none
theorem c_slices_Clone_Lapi_Fact_api_Fact {w : World} {A : Nat → Prop} (hA : ∀ k, A k → k < w.heap.size) {v0 : Value} {x0 : List Fct} (h0 : Vb w A v0 x0) {r : List Fct} (hm : m_slices_Clone_Lapi_Fact_api_Fact x0 = some r) :
    Fn Tryz.prog 84 [v0] w fun v w' => Ext w w' ∧ RowR w w' (upA A w w') 123 v r := by
  obtain ⟨⟨hl, hl2⟩, rfl⟩ := ite_some hm
  obtain ⟨O, hB, hA0⟩ := enter hA
  replace h0 := h0.mono hA0
  obtain ⟨Ad, c, rfl⟩ := h0.form
  refine fn_enter Tryz.func84 rfl Tryz.ntmps84 rfl ?_
  cases Ad with
  | none =>
    have hx : x0 = [] := by
      cases x0 with
      | nil => rfl
      | cons x xs => obtain ⟨_, _, _, h, _⟩ := h0.elem (k := 0) (x := x) rfl; cases h
    subst hx
    ((repeat (first | refine e_go ?_ | refine ewp_true rfl ?_ | refine ewp_false rfl ?_)) <;> (refine o_as rfl rfl ?_ <;> (refine o_z ?_)) <;> (repeat (first | refine e_go ?_ | refine ewp_true rfl ?_ | refine ewp_false rfl ?_)) <;> (refine o_mv rfl rfl ?_ <;> refine o_sn rfl rfl ?_ <;> (refine o_z ?_)) <;> (repeat (first | refine e_go ?_ | refine ewp_true rfl ?_ | refine ewp_false rfl ?_)) <;> (refine o_as rfl rfl ?_ <;> (refine o_z ?_)) <;> (repeat (first | refine e_go ?_ | refine ewp_true rfl ?_ | refine ewp_false rfl ?_)))
    exact ret1 rfl rfl ⟨Below.refl _ _, RowR.nil⟩
  | some ad =>
    ((repeat (first | refine e_go ?_ | refine ewp_true rfl ?_ | refine ewp_false rfl ?_)) <;> (refine o_as rfl rfl ?_ <;> (refine o_z ?_)) <;> (repeat (first | refine e_go ?_ | refine ewp_true rfl ?_ | refine ewp_false rfl ?_)) <;> (refine o_mv rfl rfl ?_ <;> refine o_sn rfl rfl ?_ <;> (refine o_z ?_)) <;> (repeat (first | refine e_go ?_ | refine ewp_true rfl ?_ | refine ewp_false rfl ?_)))
    refine l_bslice 2 (by decide) O (xs := ([] : List Fct)) rfl rfl rfl rfl trivial (by decide) (by decide) rfl fun g w1 O1 S1 h1 => ?_
    replace hB := hB.st S1 (fun h => h) (fun h => h)
    replace h0 := h0.st S1 (fun h => h)
    (refine o_mv rfl rfl ?_)
    refine l_append rfl h1 h0.rd rfl rfl (by decide) (by simpa using hl) (by simpa using hl2) rfl fun A2 c2 w2 O2 S2 h2 => ?_
    replace hB := hB.st S2 (by decide) (by decide)
    rw [List.nil_append] at h2 ⊢
    (refine o_as rfl rfl ?_ <;> (refine o_z ?_))
    repeat (first | refine e_go ?_ | refine ewp_true rfl ?_ | refine ewp_false rfl ?_)
    exact ret1 rfl rfl ⟨hB.ext, h2.out hB (by decide)⟩
end
section
open Go Go.RowKit
/-- The cells of an element, as they lie. -/
structure Raw (a : Bool) (n : Nat) where
  cs : List Value
  len : cs.length = n
  one : ∀ u ∈ cs, u.oneCell' = true
instance {a : Bool} {n : Nat} : Rp (Raw a n) where
  isAgg := a
  size := n
  R _ _ cs x := cs = x.cs
  len := by rintro _ _ cs x rfl; exact x.len
  one := by rintro _ _ cs x rfl; exact x.one
  agree := by rintro _ _ _ cs x rfl _; rfl
  mono := by rintro _ _ _ cs x rfl _; rfl
/-- A type whose values hold a row in cell q. -/
class NestAt (α β : Type) [Rp α] [Rp β] where
  q : Nat
  get : α → List β
  put : α → List β → α
  get_put : ∀ x y, get (put x y) = y
  put_put : ∀ x y z, put (put x y) z = put x z
  split : ∀ {w F cs x}, Rp.R w F cs x → Rp.R w F (cs.set q (.slice none 0 0)) (put x []) ∧ ∃ v, cs[q]? = some v ∧ Vb w F v (get x)
  join : ∀ {w F cs x v}, Rp.R w F (cs.set q (.slice none 0 0)) (put x []) → cs[q]? = some v → Vb w F v (get x) → Rp.R w F cs x
/-- Rows in the elements' cells: their blocks have label j; one of them may be out. -/
def Nest {α β : Type} [Rp α] [Rp β] [N : NestAt α β] {a : Bool} {n : Nat} (j : Nat) (w : World) (O : Lab) (e : TypeId) (rs : List (Raw a n)) (xs : List α) (skip : Option Nat) : Prop :=
  (∃ L : Lab, rs.length = xs.length ∧ ∀ (k : Nat) (r : Raw a n) (x : α), rs[k]? = some r → xs[k]? = some x →
    Rp.R w (Fr 0 w O) (r.cs.set N.q (.slice none 0 0)) (N.put x []) ∧ (skip ≠ some k → ∃ v, r.cs[N.q]? = some v ∧ RwM w (Fr 0 w O) (fun b => Fr j w O b ∧ L b = k) e v (N.get x))) ∧ j ≠ 0
section
variable {α β : Type} [Rp α] [Rp β] [N : NestAt α β] {a : Bool} {n i j l : Nat} {T : Nat → Prop} {w w' : World} {O O' : Lab} {e : TypeId} {rs : List (Raw a n)} {xs : List α} {skip : Option Nat}
theorem Nest.st (h : Nest (β := β) j w O e rs xs skip) (hS : St T w O w' O') (h0 : ¬ T 0 := by decide) (hj : ¬ T j := by decide) : Nest (β := β) j w' O' e rs xs skip := by
  obtain ⟨⟨L, hl, hr⟩, h1⟩ := h
  refine ⟨⟨L, hl, fun k r x g1 g2 => ⟨Rp.mono (Rp.agree (hr k r x g1 g2).1 (hS.agree h0)) (hS.fr h0), fun g3 => ?_⟩⟩, h1⟩
  obtain ⟨v, hv, hm⟩ := (hr k r x g1 g2).2 g3
  exact ⟨v, hv, (hm.agree (hS.agree h0) fun b hb => hS.agree hj b hb.1).mono (hS.fr h0) (fun b hb => ⟨hS.fr hj b hb.1, hb.2⟩) fun b hf hm => frNe0 h1 b hf hm.1⟩
theorem Nest.take (h : Nest (β := β) j w O e rs xs none) {k : Nat} {r : Raw a n} {x : α} (hr : rs[k]? = some r) (hx : xs[k]? = some x) (l : Nat) (hl : l ≠ 0) (hlj : l ≠ j) :
    ∃ O' v, St (eT j) w O w O' ∧ r.cs[N.q]? = some v ∧ Nest (β := β) j w O' e rs xs (some k) ∧ Rw l w O' e v (N.get x) := by
  obtain ⟨⟨L, hlen, hra⟩, hj⟩ := h
  obtain ⟨v, hv, hm⟩ := (hra k r x hr hx).2 (by simp)
  have hF : ∀ b, Fr 0 w O b → Fr 0 w (fun b => if O b = j ∧ L b = k then l else O b) b := fun b hb => ⟨hb.1, by show (if _ then _ else _) = _; rw [if_neg (by rw [hb.2]; exact fun h => hj h.1.symm)]; exact hb.2⟩
  refine ⟨fun b => if O b = j ∧ L b = k then l else O b, v, ⟨rfl, rfl, rfl, Nat.le_refl _, fun b _ hb => ⟨rfl, if_neg fun h => hb h.1⟩⟩, hv, ⟨⟨L, hlen, fun k' r' x' g1 g2 => ⟨Rp.mono (hra k' r' x' g1 g2).1 hF, fun g3 => ?_⟩⟩, hj⟩, hm.rw hF (fun b hb => ⟨hb.1.1, if_pos ⟨hb.1.2, hb.2⟩⟩) hl⟩
  obtain ⟨v', hv', hm'⟩ := (hra k' r' x' g1 g2).2 (by simp)
  refine ⟨v', hv', hm'.mono hF (fun b hb => ?_) fun b hf hm => frNe0 hj b hf hm.1⟩
  have hne : ¬ (O b = j ∧ L b = k) := fun h => g3 (by rw [← h.2, hb.2])
  exact ⟨⟨hb.1.1, by show (if _ then _ else _) = _; rw [if_neg hne]; exact hb.1.2⟩, hb.2⟩
theorem Nest.put {k : Nat} (h : Nest (β := β) j w O e rs xs (some k)) {r r' : Raw a n} {x : α} {v : Value} {ys : List β} (hr : rs[k]? = some r) (hx : xs[k]? = some x) (hr' : r'.cs = r.cs.set N.q v) (hq : N.q < n) (hw : Rw l w O e v ys) (hlj : l ≠ j) :
    ∃ O', St (eT l) w O w O' ∧ Nest (β := β) j w O' e (rs.set k r') (xs.set k (N.put x ys)) none := by
  obtain ⟨⟨L, hlen, hra⟩, hj⟩ := h
  have hl0 : l ≠ 0 := hw.2.2
  have hF : ∀ b, Fr 0 w O b → Fr 0 w (fun b => if O b = l then j else O b) b := fun b hb => ⟨hb.1, by show (if _ then _ else _) = _; rw [if_neg (by rw [hb.2]; exact Ne.symm hl0)]; exact hb.2⟩
  refine ⟨fun b => if O b = l then j else O b, ⟨rfl, rfl, rfl, Nat.le_refl _, fun b _ hb => ⟨rfl, if_neg hb⟩⟩, ⟨fun b => if O b = l then k else L b, by simp [hlen], fun k' r2 x2 g1 g2 => ?_⟩, hj⟩
  by_cases hk : k' = k
  · subst hk
    rw [List.getElem?_set_self (lt_of_get hr)] at g1
    rw [List.getElem?_set_self (lt_of_get hx)] at g2
    have e1 : r' = r2 := by simpa using g1
    have e2 : N.put x ys = x2 := by simpa using g2
    subst e1 e2
    refine ⟨?_, fun _ => ⟨v, ?_, ?_⟩⟩
    · rw [hr', List.set_set, N.put_put]; exact Rp.mono (hra k' r x hr hx).1 hF
    · rw [hr', List.getElem?_set_self (by rw [r.len]; exact hq)]
    · rw [N.get_put]
      have h1 : RwM w (Fr 0 w O) (Fr l w O) e v ys := hw.m (fun _ h => h) (fun _ h => h) (frNe0 hl0)
      exact h1.mono hF (fun b hb => ⟨⟨hb.1, if_pos hb.2⟩, if_pos hb.2⟩) fun b hf hm => frNe0 hj b hf hm.1
  · rw [List.getElem?_set_ne (Ne.symm hk)] at g1 g2
    refine ⟨Rp.mono (hra k' r2 x2 g1 g2).1 hF, fun _ => ?_⟩
    obtain ⟨v', hv', hm⟩ := (hra k' r2 x2 g1 g2).2 (fun h => hk (Option.some.inj h).symm)
    refine ⟨v', hv', hm.mono hF (fun b hb => ?_) fun b hf hm => frNe0 hj b hf hm.1⟩
    have hb' : O b ≠ l := by rw [hb.1.2]; exact Ne.symm hlj
    exact ⟨⟨hb.1.1, by show (if _ then _ else _) = _; rw [if_neg hb']; exact hb.1.2⟩, by show (if _ then _ else _) = _; rw [if_neg hb']; exact hb.2⟩
theorem Chunks.conv {γ δ : Type} [Rp γ] [Rp δ] {F G : Nat → Prop} : ∀ {rs : List γ} {xs : List δ} {cells : List Value}, rs.length = xs.length → (∀ (k : Nat) r x cs, rs[k]? = some r → xs[k]? = some x → Rp.R w F cs r → Rp.R w G cs x) → Chunks w F cells rs → Chunks w G cells xs
  | [], [], _, _, _, h => h
  | [], _ :: _, _, hl, _, _ => by simp at hl
  | _ :: _, [], _, hl, _, _ => by simp at hl
  | r :: rs, x :: xs, _, hl, hc, ⟨cs, rest, he, hr, h⟩ =>
    ⟨cs, rest, he, hc 0 r x cs rfl rfl hr, Chunks.conv (by simpa using hl) (fun k r x cs g1 g2 => hc (k + 1) r x cs (by simpa using g1) (by simpa using g2)) h⟩
theorem Nest.lend {e' : TypeId} {v : Value} (hR : Rw i w O e' v rs) (h : Nest (β := β) j w O e rs xs none) : Vb w (FrS [i, j] w O) v xs := by
  obtain ⟨⟨L, hl, hra⟩, hj⟩ := h
  obtain ⟨A, c, cells, h1, h2, h3, h4, h5⟩ := hR.1.vb.slice
  refine .of_slice ⟨A, c, cells, by rw [h1, hl], by omega, h3, ?_, fun hp => ?_⟩
  · refine h4.conv hl fun k r x cs g1 g2 g3 => ?_
    have g3' : cs = r.cs := g3
    subst g3'
    obtain ⟨q1, q2⟩ := hra k r x g1 g2
    obtain ⟨v', hv', hm⟩ := q2 (by simp)
    refine N.join (Rp.mono q1 fun b hb => ⟨hb.1, .inl hb.2⟩) hv' (hm.1.vb.mono fun b hb => ?_)
    rcases hb with hb | hb
    · exact ⟨hb.1, .inl hb.2⟩
    · have := (hm.2 b hb).1; exact ⟨this.1, .inr (by rw [this.2]; simp)⟩
  · obtain ⟨b, o, h6, h7, h8⟩ := h5 (by omega)
    refine ⟨b, o, h6, ?_, h8⟩
    rcases h7 with h7 | h7
    · exact ⟨h7.1, .inl h7.2⟩
    · exact ⟨(hR.1.lt b h7).2, .inr (by rw [hR.2.1 b h7]; simp)⟩
end
instance {β : Type} [Rp β] : NestAt (List β) β where
  q := 0
  get x := x
  put _ y := y
  get_put _ _ := rfl
  put_put _ _ _ := rfl
  split := by
    intro w F cs x h
    have hl := Rp.len h
    match cs, hl, h with
    | [v], _, h => exact ⟨(Vb.nil w F).cells1, v, rfl, by unfold Vb; exact h⟩
  join := by
    intro w F cs x v h hv hx
    have hl := Rp.len h
    rw [List.length_set] at hl
    match cs, hl, hv with
    | [u], _, hv =>
      obtain rfl : u = v := by simpa using hv
      exact hx.cells1
/-- A row whose elements own a row each in cell q: all of it has one label; one of the inner rows may be out. -/
def NR {α : Type} (β : Type) [Rp α] [Rp β] [N : NestAt α β] (i : Nat) (w : World) (O : Lab) (e' e : TypeId) (v : Value) (xs : List α) (skip : Option Nat) : Prop :=
  ∃ (rs : List (Raw (Rp.isAgg α) (Rp.size α))) (L : Lab), Own w 0 (Fr 0 w O) e' v rs ∧ (∀ g, v.ownBlock = some g → O g = i ∧ L g = 0) ∧ i ≠ 0 ∧ rs.length = xs.length ∧
    ∀ (k : Nat) (r : Raw (Rp.isAgg α) (Rp.size α)) (x : α), rs[k]? = some r → xs[k]? = some x →
      Rp.R w (Fr 0 w O) (r.cs.set N.q (.slice none 0 0)) (N.put x []) ∧ (skip ≠ some k → ∃ u, r.cs[N.q]? = some u ∧ RwM w (Fr 0 w O) (fun b => Fr i w O b ∧ L b = k + 1) e u (N.get x))
theorem labBound (O : Lab) : ∀ n : Nat, ∃ b, ∀ k, k < n → O k ≤ b
  | 0 => ⟨0, fun k h => by omega⟩
  | n + 1 => by
    obtain ⟨b, hb⟩ := labBound O n
    refine ⟨max b (O n), fun k hk => ?_⟩
    rcases Nat.lt_or_ge k n with h | h
    · have := hb k h; omega
    · have : k = n := by omega
      subst this; omega
theorem labFresh (O : Lab) (n a b : Nat) : ∃ j, j ≠ 0 ∧ j ≠ a ∧ j ≠ b ∧ ∀ k, k < n → O k ≠ j := by
  obtain ⟨c, hc⟩ := labBound O n
  exact ⟨c + a + b + 1, by omega, by omega, by omega, fun k hk => by have := hc k hk; omega⟩
theorem St.via {T T1 T2 T3 : Nat → Prop} {w w' : World} {O O1 O2 O3 : Lab} {j : Nat} (h1 : St T1 w O w O1) (h2 : St T2 w O1 w' O2) (h3 : St T3 w' O2 w' O3) (hj : ∀ k, k < w.heap.size → O k ≠ j) (a1 : ∀ q, T1 q → T q) (a2 : ∀ q, T2 q → T q ∨ q = j) (a3 : ∀ q, T3 q → T q ∨ q = j) : St T w O w' O3 :=
  ⟨(h3.os.trans h2.os).trans h1.os, (h3.tape.trans h2.tape).trans h1.tape, (h3.output.trans h2.output).trans h1.output, Nat.le_trans h2.size h3.size, fun k hk hT => by
    obtain ⟨e1, e2⟩ := h1.same k hk fun h => hT (a1 _ h)
    obtain ⟨e3, e4⟩ := h2.same k hk (by rw [e2]; exact fun h => (a2 _ h).elim hT (hj k hk))
    obtain ⟨e5, e6⟩ := h3.same k (Nat.lt_of_lt_of_le hk h2.size) (by rw [e4, e2]; exact fun h => (a3 _ h).elim hT (hj k hk))
    exact ⟨(e5.trans e3).trans e1, (e6.trans e4).trans e2⟩⟩
section
variable {α β : Type} [Rp α] [Rp β] [N : NestAt α β] {i j l : Nat} {T : Nat → Prop} {w w' : World} {O O' : Lab} {e' e : TypeId} {v : Value} {xs : List α} {skip : Option Nat}
theorem NR.opn (h : NR β i w O e' e v xs skip) (j : Nat) (hj : j ≠ 0) (hji : j ≠ i) : ∃ (rs : List (Raw (Rp.isAgg α) (Rp.size α))) (O1 : Lab), St (eT i) w O w O1 ∧ Rw i w O1 e' v rs ∧ Nest (β := β) j w O1 e rs xs skip := by
  obtain ⟨rs, L, h1, h2, h3, h4, h5⟩ := h
  have hF : ∀ b, Fr 0 w O b → Fr 0 w (fun b => if O b = i ∧ L b ≠ 0 then j else O b) b := fun b hb => ⟨hb.1, by show (if _ then _ else _) = _; rw [if_neg (by rw [hb.2]; exact fun h => h3 h.1.symm)]; exact hb.2⟩
  refine ⟨rs, fun b => if O b = i ∧ L b ≠ 0 then j else O b, ⟨rfl, rfl, rfl, Nat.le_refl _, fun b _ hb => ⟨rfl, if_neg fun h => hb h.1⟩⟩, ⟨h1.mono hF fun g hg hf => ?_, fun g hg => ?_, h3⟩, ⟨fun b => L b - 1, h4, fun k r x g1 g2 => ⟨Rp.mono (h5 k r x g1 g2).1 hF, fun g3 => ?_⟩⟩, hj⟩
  · have h8 : (if O g = i ∧ L g ≠ 0 then j else O g) = 0 := hf.2
    rw [if_neg (fun h => h.2 (h2 g hg).2), (h2 g hg).1] at h8
    exact h3 h8
  · show (if O g = i ∧ L g ≠ 0 then j else O g) = i
    rw [if_neg (fun h => h.2 (h2 g hg).2)]; exact (h2 g hg).1
  · obtain ⟨u, hu, hm⟩ := (h5 k r x g1 g2).2 g3
    refine ⟨u, hu, hm.mono hF (fun b hb => ⟨⟨hb.1.1, ?_⟩, ?_⟩) fun b hf hm => frNe0 hj b hf hm.1⟩
    · show (if O b = i ∧ L b ≠ 0 then j else O b) = j
      rw [if_pos ⟨hb.1.2, by have := hb.2; omega⟩]
    · show L b - 1 = k
      have := hb.2; omega
theorem NR.shut {rs : List (Raw (Rp.isAgg α) (Rp.size α))} (hR : Rw i w O e' v rs) (hN : Nest (β := β) j w O e rs xs skip) (hji : j ≠ i) : ∃ O1, St (eT j) w O w O1 ∧ NR β i w O1 e' e v xs skip := by
  obtain ⟨⟨L, h4, h5⟩, hj⟩ := hN
  obtain ⟨h1, h2, h3⟩ := hR
  have hF : ∀ b, Fr 0 w O b → Fr 0 w (fun b => if O b = j then i else O b) b := fun b hb => ⟨hb.1, by show (if _ then _ else _) = _; rw [if_neg (by rw [hb.2]; exact Ne.symm hj)]; exact hb.2⟩
  have hi : ∀ g, v.ownBlock = some g → (if O g = j then i else O g) = i := fun g hg => by
    split
    · rfl
    · exact h2 g hg
  refine ⟨fun b => if O b = j then i else O b, ⟨rfl, rfl, rfl, Nat.le_refl _, fun b _ hb => ⟨rfl, if_neg hb⟩⟩, rs, fun b => if O b = j then L b + 1 else 0, h1.mono hF fun g hg hf => h3 (((hi g hg).symm.trans hf.2)), fun g hg => ⟨hi g hg, ?_⟩, h3, h4, fun k r x g1 g2 => ⟨Rp.mono (h5 k r x g1 g2).1 hF, fun g3 => ?_⟩⟩
  · show (if O g = j then L g + 1 else 0) = 0
    rw [if_neg (by rw [h2 g hg]; exact Ne.symm hji)]
  · obtain ⟨u, hu, hm⟩ := (h5 k r x g1 g2).2 g3
    refine ⟨u, hu, hm.mono hF (fun b hb => ⟨⟨hb.1.1, if_pos hb.1.2⟩, ?_⟩) fun b hf hm => frNe0 h3 b hf hm.1⟩
    show (if O b = j then L b + 1 else 0) = k + 1
    rw [if_pos hb.1.2, hb.2]
theorem NR.st (h : NR β i w O e' e v xs skip) (hS : St T w O w' O') (h0 : ¬ T 0 := by decide) (hi : ¬ T i := by decide) : NR β i w' O' e' e v xs skip := by
  obtain ⟨rs, L, h1, h2, h3, h4, h5⟩ := h
  have hR : Rw i w' O' e' v rs := Rw.st (O := O) ⟨h1, fun g hg => (h2 g hg).1, h3⟩ hS h0 hi
  refine ⟨rs, L, hR.1, fun g hg => ⟨hR.2.1 g hg, (h2 g hg).2⟩, h3, h4, fun k r x g1 g2 => ⟨Rp.mono (Rp.agree (h5 k r x g1 g2).1 (hS.agree h0)) (hS.fr h0), fun g3 => ?_⟩⟩
  obtain ⟨u, hu, hm⟩ := (h5 k r x g1 g2).2 g3
  exact ⟨u, hu, (hm.agree (hS.agree h0) fun b hb => hS.agree hi b hb.1).mono (hS.fr h0) (fun b hb => ⟨hS.fr hi b hb.1, hb.2⟩) fun b hf hm => frNe0 h3 b hf hm.1⟩
theorem NR.lend (h : NR β i w O e' e v xs none) : Vb w (FrS [i] w O) v xs := by
  obtain ⟨j, hj, hji, _, hf⟩ := labFresh O w.heap.size i 0
  obtain ⟨rs, O1, hS, hR, hN⟩ := h.opn j hj hji
  refine (Nest.lend hR hN).mono fun k hk => ⟨hk.1, ?_⟩
  by_cases hi : O k = i
  · exact .inr (by rw [hi]; simp)
  · have := (hS.same k hk.1 hi).2
    rcases hk.2 with h0 | h0
    · exact .inl (this.symm.trans h0)
    · rw [this] at h0
      rcases List.mem_cons.1 h0 with h0 | h0
      · exact (hi h0).elim
      · exact (hf k hk.1 (by simpa using h0)).elim
theorem NR.freeze (h : NR β i w O e' e v xs none) : ∃ O', St (eT i) w O w O' ∧ Vb w (Fr 0 w O') v xs := by
  refine ⟨fun k => if O k = i then 0 else O k, ⟨rfl, rfl, rfl, Nat.le_refl _, fun k _ hk => ⟨rfl, if_neg hk⟩⟩, h.lend.mono fun k hk => ⟨hk.1, ?_⟩⟩
  show (if _ then _ else _) = _
  rcases hk.2 with h0 | h0
  · split
    · rfl
    · exact h0
  · rw [if_pos (by simpa using h0)]
theorem NR.at {A : Option Addr} {m c : Nat} (h : NR β i w O e' e (.slice A m c) xs skip) {k : Nat} {x : α} (hx : xs[k]? = some x) : ∃ b o, A = some ⟨b, o, none⟩ ∧ k < m := by
  obtain ⟨rs, L, h1, h2, h3, h4, h5⟩ := h
  have hk : k < rs.length := by rw [h4]; exact lt_of_get hx
  obtain ⟨b, o, cs, h6, h7, _⟩ := Rw.elem (i := i) (O := O) ⟨h1, fun g hg => (h2 g hg).1, h3⟩ (List.getElem?_eq_getElem hk)
  exact ⟨b, o, h6, h7⟩
/-- An inner row is looked at. -/
theorem NR.peek {A : Option Addr} {m c b o : Nat} (h : NR β i w O e' e (.slice A m c) xs none) (hA : A = some ⟨b, o, none⟩) {k : Nat} {x : α} (hx : xs[k]? = some x) :
    ∃ (A' : Option Addr) (c' : Nat), w.cell? ⟨b, o + k * Rp.size α + N.q, none⟩ = some (.slice A' (N.get x).length c') ∧ Vb w (FrS [i] w O) (.slice A' (N.get x).length c') (N.get x) := by
  obtain ⟨rs, L, h1, h2, h3, h4, h5⟩ := h
  have hk : k < rs.length := by rw [h4]; exact lt_of_get hx
  have hr : rs[k]? = some rs[k] := List.getElem?_eq_getElem hk
  obtain ⟨b', o', cs, h6, h7, h8, h9⟩ := Rw.elem (i := i) (O := O) ⟨h1, fun g hg => (h2 g hg).1, h3⟩ hr
  obtain ⟨rfl, rfl⟩ : b = b' ∧ o = o' := by rw [hA] at h6; injection h6 with h6; injection h6 with h6 h7; exact ⟨h6, h7⟩
  have h9' : cs = rs[k].cs := h9
  subst h9'
  obtain ⟨u, hu, hm⟩ := (h5 k rs[k] x hr hx).2 (by simp)
  obtain ⟨A', c', _, rfl, _⟩ := hm.1.chunk
  refine ⟨A', c', cellsAt_get h8 _ _ hu, hm.1.vb.mono fun g hg => ?_⟩
  rcases hg with hg | hg
  · exact ⟨hg.1, .inl hg.2⟩
  · have := (hm.2 g hg).1; exact ⟨this.1, .inr (by rw [this.2]; simp)⟩
theorem NR.stay {A : Option Addr} {m c b o p : Nat} {u : Value} (h : NR β i w O e' e (.slice A m c) xs skip) (hA : A = some ⟨b, o, none⟩) (hS : St T w O w' O') (hi : ¬ T i) (hc : w.cell? ⟨b, p, none⟩ = some u) : w'.cell? ⟨b, p, none⟩ = some u := by
  obtain ⟨rs, L, h1, h2, h3, h4, h5⟩ := h
  subst hA
  have := hS.same b (h1.lt b rfl).2 (by rw [(h2 b rfl).1]; exact hi)
  rw [← hc]
  unfold World.cell?
  rw [this.1]
/-- An inner row is taken out: it becomes a row of its own. -/
theorem NR.take {A : Option Addr} {m c b o : Nat} (h : NR β i w O e' e (.slice A m c) xs none) (hA : A = some ⟨b, o, none⟩) {k : Nat} {x : α} (hx : xs[k]? = some x) (l : Nat) (hl : l ≠ 0) (hli : l ≠ i) :
    ∃ (O' : Lab) (A' : Option Addr) (c' : Nat), St (eT i) w O w O' ∧ w.cell? ⟨b, o + k * Rp.size α + N.q, none⟩ = some (.slice A' (N.get x).length c') ∧ NR β i w O' e' e (.slice A m c) xs (some k) ∧ Rw l w O' e (.slice A' (N.get x).length c') (N.get x) := by
  obtain ⟨j, hj, hji, hjl, hf⟩ := labFresh O w.heap.size i l
  obtain ⟨rs, O1, hS, hR, hN⟩ := h.opn j hj hji
  have hlen : rs.length = xs.length := by obtain ⟨⟨_, h, _⟩, _⟩ := hN; exact h
  have hk : k < rs.length := by rw [hlen]; exact lt_of_get hx
  have hr : rs[k]? = some rs[k] := List.getElem?_eq_getElem hk
  obtain ⟨O2, u, hS2, hu, hN2, hw⟩ := hN.take hr hx l hl (Ne.symm hjl)
  obtain ⟨A', c', rfl⟩ := hw.form
  have hR2 := hR.st hS2 (fun h => hj h.symm) (Ne.symm hji)
  obtain ⟨O3, hS3, h3⟩ := NR.shut hR2 hN2 hji
  obtain ⟨b', o', cs, h1, h2, h4, h5⟩ := hR.elem hr
  obtain ⟨rfl, rfl⟩ : b = b' ∧ o = o' := by rw [hA] at h1; injection h1 with h1; injection h1 with h1 h2; exact ⟨h1, h2⟩
  have h5' : cs = rs[k].cs := h5
  subst h5'
  exact ⟨O3, A', c', St.via (j := j) hS hS2 hS3 hf (fun _ h => h) (fun _ h => .inr h) (fun _ h => .inr h), cellsAt_get h4 _ _ hu, h3, hw.st hS3 (fun h => hj h.symm) (Ne.symm hjl)⟩
theorem NR.take' {A A' : Option Addr} {m c b o n' c' : Nat} (h : NR β i w O e' e (.slice A m c) xs none) (hA : A = some ⟨b, o, none⟩) {k : Nat} {x : α} (hx : xs[k]? = some x) (hc : w.cell? ⟨b, o + k * Rp.size α + N.q, none⟩ = some (.slice A' n' c')) (l : Nat) (hl : l ≠ 0) (hli : l ≠ i) :
    ∃ (O' : Lab), St (eT i) w O w O' ∧ NR β i w O' e' e (.slice A m c) xs (some k) ∧ Rw l w O' e (.slice A' n' c') (N.get x) := by
  obtain ⟨O', A2, c2, h1, h2, h3, h4⟩ := h.take hA hx l hl hli
  rw [hc] at h2
  injection h2 with h2
  injection h2 with e1 e2 e3
  subst e1; subst e2; subst e3
  exact ⟨O', h1, h3, h4⟩
end
section
variable {P : Program} {n : Nat} {ops : Array Oper} {Q : Post} {rest : List Oper} {l : Env} {w : World} {d d1 d2 : Tmp} {ty ty2 : TypeId} {pos pos2 : String} {aft aft2 : Array Edge}
/-- A new row of empty rows. -/
theorem l_makeN {β : Type} [Rp β] (i : Nat) (hi : i ≠ 0) (O : Lab) {t e' e : TypeId} [TSlice P t e'] {z : Value} {size bytes : Nat} [TInfo P e' z size bytes] {x y : Operand} {k k' : IntKind} {m : Nat} {a : Int} (hsize : size = 1) (hz : z = .slice none 0 0) (hx : opv l x = some (.int k a)) (hy : opv l y = some (.int k' a)) (ha : a = (m : Int))
    (hm : bytes * m ≤ 281474976710656) (h63 : m ≤ 9223372036854775807) (hd : Nat.blt d n = true)
    (h : ∀ g w' O', St nT w O w' O' → NR β i w' O' e' e (.slice (some ⟨g, 0, none⟩) (List.replicate m ([] : List β)).length m) (List.replicate m ([] : List β)) none → owp P n ops Q rest ((d, .slice (some ⟨g, 0, none⟩) (List.replicate m ([] : List β)).length m) :: l) w') : owp P n ops Q (⟨some d, .makeSlice t x y, ty, pos, aft, none⟩ :: rest) l w := by
  subst hz
  obtain ⟨q, hq0, hqi, _, hf⟩ := labFresh O w.heap.size i 0
  let z0 : Raw false 1 := ⟨[.slice none 0 0], rfl, fun u hu => by simp at hu; subst hu; rfl⟩
  have hz0 : Vb w (Fr 0 w O) (.slice none 0 0) z0 := show Rp.R w (Fr 0 w O) [Value.slice none 0 0] z0 from rfl
  refine l_make (α := Raw false 1) i hi O (z0 := z0) hsize rfl rfl hx hy ha hz0 hm h63 hd fun g w' O' hS hR => ?_
  have hN : Nest (α := List β) (β := β) q w' O' e (List.replicate m z0) (List.replicate m ([] : List β)) none := by
    refine ⟨⟨fun _ => 0, by simp, fun j r x g1 g2 => ?_⟩, hq0⟩
    obtain rfl : r = z0 := List.eq_of_mem_replicate (List.mem_of_getElem? g1)
    obtain rfl : x = [] := List.eq_of_mem_replicate (List.mem_of_getElem? g2)
    refine ⟨(Vb.nil w' _).cells1, fun _ => ⟨.slice none 0 0, rfl, Own.nil _ _ _ _, fun g hg => by simp [Value.ownBlock] at hg⟩⟩
  obtain ⟨O2, hS2, h2⟩ := NR.shut (α := List β) hR hN hqi
  have hle : (List.replicate m z0).length = (List.replicate m ([] : List β)).length := by simp
  rw [hle] at h2 ⊢
  refine h g w' O2 ⟨hS2.os.trans hS.os, hS2.tape.trans hS.tape, hS2.output.trans hS.output, Nat.le_trans hS.size hS2.size, fun j hj hT => ?_⟩ h2
  obtain ⟨f1, e1⟩ := hS.same j hj hT
  obtain ⟨f2, e2⟩ := hS2.same j (Nat.lt_of_lt_of_le hj hS.size) (by rw [e1]; exact hf j hj)
  exact ⟨f2.trans f1, e2.trans e1⟩
/-- A row is put into cell q of an element whose row is out. -/
theorem l_setN {α β : Type} [Rp α] [Rp β] [N : NestAt α β] {i j : Nat} {O : Lab} {t e' e : TypeId} {z : Value} {size bytes : Nat} [TInfo P t z size bytes] {x y : Operand} {b o k off m c : Nat} {A A' : Option Addr} {m' c' : Nat} {a : α} {ys : List β} {xs : List α} (hR : NR β i w O e' e (.slice A m c) xs (some k)) (hw : Rw j w O e (.slice A' m' c') ys) (hji : j ≠ i) (hA : A = some ⟨b, o, none⟩) (hk : xs[k]? = some a)
    (hx : opv l x = some (.pointer (some ⟨b, o + k * Rp.size α + off, none⟩))) (hy : opv l y = some (.slice A' m' c')) (hoff : off = N.q) (hsz : size = 1) (hqn : N.q < Rp.size α)
    (h : ∀ w' O', St (fun q => q = i ∨ q = j) w O w' O' → NR β i w' O' e' e (.slice A m c) (xs.set k (N.put a ys)) none → owp P n ops Q rest l w') : owp P n ops Q (⟨none, .store t x y, ty, pos, aft, none⟩ :: rest) l w := by
  subst hoff hsz
  obtain ⟨q, hq0, hqi, hqj, hf⟩ := labFresh O w.heap.size i j
  have hj0 : j ≠ 0 := hw.2.2
  have hi0 : i ≠ 0 := by obtain ⟨_, _, _, _, h, _⟩ := hR; exact h
  obtain ⟨rs, O1, hS, hRw, hN⟩ := hR.opn q hq0 hqi
  have hlen : rs.length = xs.length := by obtain ⟨⟨_, h, _⟩, _⟩ := hN; exact h
  have hkr : k < rs.length := by rw [hlen]; exact lt_of_get hk
  have hr : rs[k]? = some rs[k] := List.getElem?_eq_getElem hkr
  have hw1 := hw.st hS (fun h => hi0 h.symm) hji
  let r' : Raw (Rp.isAgg α) (Rp.size α) := ⟨rs[k].cs.set N.q (.slice A' m' c'), by rw [List.length_set]; exact rs[k].len, fun u hu => by
    rcases List.mem_or_eq_of_mem_set hu with h | h
    · exact rs[k].one u h
    · subst h; rfl⟩
  obtain ⟨O2, hS2, hN2⟩ := hN.put (r' := r') hr hk rfl hqn hw1 (Ne.symm hqj)
  have hR2 := hRw.st hS2 (fun h => hj0 h.symm) (Ne.symm hji)
  refine l_setPart (a := rs[k]) (a' := r') hR2 hA hr hx hy rfl (by show N.q + 1 ≤ Rp.size α; omega) (fun v hv => by simp [Value.cells] at hv; subst hv; rfl) (fun ce hc => ?_) fun w' hS3 hR3 => ?_
  · have hc' : ce = rs[k].cs := hc
    subst hc'; rfl
  have hN3 := hN2.st hS3 (fun h => hi0 h.symm) hqi
  obtain ⟨O4, hS4, h4⟩ := NR.shut hR3 hN3 hqi
  refine h w' O4 ?_ h4
  have hS12 : St (fun p => p = i ∨ p = j) w O w O2 := ⟨rfl, rfl, rfl, Nat.le_refl _, fun k hk hT => by
    obtain ⟨_, e2⟩ := hS.same k hk fun h => hT (.inl h)
    obtain ⟨_, e4⟩ := hS2.same k hk (by rw [e2]; exact fun h => hT (.inr h))
    exact ⟨rfl, e4.trans e2⟩⟩
  exact St.via (j := q) hS12 hS3 hS4 hf (fun _ h => h) (fun _ h => .inl (.inl h)) (fun _ h => .inr h)
end
end
section
open Go Go.RowKit
attribute [local irreducible] ewp owp hwp hwq hws Ev Evg Fn retPost loud loudS Res1
attribute [local irreducible] hwx loudX
structure Arc where
  src : Int
  dst : Int
  weight : Int
instance : Rp Arc where
  isAgg := true
  size := 3
  R w F cs x := cs = [.int .i64 x.src, .int .i64 x.dst, .int .i64 x.weight] ∧ inI64 x.src ∧ inI64 x.dst ∧ inI64 x.weight
  len := by rintro w F cs x ⟨rfl, h0, h1, h2⟩; rfl
  one := by rintro w F cs x ⟨rfl, h0, h1, h2⟩ u hu; simp at hu; rcases hu with rfl | rfl | rfl <;> first | rfl | exact Vb.one rfl (by assumption)
  agree := by rintro w w' F cs x ⟨rfl, h0, h1, h2⟩ ha; exact ⟨rfl, h0, h1, h2⟩
  mono := by rintro w F G cs x ⟨rfl, h0, h1, h2⟩ ha; exact ⟨rfl, h0, h1, h2⟩
structure Edj where
  src : Int
  label : Int
  dst : Int
instance : Rp Edj where
  isAgg := true
  size := 3
  R w F cs x := cs = [.int .i64 x.src, .int .i64 x.label, .int .i64 x.dst] ∧ inI64 x.src ∧ inI64 x.label ∧ inI64 x.dst
  len := by rintro w F cs x ⟨rfl, h0, h1, h2⟩; rfl
  one := by rintro w F cs x ⟨rfl, h0, h1, h2⟩ u hu; simp at hu; rcases hu with rfl | rfl | rfl <;> first | rfl | exact Vb.one rfl (by assumption)
  agree := by rintro w w' F cs x ⟨rfl, h0, h1, h2⟩ ha; exact ⟨rfl, h0, h1, h2⟩
  mono := by rintro w F G cs x ⟨rfl, h0, h1, h2⟩ ha; exact ⟨rfl, h0, h1, h2⟩
structure Spa where
  t : Tsk
  states : Reg
  edges : List Edj
  goals : List Bool
  costs : List Int
  distances : List Int
  steps : List Int
instance : Ow Spa where
  R w F M v x := ∃ (g : Nat) (L : Lab) (c0 c1 c2 c3 c4 c5 c6 c7 c8 c9 : Value), v = .pointer (some ⟨g, 0, none⟩) ∧ Blk w g 87 [c0, c1, c2, c3, c4, c5, c6, c7, c8, c9] ∧ M g ∧ L g = 0 ∧ Vb w F c0 x.t.vars ∧ Vb w F c1 x.t.init ∧ Vb w F c2 x.t.goal ∧ Vb w F c3 x.t.ops ∧ Ow.R w F (fun k => M k ∧ L k = 1) c4 x.states ∧ Vb w F c5 x.edges ∧ Vb w F c6 x.goals ∧ Vb w F c7 x.costs ∧ Vb w F c8 x.distances ∧ Vb w F c9 x.steps
  agree := by rintro w w' F M v x ⟨g, L, c0, c1, c2, c3, c4, c5, c6, c7, c8, c9, rfl, hb, hM, hL, h0, h1, h2, h3, h4, h5, h6, h7, h8, h9⟩ a1 a2; exact ⟨g, L, c0, c1, c2, c3, c4, c5, c6, c7, c8, c9, rfl, hb.keep (a2 g hM), hM, hL, h0.agree a1, h1.agree a1, h2.agree a1, h3.agree a1, Ow.agree h4 a1 fun k hk => a2 k hk.1, h5.agree a1, h6.agree a1, h7.agree a1, h8.agree a1, h9.agree a1⟩
  mono := by rintro w F M F' M' v x ⟨g, L, c0, c1, c2, c3, c4, c5, c6, c7, c8, c9, rfl, hb, hM, hL, h0, h1, h2, h3, h4, h5, h6, h7, h8, h9⟩ a1 a2 a3; exact ⟨g, L, c0, c1, c2, c3, c4, c5, c6, c7, c8, c9, rfl, hb, a2 g hM, hL, h0.mono a1, h1.mono a1, h2.mono a1, h3.mono a1, Ow.mono h4 a1 (fun k hk => ⟨a2 k hk.1, hk.2⟩) fun k hf hm => a3 k hf hm.1, h5.mono a1, h6.mono a1, h7.mono a1, h8.mono a1, h9.mono a1⟩
instance : OwP Spa := ⟨by rintro w F M v x ⟨g, L, c0, c1, c2, c3, c4, c5, c6, c7, c8, c9, rfl, _⟩; exact ⟨g, rfl⟩⟩
theorem Spa.opn {i : Nat} {w : World} {O : Lab} {p : Nat} {x : Spa} (h : Ob i w O (.pointer (some ⟨p, 0, none⟩)) x) (l0 l1 : Nat) (hl : l0 ≠ 0 ∧ l1 ≠ 0) : ∃ (O' : Lab) (c0 c1 c2 c3 c4 c5 c6 c7 c8 c9 : Value), St (eT i) w O w O' ∧ (∀ k, Fr i w O k → ∃ q, q ∈ [l0, l1] ∧ Fr q w O' k) ∧ Lc l0 w O' p 87 [c0, c1, c2, c3, c4, c5, c6, c7, c8, c9] ∧ Vb w (Fr 0 w O') c0 x.t.vars ∧ Vb w (Fr 0 w O') c1 x.t.init ∧ Vb w (Fr 0 w O') c2 x.t.goal ∧ Vb w (Fr 0 w O') c3 x.t.ops ∧ Ob l1 w O' c4 x.states ∧ Vb w (Fr 0 w O') c5 x.edges ∧ Vb w (Fr 0 w O') c6 x.goals ∧ Vb w (Fr 0 w O') c7 x.costs ∧ Vb w (Fr 0 w O') c8 x.distances ∧ Vb w (Fr 0 w O') c9 x.steps := by
  obtain ⟨⟨g, L, c0, c1, c2, c3, c4, c5, c6, c7, c8, c9, hv, hb, hM, hL, h0, h1, h2, h3, h4, h5, h6, h7, h8, h9⟩, hi⟩ := h
  obtain rfl : p = g := by injection hv with hv; injection hv with hv; injection hv
  exact ⟨part O i L [l0, l1], c0, c1, c2, c3, c4, c5, c6, c7, c8, c9, part_st hi, part_all (by simp), ⟨hb, (part_fr (j := 0) rfl p ⟨hM, hL⟩).2⟩, h0.mono (part_fr0 hi), h1.mono (part_fr0 hi), h2.mono (part_fr0 hi), h3.mono (part_fr0 hi), ⟨Ow.mono h4 (part_fr0 hi) (part_fr (j := 1) rfl) (frNe0 hl.2), hl.2⟩, h5.mono (part_fr0 hi), h6.mono (part_fr0 hi), h7.mono (part_fr0 hi), h8.mono (part_fr0 hi), h9.mono (part_fr0 hi)⟩
theorem Spa.shut {w : World} {O : Lab} {p : Nat} {x : Spa} {l0 l1 : Nat} {c0 c1 c2 c3 c4 c5 c6 c7 c8 c9 : Value} (hd : ¬ 0 ∈ [l0, l1] ∧ [l0, l1].idxOf l0 = 0 ∧ [l0, l1].idxOf l1 = 1) (hb : Lc l0 w O p 87 [c0, c1, c2, c3, c4, c5, c6, c7, c8, c9]) (h0 : Vb w (Fr 0 w O) c0 x.t.vars) (h1 : Vb w (Fr 0 w O) c1 x.t.init) (h2 : Vb w (Fr 0 w O) c2 x.t.goal) (h3 : Vb w (Fr 0 w O) c3 x.t.ops) (h4 : Ob l1 w O c4 x.states) (h5 : Vb w (Fr 0 w O) c5 x.edges) (h6 : Vb w (Fr 0 w O) c6 x.goals) (h7 : Vb w (Fr 0 w O) c7 x.costs) (h8 : Vb w (Fr 0 w O) c8 x.distances) (h9 : Vb w (Fr 0 w O) c9 x.steps) : ∃ O', St (· ∈ [l0, l1]) w O w O' ∧ (∀ k, Fr 0 w O k → Fr 0 w O' k) ∧ (∀ q, q ∈ [l0, l1] → ∀ k, Fr q w O k → Fr l0 w O' k) ∧ Ob l0 w O' (.pointer (some ⟨p, 0, none⟩)) x := by
  have hb1 : l0 ≠ 0 := fun e => hd.1 (by simp [e])
  have hg := whole_fr (i := l0) hd.2.1 (by simp) p ⟨hb.1.lt, hb.2⟩
  exact ⟨whole O l0 [l0, l1], whole_st, whole_fr0 hd.1, whole_all, ⟨p, fun k => [l0, l1].idxOf (O k), c0, c1, c2, c3, c4, c5, c6, c7, c8, c9, rfl, hb.1, hg.1, hg.2, h0.mono (whole_fr0 hd.1), h1.mono (whole_fr0 hd.1), h2.mono (whole_fr0 hd.1), h3.mono (whole_fr0 hd.1), Ow.mono h4.1 (whole_fr0 hd.1) (whole_fr hd.2.2 (by simp)) (fun k a b => frNe0 hb1 k a b.1), h5.mono (whole_fr0 hd.1), h6.mono (whole_fr0 hd.1), h7.mono (whole_fr0 hd.1), h8.mono (whole_fr0 hd.1), h9.mono (whole_fr0 hd.1)⟩, hb1⟩
/-- Only what is asked here: no error. -/
def m_errors_Is (x y : Err) : Option Bool := if x.n = 0 ∧ y.n ≠ 0 then some false else none
/-- Not used: the queue is never full. -/
def m_explore_relaxed (_ : List (List Arc)) (_ _ : List Int) : Option (List Int × List Int) := none
theorem c_explore_relaxed {w : World} {A : Nat → Prop} (hA : ∀ k, A k → k < w.heap.size) {vx0 : Value} {x0 : List (List Arc)} (hx0 : Vb w A vx0 x0) {vx1 : Value} {x1 : List Int} (hx1 : Vb w A vx1 x1) {vx2 : Value} {x2 : List Int} (hx2 : Vb w A vx2 x2) {r : List Int × List Int} (hm : m_explore_relaxed x0 x1 x2 = some r) :
    Fn Tryz.prog 96 [vx0, vx1, vx2] w fun v w' => Ext w w' ∧ T2 w' (upA A w w') v r := by cases hm
noncomputable def m_registry_Registry_Len (x0 : Reg) : Option Int :=
  some (x0.entries.length : Int)
theorem c_registry_Registry_Len {w : World} {O : Lab} {p0 i0 : Nat} {x0 : Reg} (hx0 : Ob i0 w O (.pointer (some ⟨p0, 0, none⟩)) x0) {r : Int} (hm : m_registry_Registry_Len x0 = some r) :
    Fn Tryz.prog 46 [(.pointer (some ⟨p0, 0, none⟩))] w fun v w' => ∃ O', St (eT i0) w O w' O' ∧ Ob i0 w' O' (.pointer (some ⟨p0, 0, none⟩)) x0 ∧ Vb w' (Fr 0 w' O') v r := by
 obtain ⟨O0, hE, hz0, hl2⟩ := ent1 (w := w) (O := O) hx0.2
 have hx0' := Ob.leave hx0 hz0 hl2 (j := 2) (by decide)
 have hB : Bm w O0 w O0 := Bm.refl
 refine fn_enter Tryz.func46 rfl Tryz.ntmps46 rfl ?_
 unfold m_registry_Registry_Len at hm
 refine ewp_seq (ewp_region (o_as rfl rfl (o_z ?_)))
 refine ewp_seq (ewp_seq (ewp_region (o_mv rfl rfl (o_pn rfl rfl ?_))))
 refine o_z ?_
 refine ewp_false rfl (ewp_skip (ewp_seq (ewp_region (o_mv rfl rfl (o_nc rfl rfl ?_)))))
 obtain ⟨O2, v6, v9, v14, S3, ha5, h4, h7, h10, h15⟩ := Reg.opn hx0' 2 3 4 5 (by decide)
 obtain ⟨p8, rfl⟩ := h7.ptr
 obtain ⟨A11, c12, rfl⟩ := h10.form
 obtain ⟨p16, rfl⟩ := h15.mptr
 refine o_fa rfl rfl (o_ld (hc := Blk.cell (i := 1) (h4.1) rfl) rfl rfl ?_)
 refine o_ln rfl rfl ?_
 have l18 : x0.entries.length ≤ 9223372036854775807 := Nat.le_trans h10.len.2.1 h10.len.2.2
 have r17 : inI64 (x0.entries.length : Int) := rngNat l18
 refine o_as rfl rfl (o_z ?_)
 refine ewp_ret ?_
 obtain ⟨O19, S20, hz22, ha23, h21⟩ := Reg.shut (x := x0) (l0 := 2) (l1 := 3) (l2 := 4) (l3 := 5) (by decide) h4 h7 h10 h15
 obtain rfl := sm hm
 replace hB := (hB.st S3).st S20
 obtain ⟨O', hS', hz, hl⟩ := hE.leave (fun q => if q = 2 then i0 else 0) rfl hB
 exact ret1v rfl (res_tmp rfl) ⟨O', hS', (Ob.leave h21 hz (hl 2 (by decide) (by decide)) hx0.2), (vInt r17)⟩
noncomputable def m_registry_Registry_Find (x0 : Reg) (x1 : List Int) : Option (Int × Err) :=
  bnd (m_registry_Registry_find x0 x1) fun q5 => if q5.2.2.2.n ≠ 0 then (some (0, (⟨q5.2.2.2.n⟩ : Err))) else (if q5.2.2.1 < 0 then (some (0, (⟨3⟩ : Err))) else (some (q5.2.2.1, (⟨0⟩ : Err))))
theorem c_registry_Registry_Find {w : World} {O : Lab} {p0 i0 : Nat} {x0 : Reg} (hx0 : Ob i0 w O (.pointer (some ⟨p0, 0, none⟩)) x0) {vx1 : Value} {x1 : List Int} (hx1 : Vb w (Fr 0 w O) vx1 x1) {r : Int × Err} (hm : m_registry_Registry_Find x0 x1 = some r) :
    Fn Tryz.prog 56 [(.pointer (some ⟨p0, 0, none⟩)), vx1] w fun v w' => ∃ O', St (eT i0) w O w' O' ∧ ∃ v0 v1 : Value, Ob i0 w' O' (.pointer (some ⟨p0, 0, none⟩)) x0 ∧ v = .tuple #[v0, v1] ∧ Vb w' (Fr 0 w' O') v0 r.1 ∧ Vb w' (Fr 0 w' O') v1 r.2 := by
 obtain ⟨O0, hE, hz0, hl2⟩ := ent1 (w := w) (O := O) hx0.2
 have hx0' := Ob.leave hx0 hz0 hl2 (j := 2) (by decide)
 have hB : Bm w O0 w O0 := Bm.refl
 replace hx1 := hx1.mono hz0
 obtain ⟨A3, c4, rfl⟩ := hx1.form
 refine fn_enter Tryz.func56 rfl Tryz.ntmps56 rfl ?_
 unfold m_registry_Registry_Find at hm
 refine ewp_seq (ewp_region (o_as rfl rfl (o_as rfl rfl (o_z ?_))))
 refine ewp_seq (ewp_seq (ewp_region (o_mv rfl rfl (o_pn rfl rfl ?_))))
 refine o_z ?_
 refine ewp_false rfl (ewp_skip (ewp_seq (ewp_region (o_mv rfl rfl (o_mv rfl rfl ?_)))))
 obtain ⟨q5, e6, hm⟩ := bs hm
 refine l_callM (O := O0) (c_registry_Registry_find hx0' hx1 e6) rfl rfl fun v11 w7 O8 S9 h10 => ?_
 obtain ⟨v13, v14, v15, v16, h12, rfl, h17, h18, h19, h20⟩ := h10
 obtain ⟨A21, c22, rfl⟩ := h17.form
 obtain ⟨rfl, r23⟩ := h18.int
 obtain ⟨rfl, r24⟩ := h19.int
 obtain ⟨rfl, r25⟩ := h20.err
 refine o_mv rfl rfl (o_ex rfl rfl rfl (o_ex rfl rfl rfl (o_ex rfl rfl rfl (o_ex rfl rfl rfl (o_as rfl rfl (o_as rfl rfl (o_as rfl rfl (o_as rfl rfl (o_z ?_)))))))))
 refine ewp_seq (ewp_block (ewp_seq (ewp_region (o_mv rfl rfl (o_rnS rfl rfl (fun c26 => ?_) fun c26 => ?_)))))
 ·
  replace hm := ip hm c26
  refine o_as rfl rfl (o_z ?_)
  refine ewp_true rfl (ewp_seq (ewp_region (o_mv rfl rfl (o_as rfl rfl (o_as rfl rfl (o_z ?_))))))
  refine ewp_ret ?_
  obtain rfl := sm hm
  replace hB := hB.st S9
  obtain ⟨O', hS', hz, hl⟩ := hE.leave (fun q => if q = 2 then i0 else 0) rfl hB
  exact ret2 rfl (res_tmp rfl) (res_tmp rfl) ⟨O', hS', _, _, (Ob.leave h12 hz (hl 2 (by decide) (by decide)) hx0.2), rfl, (vInt (show inI64 (0) from by decide)), (vErr r25)⟩
 replace hm := im hm c26
 refine o_as rfl rfl (o_z ?_)
 refine ewp_false rfl (ewp_seq (ewp_region (o_mv rfl rfl (o_ltS rfl rfl rfl (fun c27 => ?_) fun c27 => ?_))))
 ·
  replace hm := ip hm c27
  refine o_as rfl rfl (o_z ?_)
  refine ewp_true rfl (ewp_seq (ewp_region (o_miE rfl rfl ?_)))
  refine o_as rfl rfl (o_as rfl rfl (o_z ?_))
  refine ewp_ret ?_
  obtain rfl := sm hm
  replace hB := hB.st S9
  obtain ⟨O', hS', hz, hl⟩ := hE.leave (fun q => if q = 2 then i0 else 0) rfl hB
  exact ret2 rfl (res_tmp rfl) (res_tmp rfl) ⟨O', hS', _, _, (Ob.leave h12 hz (hl 2 (by decide) (by decide)) hx0.2), rfl, (vInt (show inI64 (0) from by decide)), (vErr (by decide))⟩
 replace hm := im hm c27
 refine o_as rfl rfl (o_z ?_)
 refine ewp_false rfl (ewp_skip (ewp_seq (ewp_region (o_mv rfl rfl (o_as rfl rfl (o_as rfl rfl (o_z ?_)))))))
 refine ewp_ret ?_
 obtain rfl := sm hm
 replace hB := hB.st S9
 obtain ⟨O', hS', hz, hl⟩ := hE.leave (fun q => if q = 2 then i0 else 0) rfl hB
 exact ret2 rfl (res_tmp rfl) (res_tmp rfl) ⟨O', hS', _, _, (Ob.leave h12 hz (hl 2 (by decide) (by decide)) hx0.2), rfl, (vInt r24), (vErr (show inI64 0 from by decide))⟩
noncomputable def m_explore_copied (x0 : Tsk) : Option Tsk :=
  bnd (m_slices_Clone_Lint_int x0.vars) fun q29 => bnd (m_slices_Clone_Lint_int x0.init) fun q31 => bnd (m_slices_Clone_Lapi_Fact_api_Fact x0.goal) fun q33 => bnd (some (q29, q31, q33) : Option ((List Int) × (List Int) × (List Fct))) fun y35 => bnd (rng (ρ := Tsk) (fun (k156 : Nat) (a157 : Opr) (s154 : (List Opr)) => bnd (m_slices_Clone_Lapi_Fact_api_Fact a157.pre) fun q195 => bnd (rng (ρ := Ctl (List Opr) Tsk) (fun (k213 : Nat) (a214 : Eff) (s211 : (List Eff)) => bnd (m_slices_Clone_Lapi_Fact_api_Fact a214.cond) fun q248 => bnd (appI 40 s211 [(⟨q248, a214.var, a214.val⟩ : Eff)]) fun u262 => some (.next u262)) a157.effs 0 ([] : List Eff)) fun res209 => fin res209 fun (s278 : (List Eff)) => bnd (appI 72 s154 [(⟨a157.name, a157.cost, q195, s278⟩ : Opr)]) fun u286 => some (.next u286)) x0.ops 0 ([] : List Opr)) fun res152 => fin res152 fun (s304 : (List Opr)) => some (⟨y35.1, y35.2.1, y35.2.2, s304⟩ : Tsk)
theorem c_explore_copied {w : World} {A : Nat → Prop} (hA : ∀ k, A k → k < w.heap.size) {vx0 : Value} {x0 : Tsk} (hx0 : Vb w A vx0 x0) {r : Tsk} (hm : m_explore_copied x0 = some r) :
    Fn Tryz.prog 45 [vx0] w fun v w' => Ext w w' ∧ Vb w' (upA A w w') v r := by
 obtain ⟨O, hB, hA0⟩ := enter hA
 replace hx0 := hx0.mono hA0
 obtain ⟨cs2, rfl, v3, v4, v5, v6, rfl, h7, h10, h13, h16⟩ := hx0
 obtain ⟨A8, c9, rfl⟩ := h7.form
 obtain ⟨A11, c12, rfl⟩ := h10.form
 obtain ⟨A14, c15, rfl⟩ := h13.form
 obtain ⟨A17, c18, rfl⟩ := h16.form
 refine fn_enter Tryz.func45 rfl Tryz.ntmps45 rfl ?_
 unfold m_explore_copied at hm
 refine ewp_seq (ewp_region (l_box 2 O rfl rfl fun g19 w20 O21 S22 h23 => ?_))
 replace h23 : Lc 2 w20 O21 g19 26 [(.slice A8 x0.vars.length c9), (.slice A11 x0.init.length c12), (.slice A14 x0.goal.length c15), (.slice A17 x0.ops.length c18)] := h23
 refine l_alloc 3 O21 rfl fun g24 w25 O26 S27 h28 => ?_
 refine o_z ?_
 refine ewp_seq ?_
 obtain ⟨q29, e30, hm⟩ := bs hm
 obtain ⟨q31, e32, hm⟩ := bs hm
 obtain ⟨q33, e34, hm⟩ := bs hm
 obtain ⟨y35, hy36, hm⟩ := bs hm
 refine ewp_join (fun l' w' => ∃ (x38 : Nat × (Option Addr × Nat) × (Option Addr × Nat) × (Option Addr × Nat)) (O' : Lab), subs l' [(1, (.pointer (some ⟨g19, 0, none⟩))), (2, (.pointer (some ⟨g24, 0, none⟩))), (3, (.pointer (some ⟨x38.1, 0, none⟩)))] ∧ Bs w A w' O' ∧ Lc 2 w' O' g19 26 [(.slice A8 x0.vars.length c9), (.slice A11 x0.init.length c12), (.slice A14 x0.goal.length c15), (.slice A17 x0.ops.length c18)] ∧ Vb w' (Fr 0 w' O') (.slice A8 x0.vars.length c9) x0.vars ∧ Vb w' (Fr 0 w' O') (.slice A11 x0.init.length c12) x0.init ∧ Vb w' (Fr 0 w' O') (.slice A14 x0.goal.length c15) x0.goal ∧ Vb w' (Fr 0 w' O') (.slice A17 x0.ops.length c18) x0.ops ∧ Lc 3 w' O' g24 26 [(.slice none 0 0), (.slice none 0 0), (.slice none 0 0), (.slice none 0 0)] ∧ Lc 7 w' O' x38.1 26 [(.slice x38.2.1.1 y35.1.length x38.2.1.2), (.slice x38.2.2.1.1 y35.2.1.length x38.2.2.1.2), (.slice x38.2.2.2.1 y35.2.2.length x38.2.2.2.2), (.slice none 0 0)] ∧ Rw 4 w' O' 3 (.slice x38.2.1.1 y35.1.length x38.2.1.2) y35.1 ∧ Rw 5 w' O' 3 (.slice x38.2.2.1.1 y35.2.1.length x38.2.2.1.2) y35.2.1 ∧ Rw 6 w' O' 123 (.slice x38.2.2.2.1 y35.2.2.length x38.2.2.2.2) y35.2.2) ?_ ?_
 ·
  refine ewp_drawX [] O26 ?_
  refine x_pre (fuel := 6) [] [(0, true), (1, true), (3, true), (4, true), (6, true), (7, true)] (by kernel_rfl) rfl ?_
  refine h_fa rfl rfl rfl ?_
  replace h23 := h23.st S27
  refine h_ldC (hc := fun w' ⟨O', hq⟩ => Blk.cell (i := 0) ((h23.st hq (by decide)).1) rfl) rfl rfl rfl ?_
  refine h_fa rfl rfl rfl (h_ldC (hc := fun w' ⟨O', hq⟩ => Blk.cell (i := 1) ((h23.st hq (by decide)).1) rfl) rfl rfl rfl ?_)
  refine h_fa rfl rfl rfl (h_ldC (hc := fun w' ⟨O', hq⟩ => Blk.cell (i := 2) ((h23.st hq (by decide)).1) rfl) rfl rfl rfl ?_)
  refine hwp_nilT ?_
  refine x_two (i := 2) (j := 10) (by kernel_rfl) rfl rfl ?_ ?_
  ·
   replace h7 := (h7.st S22).st S27
   refine l_callRow 4 (by decide) (O := O26) (c_slices_Clone_Lint_int Fr.lt h7 e30) rfl rfl fun A51 c52 w46 O47 S48 h49 => ?_
   have hZ := S48.lst [] (fun _ h => h.elim)
   refine x_go [] hZ (by kernel_rfl) ?_
   refine x_two (i := 5) (j := 10) (by kernel_rfl) rfl rfl ?_ ?_
   ·
    replace h10 := ((h10.st S22).st S27).st S48
    refine l_callRow 5 (by decide) (O := O47) (c_slices_Clone_Lint_int Fr.lt h10 e32) rfl rfl fun A59 c60 w54 O55 S56 h57 => ?_
    have hZ := S56.lst [] (fun _ h => h.elim)
    refine x_go [] hZ (by kernel_rfl) ?_
    refine x_two (i := 8) (j := 10) (by kernel_rfl) rfl rfl ?_ ?_
    ·
     replace h13 := (((h13.st S22).st S27).st S48).st S56
     refine l_callRow 6 (by decide) (O := O55) (c_slices_Clone_Lapi_Fact_api_Fact Fr.lt h13 e34) rfl rfl fun A67 c68 w62 O63 S64 h65 => ?_
     have hZ := S64.lst [] (fun _ h => h.elim)
     refine x_go [] hZ (by kernel_rfl) ?_
     refine x_pre (fuel := 2) [] [(9, true)] (by kernel_rfl) rfl ?_
     refine h_bd rfl rfl rfl rfl ?_
     refine hwp_nilT ?_
     refine x_one (i := 10) (by kernel_rfl) rfl ?_
     refine l_alloc 7 O63 rfl fun g70 w71 O72 S73 h74 => ?_
     have hZ := S73.lst [] (fun _ h => h.elim)
     refine x_go [] hZ (by kernel_rfl) ?_
     refine x_one (i := 11) (by kernel_rfl) rfl ?_
     refine l_store h74 rfl rfl rfl (nle_b rfl) (allOne rfl) fun w75 S76 h74 => ?_
     replace h74 : Lc 7 w75 O72 g70 26 [(.slice A51 q29.length c52), (.slice A59 q31.length c60), (.slice A67 q33.length c68), (.slice none 0 0)] := h74
     refine x_end (by kernel_rfl) ?_
     refine x_nil (by kernel_rfl) ?_
     obtain rfl := sm hy36
     replace hB := ((((((hB.st S22).st S27).st S48).st S56).st S64).st S73).st S76
     replace h7 := ((((h7.st S48).st S56).st S64).st S73).st S76
     replace h10 := (((h10.st S56).st S64).st S73).st S76
     replace h13 := ((h13.st S64).st S73).st S76
     replace h16 := ((((((h16.st S22).st S27).st S48).st S56).st S64).st S73).st S76
     replace h23 := ((((h23.st S48).st S56).st S64).st S73).st S76
     replace h28 := ((((h28.st S48).st S56).st S64).st S73).st S76
     replace h49 := (((h49.st S56).st S64).st S73).st S76
     replace h57 := ((h57.st S64).st S73).st S76
     replace h65 := (h65.st S73).st S76
     exact ⟨(g70, (A51, c52), (A59, c60), (A67, c68)), _, ⟨rfl, rfl, rfl, trivial⟩, hB, h23, h7, h10, h13, h16, h28, h74, h49, h57, h65⟩
    refine l_alloc 7 O55 rfl fun g77 w78 O79 S80 h81 => ?_
    have hZ := S80.lst [] (fun _ h => h.elim)
    refine x_go [] hZ (by kernel_rfl) ?_
    refine x_one (i := 8) (by kernel_rfl) rfl ?_
    replace h13 := ((((h13.st S22).st S27).st S48).st S56).st S80
    refine l_callRow 6 (by decide) (O := O79) (c_slices_Clone_Lapi_Fact_api_Fact Fr.lt h13 e34) rfl rfl fun A87 c88 w82 O83 S84 h85 => ?_
    have hZ := S84.lst [] (fun _ h => h.elim)
    refine x_go [] hZ (by kernel_rfl) ?_
    refine x_pre (fuel := 1) [] [(9, true)] (by kernel_rfl) rfl ?_
    refine h_bd rfl rfl rfl rfl ?_
    refine hwp_nilT ?_
    refine x_one (i := 11) (by kernel_rfl) rfl ?_
    replace h81 := h81.st S84
    refine l_store h81 rfl rfl rfl (nle_b rfl) (allOne rfl) fun w90 S91 h81 => ?_
    replace h81 : Lc 7 w90 O83 g77 26 [(.slice A51 q29.length c52), (.slice A59 q31.length c60), (.slice A87 q33.length c88), (.slice none 0 0)] := h81
    refine x_end (by kernel_rfl) ?_
    refine x_nil (by kernel_rfl) ?_
    obtain rfl := sm hy36
    replace hB := ((((((hB.st S22).st S27).st S48).st S56).st S80).st S84).st S91
    replace h7 := ((((h7.st S48).st S56).st S80).st S84).st S91
    replace h10 := (((h10.st S56).st S80).st S84).st S91
    replace h13 := (h13.st S84).st S91
    replace h16 := ((((((h16.st S22).st S27).st S48).st S56).st S80).st S84).st S91
    replace h23 := ((((h23.st S48).st S56).st S80).st S84).st S91
    replace h28 := ((((h28.st S48).st S56).st S80).st S84).st S91
    replace h49 := (((h49.st S56).st S80).st S84).st S91
    replace h57 := ((h57.st S80).st S84).st S91
    replace h85 := h85.st S91
    exact ⟨(g77, (A51, c52), (A59, c60), (A87, c88)), _, ⟨rfl, rfl, rfl, trivial⟩, hB, h23, h7, h10, h13, h16, h28, h81, h49, h57, h85⟩
   refine l_alloc 7 O47 rfl fun g92 w93 O94 S95 h96 => ?_
   have hZ := S95.lst [] (fun _ h => h.elim)
   refine x_go [] hZ (by kernel_rfl) ?_
   refine x_one (i := 5) (by kernel_rfl) rfl ?_
   replace h10 := (((h10.st S22).st S27).st S48).st S95
   refine l_callRow 5 (by decide) (O := O94) (c_slices_Clone_Lint_int Fr.lt h10 e32) rfl rfl fun A102 c103 w97 O98 S99 h100 => ?_
   have hZ := S99.lst [] (fun _ h => h.elim)
   refine x_go [] hZ (by kernel_rfl) ?_
   refine x_one (i := 8) (by kernel_rfl) rfl ?_
   replace h13 := ((((h13.st S22).st S27).st S48).st S95).st S99
   refine l_callRow 6 (by decide) (O := O98) (c_slices_Clone_Lapi_Fact_api_Fact Fr.lt h13 e34) rfl rfl fun A110 c111 w105 O106 S107 h108 => ?_
   have hZ := S107.lst [] (fun _ h => h.elim)
   refine x_go [] hZ (by kernel_rfl) ?_
   refine x_pre (fuel := 1) [] [(9, true)] (by kernel_rfl) rfl ?_
   refine h_bd rfl rfl rfl rfl ?_
   refine hwp_nilT ?_
   refine x_one (i := 11) (by kernel_rfl) rfl ?_
   replace h96 := (h96.st S99).st S107
   refine l_store h96 rfl rfl rfl (nle_b rfl) (allOne rfl) fun w113 S114 h96 => ?_
   replace h96 : Lc 7 w113 O106 g92 26 [(.slice A51 q29.length c52), (.slice A102 q31.length c103), (.slice A110 q33.length c111), (.slice none 0 0)] := h96
   refine x_end (by kernel_rfl) ?_
   refine x_nil (by kernel_rfl) ?_
   obtain rfl := sm hy36
   replace hB := ((((((hB.st S22).st S27).st S48).st S95).st S99).st S107).st S114
   replace h7 := ((((h7.st S48).st S95).st S99).st S107).st S114
   replace h10 := ((h10.st S99).st S107).st S114
   replace h13 := (h13.st S107).st S114
   replace h16 := ((((((h16.st S22).st S27).st S48).st S95).st S99).st S107).st S114
   replace h23 := ((((h23.st S48).st S95).st S99).st S107).st S114
   replace h28 := ((((h28.st S48).st S95).st S99).st S107).st S114
   replace h49 := (((h49.st S95).st S99).st S107).st S114
   replace h100 := (h100.st S107).st S114
   replace h108 := h108.st S114
   exact ⟨(g92, (A51, c52), (A102, c103), (A110, c111)), _, ⟨rfl, rfl, rfl, trivial⟩, hB, h23, h7, h10, h13, h16, h28, h96, h49, h100, h108⟩
  refine l_alloc 7 O26 rfl fun g115 w116 O117 S118 h119 => ?_
  have hZ := S118.lst [] (fun _ h => h.elim)
  refine x_go [] hZ (by kernel_rfl) ?_
  refine x_one (i := 2) (by kernel_rfl) rfl ?_
  replace h7 := ((h7.st S22).st S27).st S118
  refine l_callRow 4 (by decide) (O := O117) (c_slices_Clone_Lint_int Fr.lt h7 e30) rfl rfl fun A125 c126 w120 O121 S122 h123 => ?_
  have hZ := S122.lst [] (fun _ h => h.elim)
  refine x_go [] hZ (by kernel_rfl) ?_
  refine x_one (i := 5) (by kernel_rfl) rfl ?_
  replace h10 := (((h10.st S22).st S27).st S118).st S122
  refine l_callRow 5 (by decide) (O := O121) (c_slices_Clone_Lint_int Fr.lt h10 e32) rfl rfl fun A133 c134 w128 O129 S130 h131 => ?_
  have hZ := S130.lst [] (fun _ h => h.elim)
  refine x_go [] hZ (by kernel_rfl) ?_
  refine x_one (i := 8) (by kernel_rfl) rfl ?_
  replace h13 := ((((h13.st S22).st S27).st S118).st S122).st S130
  refine l_callRow 6 (by decide) (O := O129) (c_slices_Clone_Lapi_Fact_api_Fact Fr.lt h13 e34) rfl rfl fun A141 c142 w136 O137 S138 h139 => ?_
  have hZ := S138.lst [] (fun _ h => h.elim)
  refine x_go [] hZ (by kernel_rfl) ?_
  refine x_pre (fuel := 1) [] [(9, true)] (by kernel_rfl) rfl ?_
  refine h_bd rfl rfl rfl rfl ?_
  refine hwp_nilT ?_
  refine x_one (i := 11) (by kernel_rfl) rfl ?_
  replace h119 := ((h119.st S122).st S130).st S138
  refine l_store h119 rfl rfl rfl (nle_b rfl) (allOne rfl) fun w144 S145 h119 => ?_
  replace h119 : Lc 7 w144 O137 g115 26 [(.slice A125 q29.length c126), (.slice A133 q31.length c134), (.slice A141 q33.length c142), (.slice none 0 0)] := h119
  refine x_end (by kernel_rfl) ?_
  refine x_nil (by kernel_rfl) ?_
  obtain rfl := sm hy36
  replace hB := ((((((hB.st S22).st S27).st S118).st S122).st S130).st S138).st S145
  replace h7 := (((h7.st S122).st S130).st S138).st S145
  replace h10 := ((h10.st S130).st S138).st S145
  replace h13 := (h13.st S138).st S145
  replace h16 := ((((((h16.st S22).st S27).st S118).st S122).st S130).st S138).st S145
  replace h23 := ((((h23.st S118).st S122).st S130).st S138).st S145
  replace h28 := ((((h28.st S118).st S122).st S130).st S138).st S145
  replace h123 := ((h123.st S130).st S138).st S145
  replace h131 := (h131.st S138).st S145
  replace h139 := h139.st S145
  exact ⟨(g115, (A125, c126), (A133, c134), (A141, c142)), _, ⟨rfl, rfl, rfl, trivial⟩, hB, h23, h7, h10, h13, h16, h28, h119, h123, h131, h139⟩
 replace hB := (hB.st S22).st S27
 replace h7 := (h7.st S22).st S27
 replace h10 := (h10.st S22).st S27
 replace h13 := (h13.st S22).st S27
 replace h16 := (h16.st S22).st S27
 replace h23 := h23.st S27
 rintro l146 w147 ⟨x38, O148, hs149, hB, h23, h7, h10, h13, h16, h28, h39, h40, h42, h44⟩
 refine ewp_sub _ hs149 ?_
 refine ewp_seq (ewp_seq (ewp_region (o_fa rfl rfl (o_ld (hc := Blk.cell (i := 3) (h23.1) rfl) rfl rfl ?_))))
 refine o_ln rfl rfl ?_
 have l151 : x0.ops.length ≤ 9223372036854775807 := Nat.le_trans h16.len.2.1 h16.len.2.2
 have r150 : inI64 (x0.ops.length : Int) := rngNat l151
 refine o_mv rfl rfl (o_z ?_)
 obtain ⟨res152, hL153, hm⟩ := bs hm
 refine ewp_join (aft res152 (fun (s154 : (List Opr)) (x155 : (Option Addr × Nat)) => [(2, (.pointer (some ⟨g24, 0, none⟩))), (3, (.pointer (some ⟨x38.1, 0, none⟩)))]) (fun s154 x155 w' => ∃ O' : Lab, Bs w A w' O' ∧ Lc 3 w' O' g24 26 [(.slice none 0 0), (.slice none 0 0), (.slice none 0 0), (.slice none 0 0)] ∧ Lc 7 w' O' x38.1 26 [(.slice x38.2.1.1 y35.1.length x38.2.1.2), (.slice x38.2.2.1.1 y35.2.1.length x38.2.2.1.2), (.slice x38.2.2.2.1 y35.2.2.length x38.2.2.2.2), (.slice x155.1 s154.length x155.2)] ∧ Rw 4 w' O' 3 (.slice x38.2.1.1 y35.1.length x38.2.1.2) y35.1 ∧ Rw 5 w' O' 3 (.slice x38.2.2.1.1 y35.2.1.length x38.2.2.1.2) y35.2.1 ∧ Rw 6 w' O' 123 (.slice x38.2.2.2.1 y35.2.2.length x38.2.2.2.2) y35.2.2 ∧ Rw 13 w' O' 61 (.slice x155.1 s154.length x155.2) s154)) ?_ ?_
 ·
  refine ewp_block (ewp_rng (σ := (List Opr)) (X := (Option Addr × Nat)) (x0.ops.length) hL153 rfl l151 (fun (s154 : (List Opr)) (x155 : (Option Addr × Nat)) => [(2, (.pointer (some ⟨g24, 0, none⟩))), (3, (.pointer (some ⟨x38.1, 0, none⟩))), (20, (.slice A17 x0.ops.length c18))]) _ (fun s154 x155 w' => ∃ O' : Lab, Bs w A w' O' ∧ Lc 3 w' O' g24 26 [(.slice none 0 0), (.slice none 0 0), (.slice none 0 0), (.slice none 0 0)] ∧ Lc 7 w' O' x38.1 26 [(.slice x38.2.1.1 y35.1.length x38.2.1.2), (.slice x38.2.2.1.1 y35.2.1.length x38.2.2.1.2), (.slice x38.2.2.2.1 y35.2.2.length x38.2.2.2.2), (.slice x155.1 s154.length x155.2)] ∧ Rw 4 w' O' 3 (.slice x38.2.1.1 y35.1.length x38.2.1.2) y35.1 ∧ Rw 5 w' O' 3 (.slice x38.2.2.1.1 y35.2.1.length x38.2.2.1.2) y35.2.1 ∧ Rw 6 w' O' 123 (.slice x38.2.2.2.1 y35.2.2.length x38.2.2.2.2) y35.2.2 ∧ Rw 13 w' O' 61 (.slice x155.1 s154.length x155.2) s154 ∧ Vb w' (Fr 0 w' O') (.slice A17 x0.ops.length c18) x0.ops) _ (none, 0) ⟨O148, hB, h28, h39, h40, h42, h44, (Rw.nil 13 (by decide)), h16⟩ ⟨rfl, rfl, rfl, rfl, rfl, trivial⟩ (fun _ _ => ⟨rfl, rfl⟩) (fun _ _ => ⟨rfl, rfl, trivial⟩) (fun _ _ _ ⟨O', hB, h28, h39, h40, h42, h44, h169, h16⟩ => ⟨O', hB, h28, h39, h40, h42, h44, h169⟩) ⟨rfl, rfl, rfl⟩ ⟨rfl, rfl⟩ ?_)
  rintro k156 a157 s154 x155 w158 cc160 hx161 ⟨O159, hB, h28, h39, h40, h42, h44, h169, h16⟩ hf162 hret163 hbrk164
  have rk156 : inI64 (k156 : Int) := rngK hx161 l151
  refine ewp_seq (ewp_region ?_)
  obtain ⟨b171, o172, ce173, hA174, hl175, hd176, v178, v179, rfl, h180, h183, r186, z187⟩ := h16.elem' hx161
  obtain ⟨A181, c182, rfl⟩ := h180.form
  obtain ⟨A184, c185, rfl⟩ := h183.form
  refine o_iaE (hA := hA174) (hj := rfl) (hlt := hl175) rfl rfl rfl ?_
  refine o_la (hl := rfl) (hc := hd176) rfl rfl ?_
  refine l_alloc 8 O159 rfl fun g188 w189 O190 S191 h192 => ?_
  refine l_store h192 rfl rfl rfl (nle_b rfl) (allOne rfl) fun w193 S194 h192 => ?_
  replace h192 : Lc 8 w193 O190 g188 61 [(.string a157.name), (.int .i64 a157.cost), (.slice A181 a157.pre.length c182), (.slice A184 a157.effs.length c185)] := h192
  refine o_z ?_
  refine ewp_seq (ewp_region (o_fa rfl rfl (o_ld (hc := Blk.cell (i := 2) (h192.1) rfl) rfl rfl ?_)))
  obtain ⟨q195, e196, hf162⟩ := bs hf162
  replace h180 := (h180.st S191).st S194
  refine l_callRow 9 (by decide) (O := O190) (c_slices_Clone_Lapi_Fact_api_Fact Fr.lt h180 e196) rfl rfl fun A202 c203 w197 O198 S199 h200 => ?_
  refine o_fa rfl rfl ?_
  replace h192 := h192.st S199
  refine l_store h192 rfl rfl rfl (nle_b rfl) (allOne rfl) fun w205 S206 h192 => ?_
  replace h192 : Lc 8 w205 O198 g188 61 [(.string a157.name), (.int .i64 a157.cost), (.slice A202 q195.length c203), (.slice A184 a157.effs.length c185)] := h192
  refine o_z ?_
  refine ewp_seq (ewp_region (o_as rfl rfl (o_z ?_)))
  refine ewp_seq (ewp_seq (ewp_region (o_fa rfl rfl (o_ld (hc := Blk.cell (i := 3) (h192.1) rfl) rfl rfl ?_))))
  refine o_ln rfl rfl ?_
  replace h183 := (((h183.st S191).st S194).st S199).st S206
  have l208 : a157.effs.length ≤ 9223372036854775807 := Nat.le_trans h183.len.2.1 h183.len.2.2
  have r207 : inI64 (a157.effs.length : Int) := rngNat l208
  refine o_mv rfl rfl (o_z ?_)
  obtain ⟨res209, hL210, hf162⟩ := bs hf162
  refine ewp_join (aft res209 (fun (s211 : (List Eff)) (x212 : (Option Addr × Nat)) => [(2, (.pointer (some ⟨g24, 0, none⟩))), (3, (.pointer (some ⟨x38.1, 0, none⟩))), (5, (.pointer (some ⟨g188, 0, none⟩))), (6, (.slice x212.1 s211.length x212.2)), (20, (.slice A17 x0.ops.length c18)), (21, (.int .i64 (x0.ops.length : Int))), (22, (.int .i64 (k156 : Int)))]) (fun s211 x212 w' => ∃ O' : Lab, Bs w A w' O' ∧ Lc 3 w' O' g24 26 [(.slice none 0 0), (.slice none 0 0), (.slice none 0 0), (.slice none 0 0)] ∧ Lc 7 w' O' x38.1 26 [(.slice x38.2.1.1 y35.1.length x38.2.1.2), (.slice x38.2.2.1.1 y35.2.1.length x38.2.2.1.2), (.slice x38.2.2.2.1 y35.2.2.length x38.2.2.2.2), (.slice x155.1 s154.length x155.2)] ∧ Rw 4 w' O' 3 (.slice x38.2.1.1 y35.1.length x38.2.1.2) y35.1 ∧ Rw 5 w' O' 3 (.slice x38.2.2.1.1 y35.2.1.length x38.2.2.1.2) y35.2.1 ∧ Rw 6 w' O' 123 (.slice x38.2.2.2.1 y35.2.2.length x38.2.2.2.2) y35.2.2 ∧ Rw 13 w' O' 61 (.slice x155.1 s154.length x155.2) s154 ∧ Lc 8 w' O' g188 61 [(.string a157.name), (.int .i64 a157.cost), (.slice A202 q195.length c203), (.slice A184 a157.effs.length c185)] ∧ Rw 9 w' O' 123 (.slice A202 q195.length c203) q195 ∧ Vb w' (Fr 0 w' O') (.slice A184 a157.effs.length c185) a157.effs ∧ Rw 12 w' O' 76 (.slice x212.1 s211.length x212.2) s211 ∧ Vb w' (Fr 0 w' O') (.slice A17 x0.ops.length c18) x0.ops)) ?_ ?_
  ·
   refine ewp_block ?_
   replace hB := (((hB.st S191).st S194).st S199).st S206
   replace h16 := (((h16.st S191).st S194).st S199).st S206
   replace h28 := (((h28.st S191).st S194).st S199).st S206
   replace h39 := (((h39.st S191).st S194).st S199).st S206
   replace h40 := (((h40.st S191).st S194).st S199).st S206
   replace h42 := (((h42.st S191).st S194).st S199).st S206
   replace h44 := (((h44.st S191).st S194).st S199).st S206
   replace h169 := (((h169.st S191).st S194).st S199).st S206
   replace h200 := h200.st S206
   refine ewp_rng (σ := (List Eff)) (X := (Option Addr × Nat)) (a157.effs.length) hL210 rfl l208 (fun (s211 : (List Eff)) (x212 : (Option Addr × Nat)) => [(2, (.pointer (some ⟨g24, 0, none⟩))), (3, (.pointer (some ⟨x38.1, 0, none⟩))), (5, (.pointer (some ⟨g188, 0, none⟩))), (6, (.slice x212.1 s211.length x212.2)), (20, (.slice A17 x0.ops.length c18)), (21, (.int .i64 (x0.ops.length : Int))), (22, (.int .i64 (k156 : Int))), (31, (.slice A184 a157.effs.length c185))]) _ (fun s211 x212 w' => ∃ O' : Lab, Bs w A w' O' ∧ Lc 3 w' O' g24 26 [(.slice none 0 0), (.slice none 0 0), (.slice none 0 0), (.slice none 0 0)] ∧ Lc 7 w' O' x38.1 26 [(.slice x38.2.1.1 y35.1.length x38.2.1.2), (.slice x38.2.2.1.1 y35.2.1.length x38.2.2.1.2), (.slice x38.2.2.2.1 y35.2.2.length x38.2.2.2.2), (.slice x155.1 s154.length x155.2)] ∧ Rw 4 w' O' 3 (.slice x38.2.1.1 y35.1.length x38.2.1.2) y35.1 ∧ Rw 5 w' O' 3 (.slice x38.2.2.1.1 y35.2.1.length x38.2.2.1.2) y35.2.1 ∧ Rw 6 w' O' 123 (.slice x38.2.2.2.1 y35.2.2.length x38.2.2.2.2) y35.2.2 ∧ Rw 13 w' O' 61 (.slice x155.1 s154.length x155.2) s154 ∧ Lc 8 w' O' g188 61 [(.string a157.name), (.int .i64 a157.cost), (.slice A202 q195.length c203), (.slice A184 a157.effs.length c185)] ∧ Rw 9 w' O' 123 (.slice A202 q195.length c203) q195 ∧ Vb w' (Fr 0 w' O') (.slice A184 a157.effs.length c185) a157.effs ∧ Rw 12 w' O' 76 (.slice x212.1 s211.length x212.2) s211 ∧ Vb w' (Fr 0 w' O') (.slice A17 x0.ops.length c18) x0.ops) _ (none, 0) ⟨O198, hB, h28, h39, h40, h42, h44, h169, h192, h200, h183, (Rw.nil 12 (by decide)), h16⟩ ⟨rfl, rfl, rfl, rfl, rfl, rfl, rfl, rfl, rfl, rfl, trivial⟩ (fun _ _ => ⟨rfl, rfl⟩) (fun _ _ => ⟨rfl, rfl, rfl, rfl, rfl, rfl, rfl, trivial⟩) (fun _ _ _ ⟨O', hB, h28, h39, h40, h42, h44, h169, h192, h200, h183, h226, h16⟩ => ⟨O', hB, h28, h39, h40, h42, h44, h169, h192, h200, h183, h226, h16⟩) ⟨rfl, rfl, rfl⟩ ⟨rfl, rfl⟩ ?_
   rintro k213 a214 s211 x212 w215 cc217 hx218 ⟨O216, hB, h28, h39, h40, h42, h44, h169, h192, h200, h183, h226, h16⟩ hf219 hret220 hbrk221
   have rk213 : inI64 (k213 : Int) := rngK hx218 l208
   refine ewp_seq (ewp_region ?_)
   obtain ⟨b228, o229, ce230, hA231, hl232, hd233, v235, rfl, h236, r239, r240⟩ := h183.elem' hx218
   obtain ⟨A237, c238, rfl⟩ := h236.form
   refine o_iaE (hA := hA231) (hj := rfl) (hlt := hl232) rfl rfl rfl ?_
   refine o_la (hl := rfl) (hc := hd233) rfl rfl ?_
   refine l_alloc 10 O216 rfl fun g241 w242 O243 S244 h245 => ?_
   refine l_store h245 rfl rfl rfl (nle_b rfl) (allOne rfl) fun w246 S247 h245 => ?_
   replace h245 : Lc 10 w246 O243 g241 76 [(.slice A237 a214.cond.length c238), (.int .i64 a214.var), (.int .i64 a214.val)] := h245
   refine o_z ?_
   refine ewp_seq (ewp_region (o_fa rfl rfl (o_ld (hc := Blk.cell (i := 0) (h245.1) rfl) rfl rfl ?_)))
   obtain ⟨q248, e249, hf219⟩ := bs hf219
   replace h236 := (h236.st S244).st S247
   refine l_callRow 11 (by decide) (O := O243) (c_slices_Clone_Lapi_Fact_api_Fact Fr.lt h236 e249) rfl rfl fun A255 c256 w250 O251 S252 h253 => ?_
   refine o_fa rfl rfl ?_
   replace h245 := h245.st S252
   refine l_store h245 rfl rfl rfl (nle_b rfl) (allOne rfl) fun w258 S259 h245 => ?_
   replace h245 : Lc 10 w258 O251 g241 76 [(.slice A255 q248.length c256), (.int .i64 a214.var), (.int .i64 a214.val)] := h245
   refine o_z ?_
   refine ewp_region (o_mv rfl rfl (o_la (hl := rfl) (hc := (h245.1).cellsAt) rfl rfl ?_))
   replace h253 := h253.st S259
   obtain ⟨O260, S261, h253⟩ := h253.freeze
   obtain ⟨u262, e263, hf219⟩ := bs hf219
   obtain ⟨e263, e264, e265⟩ := appI_some e263
   replace h226 := ((((h226.st S244).st S247).st S252).st S259).st S261
   refine l_append1 rfl (a := (⟨q248, a214.var, a214.val⟩ : Eff)) h226 (Vb.ofAgg (cs := [(.slice A255 q248.length c256), (.int .i64 a214.var), (.int .i64 a214.val)]) (x := (⟨q248, a214.var, a214.val⟩ : Eff)) rfl ⟨_, rfl, h253, r239, r240⟩) (fun _ => rfl) rfl (by decide) (by decide) e264 e265 ⟨rfl, rfl⟩ fun g266 A267 c268 w269 O270 S271 h272 => ?_
   rw [← e263] at h272 ⊢
   refine o_as rfl rfl (o_z ?_)
   obtain rfl := sm hf219
   replace hB := (((((hB.st S244).st S247).st S252).st S259).st S261).st S271
   replace h16 := (((((h16.st S244).st S247).st S252).st S259).st S261).st S271
   replace h28 := (((((h28.st S244).st S247).st S252).st S259).st S261).st S271
   replace h39 := (((((h39.st S244).st S247).st S252).st S259).st S261).st S271
   replace h40 := (((((h40.st S244).st S247).st S252).st S259).st S261).st S271
   replace h42 := (((((h42.st S244).st S247).st S252).st S259).st S261).st S271
   replace h44 := (((((h44.st S244).st S247).st S252).st S259).st S261).st S271
   replace h169 := (((((h169.st S244).st S247).st S252).st S259).st S261).st S271
   replace h183 := (((((h183.st S244).st S247).st S252).st S259).st S261).st S271
   replace h192 := (((((h192.st S244).st S247).st S252).st S259).st S261).st S271
   replace h200 := (((((h200.st S244).st S247).st S252).st S259).st S261).st S271
   exact show Exists _ from ⟨_, (A267, c268), rfl, ⟨rfl, rfl, rfl, rfl, rfl, rfl, rfl, rfl, rfl, rfl, trivial⟩, _, hB, h28, h39, h40, h42, h44, h169, h192, h200, h183, h272, h16⟩
  replace hB := (((hB.st S191).st S194).st S199).st S206
  replace h16 := (((h16.st S191).st S194).st S199).st S206
  replace h28 := (((h28.st S191).st S194).st S199).st S206
  replace h39 := (((h39.st S191).st S194).st S199).st S206
  replace h40 := (((h40.st S191).st S194).st S199).st S206
  replace h42 := (((h42.st S191).st S194).st S199).st S206
  replace h44 := (((h44.st S191).st S194).st S199).st S206
  replace h169 := (((h169.st S191).st S194).st S199).st S206
  replace h200 := h200.st S206
  rintro l274 w275 ⟨s278, x279, rfl, hs277, O276, hB, h28, h39, h40, h42, h44, h169, h192, h200, h183, h226, h16⟩
  replace hf162 := fin_done hf162
  refine ewp_sub _ hs277 ?_
  refine ewp_seq (ewp_region (o_mv rfl rfl (o_fa rfl rfl (l_store h192 rfl rfl rfl (nle_b rfl) (allOne rfl) fun w280 S281 h192 => ?_))))
  replace h192 : Lc 8 w280 O276 g188 61 [(.string a157.name), (.int .i64 a157.cost), (.slice A202 q195.length c203), (.slice x279.1 s278.length x279.2)] := h192
  refine o_z ?_
  refine ewp_region (o_fa rfl rfl ?_)
  replace h39 := h39.st S281
  refine o_ld (hc := Blk.cell (i := 3) (h39.1) rfl) rfl rfl ?_
  refine o_la (hl := rfl) (hc := (h192.1).cellsAt) rfl rfl ?_
  replace h200 := h200.st S281
  obtain ⟨O282, S283, h200⟩ := h200.freeze
  replace h226 := (h226.st S281).st S283
  obtain ⟨O284, S285, h226⟩ := h226.freeze
  obtain ⟨u286, e287, hf162⟩ := bs hf162
  obtain ⟨e287, e288, e289⟩ := appI_some e287
  replace h169 := ((h169.st S281).st S283).st S285
  replace h200 := h200.st S285
  refine l_append1 rfl (a := (⟨a157.name, a157.cost, q195, s278⟩ : Opr)) h169 (Vb.ofAgg (cs := [(.string a157.name), (.int .i64 a157.cost), (.slice A202 q195.length c203), (.slice x279.1 s278.length x279.2)]) (x := (⟨a157.name, a157.cost, q195, s278⟩ : Opr)) rfl ⟨_, _, rfl, h200, h226, r186, z187⟩) (fun _ => rfl) rfl (by decide) (by decide) e288 e289 ⟨rfl, rfl⟩ fun g290 A291 c292 w293 O294 S295 h296 => ?_
  rw [← e287] at h296 ⊢
  refine o_fa rfl rfl ?_
  replace h39 := ((h39.st S283).st S285).st S295
  refine l_store h39 rfl rfl rfl (nle_b rfl) (allOne rfl) fun w298 S299 h39 => ?_
  replace h39 : Lc 7 w298 O294 x38.1 26 [(.slice x38.2.1.1 y35.1.length x38.2.1.2), (.slice x38.2.2.1.1 y35.2.1.length x38.2.2.1.2), (.slice x38.2.2.2.1 y35.2.2.length x38.2.2.2.2), (.slice A291 u286.length c292)] := h39
  refine o_z ?_
  obtain rfl := sm hf162
  replace hB := ((((hB.st S281).st S283).st S285).st S295).st S299
  replace h16 := ((((h16.st S281).st S283).st S285).st S295).st S299
  replace h28 := ((((h28.st S281).st S283).st S285).st S295).st S299
  replace h40 := ((((h40.st S281).st S283).st S285).st S295).st S299
  replace h42 := ((((h42.st S281).st S283).st S285).st S295).st S299
  replace h44 := ((((h44.st S281).st S283).st S285).st S295).st S299
  replace h296 := h296.st S299
  exact show Exists _ from ⟨_, (A291, c292), rfl, ⟨rfl, rfl, rfl, rfl, rfl, trivial⟩, _, hB, h28, h39, h40, h42, h44, h296, h16⟩
 rintro l300 w301 ⟨s304, x305, rfl, hs303, O302, hB, h28, h39, h40, h42, h44, h169⟩
 replace hm := fin_done hm
 refine ewp_sub _ hs303 ?_
 refine ewp_seq (ewp_region (o_la (hl := rfl) (hc := (h39.1).cellsAt) rfl rfl ?_))
 refine l_store h28 rfl rfl rfl (nle_b rfl) (allOne rfl) fun w306 S307 h28 => ?_
 replace h28 : Lc 3 w306 O302 g24 26 [(.slice x38.2.1.1 y35.1.length x38.2.1.2), (.slice x38.2.2.1.1 y35.2.1.length x38.2.2.1.2), (.slice x38.2.2.2.1 y35.2.2.length x38.2.2.2.2), (.slice x305.1 s304.length x305.2)] := h28
 refine o_z ?_
 refine ewp_ret ?_
 replace h40 := h40.st S307
 obtain ⟨O308, S309, h40⟩ := h40.freeze
 replace h42 := (h42.st S307).st S309
 obtain ⟨O310, S311, h42⟩ := h42.freeze
 replace h44 := ((h44.st S307).st S309).st S311
 obtain ⟨O312, S313, h44⟩ := h44.freeze
 replace h169 := (((h169.st S307).st S309).st S311).st S313
 obtain ⟨O314, S315, h169⟩ := h169.freeze
 obtain rfl := sm hm
 replace hB := ((((hB.st S307).st S309).st S311).st S313).st S315
 replace h28 := (((h28.st S309).st S311).st S313).st S315
 replace h40 := ((h40.st S311).st S313).st S315
 replace h42 := (h42.st S313).st S315
 replace h44 := h44.st S315
 exact ret1v rfl (res_cell (cs := [(.slice x38.2.1.1 y35.1.length x38.2.1.2), (.slice x38.2.2.1.1 y35.2.1.length x38.2.2.1.2), (.slice x38.2.2.2.1 y35.2.2.length x38.2.2.2.2), (.slice x305.1 s304.length x305.2)]) rfl rfl h28.1.cellsAt) ⟨hB.ext, (Vb.mono (F := Fr 0 w306 O314) (Vb.ofAgg (cs := [(.slice x38.2.1.1 y35.1.length x38.2.1.2), (.slice x38.2.2.1.1 y35.2.1.length x38.2.2.1.2), (.slice x38.2.2.2.1 y35.2.2.length x38.2.2.2.2), (.slice x305.1 s304.length x305.2)]) (x := (⟨y35.1, y35.2.1, y35.2.2, s304⟩ : Tsk)) rfl ⟨_, _, _, _, rfl, h40, h42, h44, h169⟩) hB.out)⟩
noncomputable def m_explore_shortest (x0 : List (List Arc)) (x1 : List Int) : Option ((List Int) × (List Int)) :=
  bnd (mkI 8 (0 : Int) (x0.length : Int)) fun u7 => bnd (mkI 8 (0 : Int) (x0.length : Int)) fun u9 => bnd (some (u7, u9) : Option ((List Int) × (List Int))) fun y11 => bnd (rngN (ρ := (List Int) × (List Int)) (fun (k77 : Nat) (s75 : (List Int) × (List Int)) => bnd (s75.1[k77]?) fun a104 => bnd (s75.2[k77]?) fun a116 => some (.next ((s75.1.set k77 1125899906842624), (s75.2.set k77 1125899906842624)))) y11.1.length (y11.1, y11.2)) fun res73 => fin res73 fun (s132 : (List Int) × (List Int)) => bnd (m_pqueue_New) fun q134 => bnd q134 fun o144 => bnd (rng (ρ := (List Int) × (List Int)) (fun (k151 : Nat) (a152 : Int) (s149 : (List Int) × (List Int) × Que) => bnd (atI s149.1 a152) fun a180 => bnd (atI s149.2.1 a152) fun a194 => bnd (m_pqueue_Queue_Push s149.2.2 0 0 a152) fun q208 => some (.next ((s149.1.set (a152 : Int).toNat 0), (s149.2.1.set (a152 : Int).toNat 0), q208.2))) x1 0 (s132.1, s132.2, o144)) fun res147 => fin res147 fun (s222 : (List Int) × (List Int) × Que) => bnd (lop (ρ := (List Int) × (List Int)) (fun (s226 : (List Int) × (List Int) × Que) => bnd (m_pqueue_Queue_Len s226.2.2) fun q249 => if 0 < q249 then (bnd (m_pqueue_Queue_Pop s226.2.2) fun q260 => if q260.2.2.2.1.n ≠ 0 then (some (.brk (s226.1, s226.2.1, q260.2.2.2.2))) else (bnd (bnd (atI s226.1 q260.2.2.1) fun a285 => if q260.1 ≠ a285 then (some true) else (bnd (atI s226.2.1 q260.2.2.1) fun a298 => if q260.2.1 ≠ a298 then (some true) else (some false)) : Option Bool) fun y281 => if y281 = true then (some (.next (s226.1, s226.2.1, q260.2.2.2.2))) else (bnd (atI x0 q260.2.2.1) fun a316 => bnd (rng (ρ := Ctl ((List Int) × (List Int) × Que) ((List Int) × (List Int))) (fun (k337 : Nat) (a338 : Arc) (s335 : (List Int) × (List Int) × Que) => bnd (chkI (q260.1 + a338.weight)) fun n375 => bnd (chkI (q260.2.1 + 1)) fun n378 => bnd (bnd (atI s335.1 a338.dst) fun a385 => if a385 < n375 then (some true) else (bnd (atI s335.1 a338.dst) fun a398 => if n375 = a398 then (bnd (atI s335.2.1 a338.dst) fun a411 => if a411 ≤ n378 then (some true) else (some false)) else (some false)) : Option Bool) fun y381 => if y381 = true then (some (.next (s335.1, s335.2.1, s335.2.2))) else (bnd (atI s335.1 a338.dst) fun a429 => bnd (atI s335.2.1 a338.dst) fun a443 => bnd (m_pqueue_Queue_Push s335.2.2 n375 n378 a338.dst) fun q457 => if q457.1.n ≠ 0 then (bnd (m_explore_relaxed x0 (s335.1.set (a338.dst : Int).toNat n375) (s335.2.1.set (a338.dst : Int).toNat n378)) fun q472 => some (.ret (.ret (q472.1, q472.2)))) else (some (.next ((s335.1.set (a338.dst : Int).toNat n375), (s335.2.1.set (a338.dst : Int).toNat n378), q457.2))))) a316 0 (s226.1, s226.2.1, q260.2.2.2.2)) fun res333 => fin res333 fun (s491 : (List Int) × (List Int) × Que) => some (.next (s491.1, s491.2.1, s491.2.2))))) else (some (.brk (s226.1, s226.2.1, s226.2.2)))) (s222.1, s222.2.1, s222.2.2)) fun res224 => fin res224 fun (s497 : (List Int) × (List Int) × Que) => some (s497.1, s497.2.1)
theorem c_explore_shortest {w : World} {A : Nat → Prop} (hA : ∀ k, A k → k < w.heap.size) {vx0 : Value} {x0 : List (List Arc)} (hx0 : Vb w A vx0 x0) {vx1 : Value} {x1 : List Int} (hx1 : Vb w A vx1 x1) {r : (List Int) × (List Int)} (hm : m_explore_shortest x0 x1 = some r) :
    Fn Tryz.prog 60 [vx0, vx1] w fun v w' => Ext w w' ∧ T2 w' (upA A w w') v r := by
 obtain ⟨O, hB, hA0⟩ := enter hA
 replace hx0 := hx0.mono hA0
 obtain ⟨A3, c4, rfl⟩ := hx0.form
 replace hx1 := hx1.mono hA0
 obtain ⟨A5, c6, rfl⟩ := hx1.form
 refine fn_enter Tryz.func60 rfl Tryz.ntmps60 rfl ?_
 unfold m_explore_shortest at hm
 refine ewp_seq (ewp_region (o_as rfl rfl (o_as rfl rfl (o_z ?_))))
 refine ewp_seq ?_
 obtain ⟨u7, e8, hm⟩ := bs hm
 obtain ⟨u9, e10, hm⟩ := bs hm
 obtain ⟨y11, hy12, hm⟩ := bs hm
 refine ewp_join (fun l' w' => ∃ (x14 : (Option Addr × Nat) × (Option Addr × Nat)) (O' : Lab), subs l' [(0, (.slice A3 x0.length c4)), (1, (.slice A5 x1.length c6)), (6, (.slice x14.1.1 y11.1.length x14.1.2)), (7, (.slice x14.2.1 y11.2.length x14.2.2))] ∧ Bs w A w' O' ∧ Vb w' (Fr 0 w' O') (.slice A3 x0.length c4) x0 ∧ Vb w' (Fr 0 w' O') (.slice A5 x1.length c6) x1 ∧ Rw 2 w' O' 3 (.slice x14.1.1 y11.1.length x14.1.2) y11.1 ∧ Rw 3 w' O' 3 (.slice x14.2.1 y11.2.length x14.2.2) y11.2) ?_ ?_
 ·
  refine ewp_drawX [] O ?_
  refine x_pre (fuel := 4) [] [(0, true), (1, true), (3, true), (4, true)] (by kernel_rfl) rfl ?_
  refine h_mv rfl rfl rfl (h_ln rfl rfl rfl ?_)
  have l20 : x0.length ≤ 9223372036854775807 := Nat.le_trans hx0.len.2.1 hx0.len.2.2
  have r19 : inI64 (x0.length : Int) := rngNat l20
  refine h_mv rfl rfl rfl (h_ln rfl rfl rfl ?_)
  have l22 : x0.length ≤ 9223372036854775807 := Nat.le_trans hx0.len.2.1 hx0.len.2.2
  have r21 : inI64 (x0.length : Int) := rngNat l22
  refine hwp_nilT ?_
  refine x_two (i := 2) (j := 5) (by kernel_rfl) rfl rfl ?_ ?_
  ·
   obtain ⟨m23, e24, e25, e26, e27⟩ := mkI_some e8
   refine l_make 2 (by decide) O (z0 := (0 : Int)) rfl rfl rfl rfl rfl e24 (vInt (show inI64 0 from by decide)) e25 e26 rfl fun g28 w29 O30 S31 h32 => ?_
   rw [← e27] at h32 ⊢
   have hZ := S31.lst [] (fun _ h => h.elim)
   refine x_go [] hZ (by kernel_rfl) ?_
   refine x_pre (fuel := 2) [] [(6, true)] (by kernel_rfl) rfl ?_
   refine h_as rfl rfl rfl (hwp_nilT ?_)
   refine x_one (i := 5) (by kernel_rfl) rfl ?_
   obtain ⟨m34, e35, e36, e37, e38⟩ := mkI_some e10
   refine l_make 3 (by decide) O30 (z0 := (0 : Int)) rfl rfl rfl rfl rfl e35 (vInt (show inI64 0 from by decide)) e36 e37 rfl fun g39 w40 O41 S42 h43 => ?_
   rw [← e38] at h43 ⊢
   have hZ := S42.lst [] (fun _ h => h.elim)
   refine x_go [] hZ (by kernel_rfl) ?_
   refine x_pre (fuel := 0) [] [(7, true)] (by kernel_rfl) rfl ?_
   refine h_as rfl rfl rfl (hwp_nilT ?_)
   refine x_nil (by kernel_rfl) ?_
   obtain rfl := sm hy12
   replace hB := (hB.st S31).st S42
   replace hx0 := (hx0.st S31).st S42
   replace hx1 := (hx1.st S31).st S42
   replace h32 := h32.st S42
   exact ⟨(((some ⟨g28, 0, none⟩), m23), ((some ⟨g39, 0, none⟩), m34)), _, ⟨rfl, rfl, rfl, rfl, trivial⟩, hB, hx0, hx1, h32, h43⟩
  obtain ⟨m45, e46, e47, e48, e49⟩ := mkI_some e10
  refine l_make 3 (by decide) O (z0 := (0 : Int)) rfl rfl rfl rfl rfl e46 (vInt (show inI64 0 from by decide)) e47 e48 rfl fun g50 w51 O52 S53 h54 => ?_
  rw [← e49] at h54 ⊢
  have hZ := S53.lst [] (fun _ h => h.elim)
  refine x_go [] hZ (by kernel_rfl) ?_
  refine x_one (i := 2) (by kernel_rfl) rfl ?_
  obtain ⟨m56, e57, e58, e59, e60⟩ := mkI_some e8
  refine l_make 2 (by decide) O52 (z0 := (0 : Int)) rfl rfl rfl rfl rfl e57 (vInt (show inI64 0 from by decide)) e58 e59 rfl fun g61 w62 O63 S64 h65 => ?_
  rw [← e60] at h65 ⊢
  have hZ := S64.lst [] (fun _ h => h.elim)
  refine x_go [] hZ (by kernel_rfl) ?_
  refine x_pre (fuel := 0) [] [(6, true), (7, true)] (by kernel_rfl) rfl ?_
  refine h_as rfl rfl rfl (h_as rfl rfl rfl (hwp_nilT ?_))
  refine x_nil (by kernel_rfl) ?_
  obtain rfl := sm hy12
  replace hB := (hB.st S53).st S64
  replace hx0 := (hx0.st S53).st S64
  replace hx1 := (hx1.st S53).st S64
  replace h54 := h54.st S64
  exact ⟨(((some ⟨g61, 0, none⟩), m56), ((some ⟨g50, 0, none⟩), m45)), _, ⟨rfl, rfl, rfl, rfl, trivial⟩, hB, hx0, hx1, h65, h54⟩
 rintro l67 w68 ⟨x14, O69, hs70, hB, hx0, hx1, h15, h17⟩
 refine ewp_sub _ hs70 ?_
 refine ewp_seq (ewp_seq (ewp_region (o_mv rfl rfl (o_ln rfl rfl ?_))))
 have l72 : y11.1.length ≤ 9223372036854775807 := Nat.le_trans h15.len.2.1 h15.len.2.2
 have r71 : inI64 (y11.1.length : Int) := rngNat l72
 refine o_mv rfl rfl (o_z ?_)
 obtain ⟨res73, hL74, hm⟩ := bs hm
 refine ewp_join (aft res73 (fun (s75 : (List Int) × (List Int)) (x76 : Unit) => [(0, (.slice A3 x0.length c4)), (1, (.slice A5 x1.length c6)), (6, (.slice x14.1.1 y11.1.length x14.1.2)), (7, (.slice x14.2.1 y11.2.length x14.2.2))]) (fun s75 x76 w' => ∃ O' : Lab, Bs w A w' O' ∧ Vb w' (Fr 0 w' O') (.slice A3 x0.length c4) x0 ∧ Vb w' (Fr 0 w' O') (.slice A5 x1.length c6) x1 ∧ Rw 2 w' O' 3 (.slice x14.1.1 y11.1.length x14.1.2) s75.1 ∧ Rw 3 w' O' 3 (.slice x14.2.1 y11.2.length x14.2.2) s75.2)) ?_ ?_
 ·
  refine ewp_block (ewp_rngN (σ := (List Int) × (List Int)) (X := Unit) (y11.1.length) hL74 l72 (fun (s75 : (List Int) × (List Int)) (x76 : Unit) => [(0, (.slice A3 x0.length c4)), (1, (.slice A5 x1.length c6)), (6, (.slice x14.1.1 y11.1.length x14.1.2)), (7, (.slice x14.2.1 y11.2.length x14.2.2))]) _ (fun s75 x76 w' => ∃ O' : Lab, Bs w A w' O' ∧ Vb w' (Fr 0 w' O') (.slice A3 x0.length c4) x0 ∧ Vb w' (Fr 0 w' O') (.slice A5 x1.length c6) x1 ∧ Rw 2 w' O' 3 (.slice x14.1.1 y11.1.length x14.1.2) s75.1 ∧ Rw 3 w' O' 3 (.slice x14.2.1 y11.2.length x14.2.2) s75.2) _ () ⟨O69, hB, hx0, hx1, h15, h17⟩ ⟨rfl, rfl, rfl, rfl, rfl, rfl, trivial⟩ (fun _ _ => ⟨rfl, rfl⟩) (fun _ _ => ⟨rfl, rfl, rfl, rfl, trivial⟩) (fun _ _ _ ⟨O', hB, hx0, hx1, h100, h102⟩ => ⟨O', hB, hx0, hx1, h100, h102⟩) ⟨rfl, rfl, rfl⟩ ⟨rfl, rfl⟩ ?_)
  rintro k77 s75 x76 w79 cc81 hx82 ⟨O80, hB, hx0, hx1, h100, h102⟩ hf83 hret84 hbrk85
  have rk77 : inI64 (k77 : Int) := rngKN hx82 l72
  refine ewp_seq (ewp_region (o_mv rfl rfl (o_as rfl rfl (o_z ?_))))
  refine ewp_region (o_mv rfl rfl (o_mv rfl rfl (o_mv rfl rfl (o_mv rfl rfl ?_))))
  obtain ⟨a104, e105, hf83⟩ := bs hf83
  obtain ⟨b106, o107, ce108, hA109, hl110, hd111, rfl, r113⟩ := h100.elem e105
  refine o_iaE (hA := hA109) (hj := rfl) (hlt := hl110) rfl rfl rfl ?_
  refine l_setE rfl h100 (a := 1125899906842624) (vInt (show inI64 (1125899906842624) from by decide)) hA109 rfl rfl (lt_of_get e105) fun w114 S115 h100 => ?_
  obtain ⟨a116, e117, hf83⟩ := bs hf83
  replace h102 := h102.st S115
  obtain ⟨b118, o119, ce120, hA121, hl122, hd123, rfl, r125⟩ := h102.elem e117
  refine o_iaE (hA := hA121) (hj := rfl) (hlt := hl122) rfl rfl rfl ?_
  refine l_setE rfl h102 (a := 1125899906842624) (vInt (show inI64 (1125899906842624) from by decide)) hA121 rfl rfl (lt_of_get e117) fun w126 S127 h102 => ?_
  refine o_z ?_
  obtain rfl := sm hf83
  replace hB := (hB.st S115).st S127
  replace hx0 := (hx0.st S115).st S127
  replace hx1 := (hx1.st S115).st S127
  replace h100 := h100.st S127
  exact show Exists _ from ⟨_, (), rfl, ⟨rfl, rfl, rfl, rfl, rfl, rfl, trivial⟩, _, hB, hx0, hx1, h100, h102⟩
 rintro l128 w129 ⟨s132, x133, rfl, hs131, O130, hB, hx0, hx1, h100, h102⟩
 replace hm := fin_done hm
 refine ewp_sub _ hs131 ?_
 refine ewp_seq (ewp_region ?_)
 obtain ⟨q134, e135, hm⟩ := bs hm
 refine l_callM (O := O130) (c_pqueue_New 4 (by decide) e135) rfl rfl fun v140 w136 O137 S138 h141 => ?_
 refine o_as rfl rfl (o_z ?_)
 refine ewp_seq (ewp_seq (ewp_region (o_mv rfl rfl (o_ln rfl rfl ?_))))
 replace hx1 := hx1.st S138
 have l143 : x1.length ≤ 9223372036854775807 := Nat.le_trans hx1.len.2.1 hx1.len.2.2
 have r142 : inI64 (x1.length : Int) := rngNat l143
 refine o_mv rfl rfl (o_z ?_)
 obtain ⟨o144, e145, hm⟩ := bs hm
 rw [e145] at h141
 obtain ⟨p146, rfl⟩ := Ob.ptr h141
 obtain ⟨res147, hL148, hm⟩ := bs hm
 refine ewp_join (aft res147 (fun (s149 : (List Int) × (List Int) × Que) (x150 : Unit) => [(0, (.slice A3 x0.length c4)), (6, (.slice x14.1.1 y11.1.length x14.1.2)), (7, (.slice x14.2.1 y11.2.length x14.2.2)), (9, (.pointer (some ⟨p146, 0, none⟩)))]) (fun s149 x150 w' => ∃ O' : Lab, Bs w A w' O' ∧ Vb w' (Fr 0 w' O') (.slice A3 x0.length c4) x0 ∧ Rw 2 w' O' 3 (.slice x14.1.1 y11.1.length x14.1.2) s149.1 ∧ Rw 3 w' O' 3 (.slice x14.2.1 y11.2.length x14.2.2) s149.2.1 ∧ Ob 4 w' O' (.pointer (some ⟨p146, 0, none⟩)) s149.2.2)) ?_ ?_
 ·
  refine ewp_block ?_
  replace hB := hB.st S138
  replace hx0 := hx0.st S138
  replace h100 := h100.st S138
  replace h102 := h102.st S138
  refine ewp_rng (σ := (List Int) × (List Int) × Que) (X := Unit) (x1.length) hL148 rfl l143 (fun (s149 : (List Int) × (List Int) × Que) (x150 : Unit) => [(0, (.slice A3 x0.length c4)), (6, (.slice x14.1.1 y11.1.length x14.1.2)), (7, (.slice x14.2.1 y11.2.length x14.2.2)), (9, (.pointer (some ⟨p146, 0, none⟩))), (39, (.slice A5 x1.length c6))]) _ (fun s149 x150 w' => ∃ O' : Lab, Bs w A w' O' ∧ Vb w' (Fr 0 w' O') (.slice A3 x0.length c4) x0 ∧ Rw 2 w' O' 3 (.slice x14.1.1 y11.1.length x14.1.2) s149.1 ∧ Rw 3 w' O' 3 (.slice x14.2.1 y11.2.length x14.2.2) s149.2.1 ∧ Ob 4 w' O' (.pointer (some ⟨p146, 0, none⟩)) s149.2.2 ∧ Vb w' (Fr 0 w' O') (.slice A5 x1.length c6) x1) _ () ⟨O137, hB, hx0, h100, h102, h141, hx1⟩ ⟨rfl, rfl, rfl, rfl, rfl, rfl, rfl, trivial⟩ (fun _ _ => ⟨rfl, rfl⟩) (fun _ _ => ⟨rfl, rfl, rfl, rfl, trivial⟩) (fun _ _ _ ⟨O', hB, hx0, h167, h169, h171, hx1⟩ => ⟨O', hB, hx0, h167, h169, h171⟩) ⟨rfl, rfl, rfl⟩ ⟨rfl, rfl⟩ ?_
  rintro k151 a152 s149 x150 w153 cc155 hx156 ⟨O154, hB, hx0, h167, h169, h171, hx1⟩ hf157 hret158 hbrk159
  have rk151 : inI64 (k151 : Int) := rngK hx156 l143
  refine ewp_seq (ewp_region ?_)
  obtain ⟨b172, o173, ce174, hA175, hl176, hd177, rfl, r179⟩ := hx1.elem' hx156
  refine o_iaE (hA := hA175) (hj := rfl) (hlt := hl176) rfl rfl rfl ?_
  refine o_ld (hc := cat0 hd177) rfl rfl ?_
  refine o_as rfl rfl (o_z ?_)
  refine ewp_seq (ewp_region (o_mv rfl rfl (o_mv rfl rfl (o_mv rfl rfl (o_mv rfl rfl ?_)))))
  obtain ⟨a180, e181, hf157⟩ := bs hf157
  obtain ⟨p183, x182⟩ := atI_some' e181
  obtain ⟨b184, o185, ce186, hA187, hl188, hd189, rfl, r191⟩ := h167.elem x182
  refine o_iaE (hA := hA187) (hj := (Int.toNat_of_nonneg p183).symm) (hlt := hl188) rfl rfl rfl ?_
  refine l_setE rfl h167 (a := 0) (vInt (show inI64 (0) from by decide)) hA187 rfl rfl (lt_of_get x182) fun w192 S193 h167 => ?_
  obtain ⟨a194, e195, hf157⟩ := bs hf157
  obtain ⟨p197, x196⟩ := atI_some' e195
  replace h169 := h169.st S193
  obtain ⟨b198, o199, ce200, hA201, hl202, hd203, rfl, r205⟩ := h169.elem x196
  refine o_iaE (hA := hA201) (hj := (Int.toNat_of_nonneg p197).symm) (hlt := hl202) rfl rfl rfl ?_
  refine l_setE rfl h169 (a := 0) (vInt (show inI64 (0) from by decide)) hA201 rfl rfl (lt_of_get x196) fun w206 S207 h169 => ?_
  refine o_z ?_
  refine ewp_region (o_mv rfl rfl (o_mv rfl rfl ?_))
  obtain ⟨q208, e209, hf157⟩ := bs hf157
  replace h171 := (h171.st S193).st S207
  refine l_callM (O := O154) (c_pqueue_Queue_Push h171 (show inI64 (0) from by decide) (show inI64 (0) from by decide) r179 e209) rfl rfl fun v214 w210 O211 S212 h213 => ?_
  obtain ⟨h215, h216⟩ := h213
  obtain ⟨rfl, r217⟩ := h216.err
  refine o_z ?_
  obtain rfl := sm hf157
  replace hB := ((hB.st S193).st S207).st S212
  replace hx0 := ((hx0.st S193).st S207).st S212
  replace hx1 := ((hx1.st S193).st S207).st S212
  replace h167 := (h167.st S207).st S212
  replace h169 := h169.st S212
  exact show Exists _ from ⟨_, (), rfl, ⟨rfl, rfl, rfl, rfl, rfl, rfl, rfl, trivial⟩, _, hB, hx0, h167, h169, h215, hx1⟩
 replace hB := hB.st S138
 replace hx0 := hx0.st S138
 rintro l218 w219 ⟨s222, x223, rfl, hs221, O220, hB, hx0, h167, h169, h171⟩
 replace hm := fin_done hm
 refine ewp_sub _ hs221 ?_
 refine ewp_seq ?_
 obtain ⟨res224, hL225, hm⟩ := bs hm
 refine ewp_join (aft res224 (fun (s226 : (List Int) × (List Int) × Que) (x227 : Unit) => [(6, (.slice x14.1.1 y11.1.length x14.1.2)), (7, (.slice x14.2.1 y11.2.length x14.2.2))]) (fun s226 x227 w' => ∃ O' : Lab, Bs w A w' O' ∧ Rw 2 w' O' 3 (.slice x14.1.1 y11.1.length x14.1.2) s226.1 ∧ Rw 3 w' O' 3 (.slice x14.2.1 y11.2.length x14.2.2) s226.2.1)) ?_ ?_
 ·
  refine ewp_block (ewp_lop (σ := (List Int) × (List Int) × Que) (X := Unit) hL225 (fun (s226 : (List Int) × (List Int) × Que) (x227 : Unit) => [(0, (.slice A3 x0.length c4)), (6, (.slice x14.1.1 y11.1.length x14.1.2)), (7, (.slice x14.2.1 y11.2.length x14.2.2)), (9, (.pointer (some ⟨p146, 0, none⟩)))]) _ (fun s226 x227 w' => ∃ O' : Lab, Bs w A w' O' ∧ Vb w' (Fr 0 w' O') (.slice A3 x0.length c4) x0 ∧ Rw 2 w' O' 3 (.slice x14.1.1 y11.1.length x14.1.2) s226.1 ∧ Rw 3 w' O' 3 (.slice x14.2.1 y11.2.length x14.2.2) s226.2.1 ∧ Ob 4 w' O' (.pointer (some ⟨p146, 0, none⟩)) s226.2.2) _ () ⟨O220, hB, hx0, h167, h169, h171⟩ ⟨rfl, rfl, rfl, rfl, trivial⟩ ?_)
  rintro s226 x227 w230 cc232 ⟨O231, hB, hx0, h244, h246, h248⟩ hf234 hret235 hbrk236
  refine ewp_seq (ewp_seq (ewp_region (o_mv rfl rfl ?_)))
  obtain ⟨q249, e250, hf234⟩ := bs hf234
  refine l_callM (O := O231) (c_pqueue_Queue_Len h248 e250) rfl rfl fun v255 w251 O252 S253 h254 => ?_
  obtain ⟨h256, h257⟩ := h254
  obtain ⟨rfl, r258⟩ := h257.int
  refine o_gtS rfl rfl rfl (fun c259 => ?_) fun c259 => ?_
  ·
   replace hf234 := ip hf234 c259
   refine o_z ?_
   refine ewp_true rfl (ewp_skip (ewp_block (ewp_seq (ewp_region (o_mv rfl rfl ?_)))))
   obtain ⟨q260, e261, hf234⟩ := bs hf234
   refine l_callM (O := O252) (c_pqueue_Queue_Pop h256 e261) rfl rfl fun v266 w262 O263 S264 h265 => ?_
   obtain ⟨v268, v269, v270, v271, h267, rfl, h272, h273, h274, h275⟩ := h265
   obtain ⟨rfl, r276⟩ := h272.int
   obtain ⟨rfl, r277⟩ := h273.int
   obtain ⟨rfl, r278⟩ := h274.int
   obtain ⟨rfl, r279⟩ := h275.err
   refine o_mv rfl rfl (o_ex rfl rfl rfl (o_ex rfl rfl rfl (o_ex rfl rfl rfl (o_ex rfl rfl rfl (o_as rfl rfl (o_as rfl rfl (o_as rfl rfl (o_as rfl rfl (o_z ?_)))))))))
   refine ewp_seq (ewp_seq (ewp_region (o_mv rfl rfl (o_rnS rfl rfl (fun c280 => ?_) fun c280 => ?_))))
   ·
    replace hf234 := ip hf234 c280
    refine o_z ?_
    refine ewp_true rfl (ewp_exit ?_)
    obtain rfl := sm hf234
    replace hB := (hB.st S253).st S264
    replace h244 := (h244.st S253).st S264
    replace h246 := (h246.st S253).st S264
    exact show Exists _ from ⟨_, (), hbrk236 _ rfl, ⟨rfl, rfl, trivial⟩, _, hB, h244, h246⟩
   replace hf234 := im hf234 c280
   refine o_z ?_
   refine ewp_false rfl (ewp_skip (ewp_seq (ewp_seq ?_)))
   obtain ⟨y281, hy282, hf234⟩ := bs hf234
   refine ewp_join (fun l' w' => ∃ (x284 : Unit) (O' : Lab), subs l' [(0, (.slice A3 x0.length c4)), (6, (.slice x14.1.1 y11.1.length x14.1.2)), (7, (.slice x14.2.1 y11.2.length x14.2.2)), (9, (.pointer (some ⟨p146, 0, none⟩))), (12, (.int .i64 q260.1)), (13, (.int .i64 q260.2.1)), (14, (.int .i64 q260.2.2.1)), (80, (.bool y281))] ∧ Bs w A w' O' ∧ Vb w' (Fr 0 w' O') (.slice A3 x0.length c4) x0 ∧ Rw 2 w' O' 3 (.slice x14.1.1 y11.1.length x14.1.2) s226.1 ∧ Rw 3 w' O' 3 (.slice x14.2.1 y11.2.length x14.2.2) s226.2.1 ∧ Ob 4 w' O' (.pointer (some ⟨p146, 0, none⟩)) q260.2.2.2.2) ?_ ?_
   ·
    refine ewp_region (o_mv rfl rfl (o_mv rfl rfl (o_mv rfl rfl ?_)))
    obtain ⟨a285, e286, hy282⟩ := bs hy282
    obtain ⟨p288, x287⟩ := atI_some' e286
    replace h244 := (h244.st S253).st S264
    obtain ⟨b289, o290, ce291, hA292, hl293, hd294, rfl, r296⟩ := h244.elem x287
    refine o_iaE (hA := hA292) (hj := (Int.toNat_of_nonneg p288).symm) (hlt := hl293) rfl rfl rfl ?_
    refine o_ld (hc := cat0 hd294) rfl rfl ?_
    refine o_neS rfl rfl rfl (fun c297 => ?_) fun c297 => ?_
    ·
     replace hy282 := ip hy282 c297
     refine o_mv rfl rfl (owp_no rfl rfl rfl rfl (owp_no rfl rfl rfl rfl (owp_no rfl rfl rfl rfl (owp_no rfl rfl rfl rfl (owp_no rfl rfl rfl rfl (owp_no rfl rfl rfl rfl (o_pt rfl rfl rfl (o_z ?_))))))))
     obtain rfl := sm hy282
     replace hB := (hB.st S253).st S264
     replace hx0 := (hx0.st S253).st S264
     replace h246 := (h246.st S253).st S264
     exact ⟨(), _, ⟨rfl, rfl, rfl, rfl, rfl, rfl, rfl, rfl, trivial⟩, hB, hx0, h244, h246, h267⟩
    replace hy282 := im hy282 c297
    refine o_mv rfl rfl (owp_yes rfl rfl (o_mv rfl rfl (owp_yes rfl rfl (o_mv rfl rfl (owp_yes rfl rfl (o_mv rfl rfl (owp_yes rfl rfl ?_)))))))
    obtain ⟨a298, e299, hy282⟩ := bs hy282
    obtain ⟨p301, x300⟩ := atI_some' e299
    replace h246 := (h246.st S253).st S264
    obtain ⟨b302, o303, ce304, hA305, hl306, hd307, rfl, r309⟩ := h246.elem x300
    refine o_iaE (hA := hA305) (hj := (Int.toNat_of_nonneg p301).symm) (hlt := hl306) rfl rfl rfl ?_
    refine owp_yes rfl rfl (o_ld (hc := cat0 hd307) rfl rfl ?_)
    refine owp_yes rfl rfl (o_neS rfl rfl rfl (fun c310 => ?_) fun c310 => ?_)
    ·
     replace hy282 := ip hy282 c310
     refine o_pf rfl rfl rfl (o_z ?_)
     obtain rfl := sm hy282
     replace hB := (hB.st S253).st S264
     replace hx0 := (hx0.st S253).st S264
     exact ⟨(), _, ⟨rfl, rfl, rfl, rfl, rfl, rfl, rfl, rfl, trivial⟩, hB, hx0, h244, h246, h267⟩
    replace hy282 := im hy282 c310
    refine o_pf rfl rfl rfl (o_z ?_)
    obtain rfl := sm hy282
    replace hB := (hB.st S253).st S264
    replace hx0 := (hx0.st S253).st S264
    exact ⟨(), _, ⟨rfl, rfl, rfl, rfl, rfl, rfl, rfl, rfl, trivial⟩, hB, hx0, h244, h246, h267⟩
   replace hB := (hB.st S253).st S264
   replace hx0 := (hx0.st S253).st S264
   replace h244 := (h244.st S253).st S264
   replace h246 := (h246.st S253).st S264
   rintro l311 w312 ⟨x284, O313, hs314, hB, hx0, h244, h246, h267⟩
   refine ewp_sub _ hs314 ?_
   refine ewp_cond rfl (fun c315 => ?_) (fun c315 => ?_)
   ·
    replace hf234 := ip hf234 c315
    refine ewp_exit ?_
    obtain rfl := sm hf234
    exact show Exists _ from ⟨_, (), rfl, ⟨rfl, rfl, rfl, rfl, trivial⟩, _, hB, hx0, h244, h246, h267⟩
   replace hf234 := im' hf234 c315
   refine ewp_skip (ewp_seq (ewp_region (o_mv rfl rfl (o_mv rfl rfl ?_))))
   obtain ⟨a316, e317, hf234⟩ := bs hf234
   obtain ⟨p319, x318⟩ := atI_some' e317
   obtain ⟨b320, o321, ce322, hA323, hl324, hd325, v327, rfl, h328⟩ := hx0.elem' x318
   replace h328 := Vb.of_slice h328
   obtain ⟨A329, c330, rfl⟩ := h328.form
   refine o_iaE (hA := hA323) (hj := (Int.toNat_of_nonneg p319).symm) (hlt := hl324) rfl rfl rfl ?_
   refine o_ld (hc := cat0 hd325) rfl rfl ?_
   refine o_ln rfl rfl ?_
   have l332 : a316.length ≤ 9223372036854775807 := Nat.le_trans h328.len.2.1 h328.len.2.2
   have r331 : inI64 (a316.length : Int) := rngNat l332
   refine o_mv rfl rfl (o_z ?_)
   obtain ⟨res333, hL334, hf234⟩ := bs hf234
   refine ewp_join (aft res333 (fun (s335 : (List Int) × (List Int) × Que) (x336 : Unit) => [(0, (.slice A3 x0.length c4)), (6, (.slice x14.1.1 y11.1.length x14.1.2)), (7, (.slice x14.2.1 y11.2.length x14.2.2)), (9, (.pointer (some ⟨p146, 0, none⟩)))]) (fun s335 x336 w' => ∃ O' : Lab, Bs w A w' O' ∧ Vb w' (Fr 0 w' O') (.slice A3 x0.length c4) x0 ∧ Rw 2 w' O' 3 (.slice x14.1.1 y11.1.length x14.1.2) s335.1 ∧ Rw 3 w' O' 3 (.slice x14.2.1 y11.2.length x14.2.2) s335.2.1 ∧ Ob 4 w' O' (.pointer (some ⟨p146, 0, none⟩)) s335.2.2)) ?_ ?_
   ·
    refine ewp_block (ewp_rng (σ := (List Int) × (List Int) × Que) (X := Unit) (a316.length) hL334 rfl l332 (fun (s335 : (List Int) × (List Int) × Que) (x336 : Unit) => [(0, (.slice A3 x0.length c4)), (6, (.slice x14.1.1 y11.1.length x14.1.2)), (7, (.slice x14.2.1 y11.2.length x14.2.2)), (9, (.pointer (some ⟨p146, 0, none⟩))), (12, (.int .i64 q260.1)), (13, (.int .i64 q260.2.1)), (84, (.slice A329 a316.length c330))]) _ (fun s335 x336 w' => ∃ O' : Lab, Bs w A w' O' ∧ Vb w' (Fr 0 w' O') (.slice A3 x0.length c4) x0 ∧ Rw 2 w' O' 3 (.slice x14.1.1 y11.1.length x14.1.2) s335.1 ∧ Rw 3 w' O' 3 (.slice x14.2.1 y11.2.length x14.2.2) s335.2.1 ∧ Ob 4 w' O' (.pointer (some ⟨p146, 0, none⟩)) s335.2.2 ∧ Vb w' (Fr 0 w' O') (.slice A329 a316.length c330) a316) _ () ⟨O313, hB, hx0, h244, h246, h267, h328⟩ ⟨rfl, rfl, rfl, rfl, rfl, rfl, rfl, rfl, rfl, trivial⟩ (fun _ _ => ⟨rfl, rfl⟩) (fun _ _ => ⟨rfl, rfl, rfl, rfl, trivial⟩) (fun _ _ _ ⟨O', hB, hx0, h353, h355, h357, h328⟩ => ⟨O', hB, hx0, h353, h355, h357⟩) ⟨rfl, rfl, rfl⟩ ⟨rfl, rfl⟩ ?_)
    rintro k337 a338 s335 x336 w339 cc341 hx342 ⟨O340, hB, hx0, h353, h355, h357, h328⟩ hf343 hret344 hbrk345
    have rk337 : inI64 (k337 : Int) := rngK hx342 l332
    refine ewp_seq (ewp_region ?_)
    obtain ⟨b358, o359, ce360, hA361, hl362, hd363, rfl, r365, r366, r367⟩ := h328.elem' hx342
    refine o_iaE (hA := hA361) (hj := rfl) (hlt := hl362) rfl rfl rfl ?_
    refine o_la (hl := rfl) (hc := hd363) rfl rfl ?_
    refine l_alloc 5 O340 rfl fun g368 w369 O370 S371 h372 => ?_
    refine l_store h372 rfl rfl rfl (nle_b rfl) (allOne rfl) fun w373 S374 h372 => ?_
    replace h372 : Lc 5 w373 O370 g368 106 [(.int .i64 a338.src), (.int .i64 a338.dst), (.int .i64 a338.weight)] := h372
    refine o_z ?_
    refine ewp_seq (ewp_region (o_mv rfl rfl (o_fa rfl rfl (o_ld (hc := Blk.cell (i := 2) (h372.1) rfl) rfl rfl ?_))))
    obtain ⟨n375, e376, hf343⟩ := bs hf343
    have r377 := (chkI_rng e376)
    refine o_adE (he := e376) rfl rfl rfl ?_
    refine o_mv rfl rfl ?_
    obtain ⟨n378, e379, hf343⟩ := bs hf343
    have r380 := (chkI_rng e379)
    refine o_adE (he := e379) rfl rfl rfl ?_
    refine o_as rfl rfl (o_as rfl rfl (o_z ?_))
    refine ewp_seq (ewp_seq ?_)
    obtain ⟨y381, hy382, hf343⟩ := bs hf343
    refine ewp_join (fun l' w' => ∃ (x384 : Unit) (O' : Lab), subs l' [(0, (.slice A3 x0.length c4)), (6, (.slice x14.1.1 y11.1.length x14.1.2)), (7, (.slice x14.2.1 y11.2.length x14.2.2)), (9, (.pointer (some ⟨p146, 0, none⟩))), (12, (.int .i64 q260.1)), (13, (.int .i64 q260.2.1)), (17, (.pointer (some ⟨g368, 0, none⟩))), (18, (.int .i64 n375)), (19, (.int .i64 n378)), (84, (.slice A329 a316.length c330)), (85, (.int .i64 (a316.length : Int))), (86, (.int .i64 (k337 : Int))), (120, (.bool y381))] ∧ Bs w A w' O' ∧ Vb w' (Fr 0 w' O') (.slice A3 x0.length c4) x0 ∧ Rw 2 w' O' 3 (.slice x14.1.1 y11.1.length x14.1.2) s335.1 ∧ Rw 3 w' O' 3 (.slice x14.2.1 y11.2.length x14.2.2) s335.2.1 ∧ Ob 4 w' O' (.pointer (some ⟨p146, 0, none⟩)) s335.2.2 ∧ Lc 5 w' O' g368 106 [(.int .i64 a338.src), (.int .i64 a338.dst), (.int .i64 a338.weight)] ∧ Vb w' (Fr 0 w' O') (.slice A329 a316.length c330) a316) ?_ ?_
    ·
     refine ewp_region (o_mv rfl rfl (o_mv rfl rfl (o_fa rfl rfl (o_ld (hc := Blk.cell (i := 1) (h372.1) rfl) rfl rfl ?_))))
     obtain ⟨a385, e386, hy382⟩ := bs hy382
     obtain ⟨p388, x387⟩ := atI_some' e386
     replace h353 := (h353.st S371).st S374
     obtain ⟨b389, o390, ce391, hA392, hl393, hd394, rfl, r396⟩ := h353.elem x387
     refine o_iaE (hA := hA392) (hj := (Int.toNat_of_nonneg p388).symm) (hlt := hl393) rfl rfl rfl ?_
     refine o_ld (hc := cat0 hd394) rfl rfl ?_
     refine o_gtS rfl rfl rfl (fun c397 => ?_) fun c397 => ?_
     ·
      replace hy382 := ip hy382 c397
      refine o_mv rfl rfl (owp_no rfl rfl rfl rfl (owp_no rfl rfl rfl rfl (owp_no rfl rfl rfl rfl (owp_no rfl rfl rfl rfl (owp_no rfl rfl rfl rfl (owp_no rfl rfl rfl rfl (owp_no rfl rfl rfl rfl (owp_no rfl rfl rfl rfl (owp_no rfl rfl rfl rfl (owp_no rfl rfl rfl rfl (owp_no rfl rfl rfl rfl (owp_no rfl rfl rfl rfl (owp_no rfl rfl rfl rfl (owp_no rfl rfl rfl rfl ?_))))))))))))))
      refine owp_no rfl rfl rfl rfl (owp_no rfl rfl rfl rfl (o_pt rfl rfl rfl (o_z ?_)))
      obtain rfl := sm hy382
      replace hx0 := (hx0.st S371).st S374
      replace hB := (hB.st S371).st S374
      replace h328 := (h328.st S371).st S374
      replace h355 := (h355.st S371).st S374
      replace h357 := (h357.st S371).st S374
      exact ⟨(), _, ⟨rfl, rfl, rfl, rfl, rfl, rfl, rfl, rfl, rfl, rfl, rfl, rfl, rfl, trivial⟩, hB, hx0, h353, h355, h357, h372, h328⟩
     replace hy382 := im hy382 c397
     refine o_mv rfl rfl (owp_yes rfl rfl (o_mv rfl rfl (owp_yes rfl rfl (o_mv rfl rfl (owp_yes rfl rfl (o_fa rfl rfl (owp_yes rfl rfl (o_ld (hc := Blk.cell (i := 1) (h372.1) rfl) rfl rfl ?_))))))))
     refine owp_yes rfl rfl ?_
     obtain ⟨a398, e399, hy382⟩ := bs hy382
     obtain ⟨p401, x400⟩ := atI_some' e399
     obtain ⟨b402, o403, ce404, hA405, hl406, hd407, rfl, r409⟩ := h353.elem x400
     refine o_iaE (hA := hA405) (hj := (Int.toNat_of_nonneg p401).symm) (hlt := hl406) rfl rfl rfl ?_
     refine owp_yes rfl rfl (o_ld (hc := cat0 hd407) rfl rfl ?_)
     refine owp_yes rfl rfl (o_eeS rfl rfl rfl (fun c410 => ?_) fun c410 => ?_)
     ·
      replace hy382 := ip hy382 c410
      refine owp_yes rfl rfl (o_mv rfl rfl (owp_yes rfl rfl (o_mv rfl rfl (owp_yes rfl rfl (o_mv rfl rfl (owp_yes rfl rfl (o_fa rfl rfl (owp_yes rfl rfl (o_ld (hc := Blk.cell (i := 1) (h372.1) rfl) rfl rfl ?_)))))))))
      refine owp_yes rfl rfl ?_
      obtain ⟨a411, e412, hy382⟩ := bs hy382
      obtain ⟨p414, x413⟩ := atI_some' e412
      replace h355 := (h355.st S371).st S374
      obtain ⟨b415, o416, ce417, hA418, hl419, hd420, rfl, r422⟩ := h355.elem x413
      refine o_iaE (hA := hA418) (hj := (Int.toNat_of_nonneg p414).symm) (hlt := hl419) rfl rfl rfl ?_
      refine owp_yes rfl rfl (o_ld (hc := cat0 hd420) rfl rfl ?_)
      refine owp_yes rfl rfl (o_geS rfl rfl rfl (fun c423 => ?_) fun c423 => ?_)
      ·
       replace hy382 := ip hy382 c423
       refine owp_yes rfl rfl (o_pt rfl rfl rfl (o_pf rfl rfl rfl (o_z ?_)))
       obtain rfl := sm hy382
       replace hB := (hB.st S371).st S374
       replace hx0 := (hx0.st S371).st S374
       replace h328 := (h328.st S371).st S374
       replace h357 := (h357.st S371).st S374
       exact ⟨(), _, ⟨rfl, rfl, rfl, rfl, rfl, rfl, rfl, rfl, rfl, rfl, rfl, rfl, rfl, trivial⟩, hB, hx0, h353, h355, h357, h372, h328⟩
      replace hy382 := im hy382 c423
      refine owp_yes rfl rfl (o_pt rfl rfl rfl (o_pf rfl rfl rfl (o_z ?_)))
      obtain rfl := sm hy382
      replace hB := (hB.st S371).st S374
      replace hx0 := (hx0.st S371).st S374
      replace h328 := (h328.st S371).st S374
      replace h357 := (h357.st S371).st S374
      exact ⟨(), _, ⟨rfl, rfl, rfl, rfl, rfl, rfl, rfl, rfl, rfl, rfl, rfl, rfl, rfl, trivial⟩, hB, hx0, h353, h355, h357, h372, h328⟩
     replace hy382 := im hy382 c410
     refine owp_yes rfl rfl (o_mv rfl rfl (owp_no rfl rfl rfl rfl (owp_no rfl rfl rfl rfl (owp_no rfl rfl rfl rfl (owp_no rfl rfl rfl rfl (owp_no rfl rfl rfl rfl (owp_no rfl rfl rfl rfl (owp_no rfl rfl rfl rfl (owp_yes rfl rfl (o_pf rfl rfl rfl (o_pf rfl rfl rfl (o_z ?_))))))))))))
     obtain rfl := sm hy382
     replace hx0 := (hx0.st S371).st S374
     replace hB := (hB.st S371).st S374
     replace h328 := (h328.st S371).st S374
     replace h355 := (h355.st S371).st S374
     replace h357 := (h357.st S371).st S374
     exact ⟨(), _, ⟨rfl, rfl, rfl, rfl, rfl, rfl, rfl, rfl, rfl, rfl, rfl, rfl, rfl, trivial⟩, hB, hx0, h353, h355, h357, h372, h328⟩
    replace hx0 := (hx0.st S371).st S374
    replace hB := (hB.st S371).st S374
    replace h328 := (h328.st S371).st S374
    replace h353 := (h353.st S371).st S374
    replace h355 := (h355.st S371).st S374
    replace h357 := (h357.st S371).st S374
    rintro l424 w425 ⟨x384, O426, hs427, hB, hx0, h353, h355, h357, h372, h328⟩
    refine ewp_sub _ hs427 ?_
    refine ewp_cond rfl (fun c428 => ?_) (fun c428 => ?_)
    ·
     replace hf343 := ip hf343 c428
     refine ewp_exit ?_
     obtain rfl := sm hf343
     exact show Exists _ from ⟨_, (), rfl, ⟨rfl, rfl, rfl, rfl, rfl, rfl, rfl, rfl, rfl, trivial⟩, _, hB, hx0, h353, h355, h357, h328⟩
    replace hf343 := im' hf343 c428
    refine ewp_skip (ewp_seq (ewp_drawX [(9, [2])] O426 ?_))
    refine x_pre (fuel := 7) [] [(0, true), (1, true), (2, true), (6, true), (8, true)] (by kernel_rfl) rfl ?_
    refine h_mv rfl rfl rfl (h_fa rfl rfl rfl (h_ldC (hc := fun w' ⟨O', hq⟩ => Blk.cell (i := 1) ((h372.st hq (by decide)).1) rfl) rfl rfl rfl ?_))
    refine h_mv rfl rfl rfl ?_
    obtain ⟨a429, e430, hf343⟩ := bs hf343
    obtain ⟨p432, x431⟩ := atI_some' e430
    obtain ⟨b433, o434, ce435, hA436, hF439, hl437, hd438, rfl, r440⟩ := h353.elemF x431
    refine h_iaE (hA := hA436) (hj := (Int.toNat_of_nonneg p432).symm) (hlt := hl437) rfl rfl rfl rfl ?_
    refine hwp_nilT ?_
    refine x_pre (fuel := 3) [2] [(3, true), (4, true), (5, true), (7, true)] (by kernel_rfl) rfl ?_
    refine h_mv rfl rfl rfl (h_fa rfl rfl rfl (h_ldC (hc := fun w' ⟨O', hq⟩ => Blk.cell (i := 1) ((h372.st hq (by decide)).1) rfl) rfl rfl rfl ?_))
    refine h_mv rfl rfl rfl (hwp_nilT ?_)
    refine x_one (i := 9) (by kernel_rfl) rfl ?_
    refine l_setE rfl h353 (a := n375) (vInt r377) hA436 rfl rfl (lt_of_get x431) fun w441 S442 h353 => ?_
    have hZ := S442.lst [2] (fun _ h => by cases h; decide)
    refine x_go [] hZ (by kernel_rfl) ?_
    refine x_pre (fuel := 1) [] [(10, true)] (by kernel_rfl) rfl ?_
    obtain ⟨a443, e444, hf343⟩ := bs hf343
    obtain ⟨p446, x445⟩ := atI_some' e444
    replace h355 := h355.st S442
    obtain ⟨b447, o448, ce449, hA450, hF453, hl451, hd452, rfl, r454⟩ := h355.elemF x445
    refine h_iaE (hA := hA450) (hj := (Int.toNat_of_nonneg p446).symm) (hlt := hl451) rfl rfl rfl rfl ?_
    refine hwp_nilT ?_
    refine x_one (i := 11) (by kernel_rfl) rfl ?_
    refine l_setE rfl h355 (a := n378) (vInt r380) hA450 rfl rfl (lt_of_get x445) fun w455 S456 h355 => ?_
    refine x_end (by kernel_rfl) ?_
    refine x_nil (by kernel_rfl) ?_
    refine ewp_seq (ewp_region (o_mv rfl rfl (o_mv rfl rfl (o_mv rfl rfl (o_fa rfl rfl ?_)))))
    replace h372 := (h372.st S442).st S456
    refine o_ld (hc := Blk.cell (i := 1) (h372.1) rfl) rfl rfl ?_
    obtain ⟨q457, e458, hf343⟩ := bs hf343
    replace h357 := (h357.st S442).st S456
    refine l_callM (O := O426) (c_pqueue_Queue_Push h357 r377 r380 r366 e458) rfl rfl fun v463 w459 O460 S461 h462 => ?_
    obtain ⟨h464, h465⟩ := h462
    obtain ⟨rfl, r466⟩ := h465.err
    refine o_rnS rfl rfl (fun c467 => ?_) fun c467 => ?_
    ·
     replace hf343 := ip hf343 c467
     refine o_z ?_
     refine ewp_true rfl (ewp_seq (ewp_region (o_mv rfl rfl (o_mv rfl rfl (o_mv rfl rfl ?_)))))
     replace h353 := (h353.st S456).st S461
     obtain ⟨O468, S469, h353⟩ := h353.freeze
     replace h355 := (h355.st S461).st S469
     obtain ⟨O470, S471, h355⟩ := h355.freeze
     obtain ⟨q472, e473, hf343⟩ := bs hf343
     replace hx0 := ((((hx0.st S442).st S456).st S461).st S469).st S471
     replace h353 := h353.st S471
     refine l_call (O := O470) (R := fun w' F v => T2 w' F v q472) (c_explore_relaxed Fr.lt hx0 h353 h355 e473) rfl rfl fun v478 w474 O475 S476 h477 => ?_
     obtain ⟨v479, v480, rfl, h481, h482⟩ := h477
     obtain ⟨A483, c484, rfl⟩ := h481.form
     obtain ⟨A485, c486, rfl⟩ := h482.form
     refine o_ex rfl rfl rfl (o_ex rfl rfl rfl (o_as rfl rfl (o_as rfl rfl (o_z ?_))))
     refine ewp_ret ?_
     obtain rfl := sm hf343
     obtain rfl := hret344 _ rfl
     obtain rfl := sm (fin_ret hf234)
     obtain rfl := hret235 _ rfl
     obtain rfl := sm (fin_ret hm)
     replace hB := (((((hB.st S442).st S456).st S461).st S469).st S471).st S476
     exact ret2 rfl (res_tmp rfl) (res_tmp rfl) ⟨hB.ext, _, _, rfl, (Vb.mono (F := Fr 0 w474 O475) h481 hB.out), (Vb.mono (F := Fr 0 w474 O475) h482 hB.out)⟩
    replace hf343 := im hf343 c467
    refine o_z ?_
    refine ewp_false rfl (ewp_skip ?_)
    obtain rfl := sm hf343
    replace hx0 := ((hx0.st S442).st S456).st S461
    replace hB := ((hB.st S442).st S456).st S461
    replace h328 := ((h328.st S442).st S456).st S461
    replace h353 := (h353.st S456).st S461
    replace h355 := h355.st S461
    exact show Exists _ from ⟨_, (), rfl, ⟨rfl, rfl, rfl, rfl, rfl, rfl, rfl, rfl, rfl, trivial⟩, _, hB, hx0, h353, h355, h464, h328⟩
   rintro l487 w488 ⟨s491, x492, rfl, hs490, O489, hB, hx0, h353, h355, h357⟩
   replace hf234 := fin_done hf234
   obtain rfl := sm hf234
   exact show Exists _ from ⟨_, (), rfl, ⟨(subs_lk hs490 _ _ rfl), (subs_lk hs490 _ _ rfl), (subs_lk hs490 _ _ rfl), (subs_lk hs490 _ _ rfl), trivial⟩, _, hB, hx0, h353, h355, h357⟩
  replace hf234 := im hf234 c259
  refine o_z ?_
  refine ewp_false rfl (ewp_exit ?_)
  obtain rfl := sm hf234
  replace hB := hB.st S253
  replace h244 := h244.st S253
  replace h246 := h246.st S253
  exact show Exists _ from ⟨_, (), hbrk236 _ rfl, ⟨rfl, rfl, trivial⟩, _, hB, h244, h246⟩
 rintro l493 w494 ⟨s497, x498, rfl, hs496, O495, hB, h244, h246⟩
 replace hm := fin_done hm
 refine ewp_sub _ hs496 ?_
 refine ewp_seq (ewp_region (o_mv rfl rfl (o_mv rfl rfl (o_as rfl rfl (o_as rfl rfl (o_z ?_))))))
 refine ewp_ret ?_
 obtain ⟨O499, S500, h244⟩ := h244.freeze
 replace h246 := h246.st S500
 obtain ⟨O501, S502, h246⟩ := h246.freeze
 obtain rfl := sm hm
 replace hB := (hB.st S500).st S502
 replace h244 := h244.st S502
 exact ret2 rfl (res_tmp rfl) (res_tmp rfl) ⟨hB.ext, _, _, rfl, (Vb.mono (F := Fr 0 w494 O501) h244 hB.out), (Vb.mono (F := Fr 0 w494 O501) h246 hB.out)⟩
noncomputable def m_explore_Space_measure (x0 : Spa) : Option Spa :=
  bnd (m_registry_Registry_Len x0.states) fun q45 => bnd (mkI 24 ([] : List Arc) q45) fun u55 => bnd (mkI 24 ([] : List Arc) q45) fun u57 => bnd (some (u55, u57) : Option ((List (List Arc)) × (List (List Arc)))) fun y59 => bnd (rng (ρ := Spa) (fun (k179 : Nat) (a180 : Edj) (s177 : (List (List Arc)) × (List (List Arc))) => bnd (atI x0.t.ops a180.label) fun a258 => bnd (atI s177.1 a180.src) fun a279 => bnd (appI 24 a279 [(⟨a180.src, a180.dst, a258.cost⟩ : Arc)]) fun u304 => bnd (atI s177.1 a180.src) fun a315 => bnd (atI s177.2 a180.dst) fun a330 => bnd (appI 24 a330 [(⟨a180.dst, a180.src, a258.cost⟩ : Arc)]) fun u355 => bnd (atI s177.2 a180.dst) fun a366 => some (.next ((s177.1.set (a180.src : Int).toNat u304), (s177.2.set (a180.dst : Int).toNat u355)))) x0.edges 0 (y59.1, y59.2)) fun res175 => fin res175 fun (s390 : (List (List Arc)) × (List (List Arc))) => bnd (rng (ρ := Spa) (fun (k446 : Nat) (a447 : Bool) (s444 : (List Int)) => if a447 = true then (bnd (appI 8 s444 [(k446 : Int)]) fun u469 => some (.next u469)) else (some (.next s444))) x0.goals 0 ([] : List Int)) fun res442 => fin res442 fun (s485 : (List Int)) => bnd (m_explore_shortest s390.1 ([0] : List Int)) fun q497 => bnd (m_explore_shortest s390.2 s485) fun q561 => some (⟨(⟨x0.t.vars, x0.t.init, x0.t.goal, x0.t.ops⟩ : Tsk), x0.states, x0.edges, x0.goals, q497.1, q561.1, q561.2⟩ : Spa)
theorem c_explore_Space_measure {w : World} {O : Lab} {p0 i0 : Nat} {x0 : Spa} (hx0 : Ob i0 w O (.pointer (some ⟨p0, 0, none⟩)) x0) {r : Spa} (hm : m_explore_Space_measure x0 = some r) :
    Fn Tryz.prog 51 [(.pointer (some ⟨p0, 0, none⟩))] w fun v w' => ∃ O', St (eT i0) w O w' O' ∧ Ob i0 w' O' (.pointer (some ⟨p0, 0, none⟩)) r := by
 obtain ⟨O0, hE, hz0, hl2⟩ := ent1 (w := w) (O := O) hx0.2
 have hx0' := Ob.leave hx0 hz0 hl2 (j := 2) (by decide)
 have hB : Bm w O0 w O0 := Bm.refl
 refine fn_enter Tryz.func51 rfl Tryz.ntmps51 rfl ?_
 unfold m_explore_Space_measure at hm
 refine ewp_seq (ewp_region (o_mv rfl rfl (o_nc rfl rfl ?_)))
 obtain ⟨O2, v6, v10, v14, v18, v22, v25, v29, v33, v37, v41, S3, ha5, h4, h7, h11, h15, h19, h23, h26, h30, h34, h38, h42⟩ := Spa.opn hx0' 2 3 (by decide)
 obtain ⟨A8, c9, rfl⟩ := h7.form
 obtain ⟨A12, c13, rfl⟩ := h11.form
 obtain ⟨A16, c17, rfl⟩ := h15.form
 obtain ⟨A20, c21, rfl⟩ := h19.form
 obtain ⟨p24, rfl⟩ := h23.ptr
 obtain ⟨A27, c28, rfl⟩ := h26.form
 obtain ⟨A31, c32, rfl⟩ := h30.form
 obtain ⟨A35, c36, rfl⟩ := h34.form
 obtain ⟨A39, c40, rfl⟩ := h38.form
 obtain ⟨A43, c44, rfl⟩ := h42.form
 refine o_fa rfl rfl (o_ld (hc := Blk.cell (i := 4) (h4.1) rfl) rfl rfl ?_)
 obtain ⟨q45, e46, hm⟩ := bs hm
 refine l_callM (O := O2) (c_registry_Registry_Len h23 e46) rfl rfl fun v51 w47 O48 S49 h50 => ?_
 obtain ⟨h52, h53⟩ := h50
 obtain ⟨rfl, r54⟩ := h53.int
 refine o_as rfl rfl (o_z ?_)
 refine ewp_seq ?_
 obtain ⟨u55, e56, hm⟩ := bs hm
 obtain ⟨u57, e58, hm⟩ := bs hm
 obtain ⟨y59, hy60, hm⟩ := bs hm
 refine ewp_join (fun l' w' => ∃ (x62 : (Option Addr × Nat) × (Option Addr × Nat)) (O' : Lab), subs l' [(0, (.pointer (some ⟨p0, 0, none⟩))), (3, (.slice x62.1.1 y59.1.length x62.1.2)), (4, (.slice x62.2.1 y59.2.length x62.2.2))] ∧ Bm w O0 w' O' ∧ Ob 2 w' O' (.pointer (some ⟨p0, 0, none⟩)) x0 ∧ NR Arc 4 w' O' 104 106 (.slice x62.1.1 y59.1.length x62.1.2) y59.1 none ∧ NR Arc 5 w' O' 104 106 (.slice x62.2.1 y59.2.length x62.2.2) y59.2 none) ?_ ?_
 ·
  refine ewp_drawX [] O48 ?_
  refine x_pre (fuel := 4) [] [(0, true), (2, true)] (by kernel_rfl) rfl ?_
  refine h_mv rfl rfl rfl (h_mv rfl rfl rfl (hwp_nilT ?_))
  refine x_two (i := 1) (j := 3) (by kernel_rfl) rfl rfl ?_ ?_
  ·
   obtain ⟨m67, e68, e69, e70, e71⟩ := mkI_some e56
   refine l_makeN (β := Arc) (e := 106) 4 (by decide) O48 rfl rfl rfl rfl e68 e69 e70 rfl fun g72 w73 O74 S75 h76 => ?_
   rw [← e71] at h76 ⊢
   have hZ := S75.lst [] (fun _ h => h.elim)
   refine x_go [] hZ (by kernel_rfl) ?_
   refine x_pre (fuel := 2) [] [(4, true)] (by kernel_rfl) rfl ?_
   refine h_as rfl rfl rfl (hwp_nilT ?_)
   refine x_one (i := 3) (by kernel_rfl) rfl ?_
   obtain ⟨m78, e79, e80, e81, e82⟩ := mkI_some e58
   refine l_makeN (β := Arc) (e := 106) 5 (by decide) O74 rfl rfl rfl rfl e79 e80 e81 rfl fun g83 w84 O85 S86 h87 => ?_
   rw [← e82] at h87 ⊢
   have hZ := S86.lst [] (fun _ h => h.elim)
   refine x_go [] hZ (by kernel_rfl) ?_
   refine x_pre (fuel := 0) [] [(5, true)] (by kernel_rfl) rfl ?_
   refine h_as rfl rfl rfl (hwp_nilT ?_)
   refine x_nil (by kernel_rfl) ?_
   replace h4 := ((h4.st S49).st S75).st S86
   replace h7 := ((h7.st S49).st S75).st S86
   replace h11 := ((h11.st S49).st S75).st S86
   replace h15 := ((h15.st S49).st S75).st S86
   replace h19 := ((h19.st S49).st S75).st S86
   replace h26 := ((h26.st S49).st S75).st S86
   replace h30 := ((h30.st S49).st S75).st S86
   replace h34 := ((h34.st S49).st S75).st S86
   replace h38 := ((h38.st S49).st S75).st S86
   replace h42 := ((h42.st S49).st S75).st S86
   replace h52 := (h52.st S75).st S86
   obtain ⟨O89, S90, hz92, ha93, h91⟩ := Spa.shut (x := x0) (l0 := 2) (l1 := 3) (by decide) h4 h7 h11 h15 h19 h52 h26 h30 h34 h38 h42
   obtain rfl := sm hy60
   replace hB := ((((hB.st S3).st S49).st S75).st S86).st S90
   replace h76 := (h76.st S86).st S90
   replace h87 := h87.st S90
   exact ⟨(((some ⟨g72, 0, none⟩), m67), ((some ⟨g83, 0, none⟩), m78)), _, ⟨rfl, rfl, rfl, trivial⟩, hB, h91, h76, h87⟩
  obtain ⟨m94, e95, e96, e97, e98⟩ := mkI_some e58
  refine l_makeN (β := Arc) (e := 106) 5 (by decide) O48 rfl rfl rfl rfl e95 e96 e97 rfl fun g99 w100 O101 S102 h103 => ?_
  rw [← e98] at h103 ⊢
  have hZ := S102.lst [] (fun _ h => h.elim)
  refine x_go [] hZ (by kernel_rfl) ?_
  refine x_one (i := 1) (by kernel_rfl) rfl ?_
  obtain ⟨m105, e106, e107, e108, e109⟩ := mkI_some e56
  refine l_makeN (β := Arc) (e := 106) 4 (by decide) O101 rfl rfl rfl rfl e106 e107 e108 rfl fun g110 w111 O112 S113 h114 => ?_
  rw [← e109] at h114 ⊢
  have hZ := S113.lst [] (fun _ h => h.elim)
  refine x_go [] hZ (by kernel_rfl) ?_
  refine x_pre (fuel := 0) [] [(4, true), (5, true)] (by kernel_rfl) rfl ?_
  refine h_as rfl rfl rfl (h_as rfl rfl rfl (hwp_nilT ?_))
  refine x_nil (by kernel_rfl) ?_
  replace h4 := ((h4.st S49).st S102).st S113
  replace h7 := ((h7.st S49).st S102).st S113
  replace h11 := ((h11.st S49).st S102).st S113
  replace h15 := ((h15.st S49).st S102).st S113
  replace h19 := ((h19.st S49).st S102).st S113
  replace h26 := ((h26.st S49).st S102).st S113
  replace h30 := ((h30.st S49).st S102).st S113
  replace h34 := ((h34.st S49).st S102).st S113
  replace h38 := ((h38.st S49).st S102).st S113
  replace h42 := ((h42.st S49).st S102).st S113
  replace h52 := (h52.st S102).st S113
  obtain ⟨O116, S117, hz119, ha120, h118⟩ := Spa.shut (x := x0) (l0 := 2) (l1 := 3) (by decide) h4 h7 h11 h15 h19 h52 h26 h30 h34 h38 h42
  obtain rfl := sm hy60
  replace hB := ((((hB.st S3).st S49).st S102).st S113).st S117
  replace h103 := (h103.st S113).st S117
  replace h114 := h114.st S117
  exact ⟨(((some ⟨g110, 0, none⟩), m105), ((some ⟨g99, 0, none⟩), m94)), _, ⟨rfl, rfl, rfl, trivial⟩, hB, h118, h114, h103⟩
 replace hB := (hB.st S3).st S49
 rintro l121 w122 ⟨x62, O123, hs124, hB, h83, h63, h65⟩
 refine ewp_sub _ hs124 ?_
 refine ewp_seq (ewp_seq (ewp_region (o_mv rfl rfl (o_nc rfl rfl ?_))))
 obtain ⟨O125, v129, v133, v137, v141, v145, v148, v152, v156, v160, v164, S126, ha128, h127, h130, h134, h138, h142, h146, h149, h153, h157, h161, h165⟩ := Spa.opn h83 2 3 (by decide)
 obtain ⟨A131, c132, rfl⟩ := h130.form
 obtain ⟨A135, c136, rfl⟩ := h134.form
 obtain ⟨A139, c140, rfl⟩ := h138.form
 obtain ⟨A143, c144, rfl⟩ := h142.form
 obtain ⟨p147, rfl⟩ := h146.ptr
 obtain ⟨A150, c151, rfl⟩ := h149.form
 obtain ⟨A154, c155, rfl⟩ := h153.form
 obtain ⟨A158, c159, rfl⟩ := h157.form
 obtain ⟨A162, c163, rfl⟩ := h161.form
 obtain ⟨A166, c167, rfl⟩ := h165.form
 refine o_fa rfl rfl (o_ld (hc := Blk.cell (i := 5) (h127.1) rfl) rfl rfl ?_)
 refine o_ln rfl rfl ?_
 have l169 : x0.edges.length ≤ 9223372036854775807 := Nat.le_trans h149.len.2.1 h149.len.2.2
 have r168 : inI64 (x0.edges.length : Int) := rngNat l169
 refine o_mv rfl rfl (o_z ?_)
 obtain ⟨O170, S171, hz173, ha174, h172⟩ := Spa.shut (x := x0) (l0 := 2) (l1 := 3) (by decide) h127 h130 h134 h138 h142 h146 h149 h153 h157 h161 h165
 obtain ⟨res175, hL176, hm⟩ := bs hm
 refine ewp_join (aft res175 (fun (s177 : (List (List Arc)) × (List (List Arc))) (x178 : Unit) => [(0, (.pointer (some ⟨p0, 0, none⟩))), (3, (.slice x62.1.1 y59.1.length x62.1.2)), (4, (.slice x62.2.1 y59.2.length x62.2.2))]) (fun s177 x178 w' => ∃ O' : Lab, Bm w O0 w' O' ∧ Ob 2 w' O' (.pointer (some ⟨p0, 0, none⟩)) x0 ∧ NR Arc 4 w' O' 104 106 (.slice x62.1.1 y59.1.length x62.1.2) s177.1 none ∧ NR Arc 5 w' O' 104 106 (.slice x62.2.1 y59.2.length x62.2.2) s177.2 none)) ?_ ?_
 ·
  refine ewp_block ?_
  replace hB := (hB.st S126).st S171
  replace h63 := (h63.st S126).st S171
  replace h65 := (h65.st S126).st S171
  replace h149 := h149.st S171
  refine ewp_rng (σ := (List (List Arc)) × (List (List Arc))) (X := Unit) (x0.edges.length) hL176 rfl l169 (fun (s177 : (List (List Arc)) × (List (List Arc))) (x178 : Unit) => [(0, (.pointer (some ⟨p0, 0, none⟩))), (3, (.slice x62.1.1 y59.1.length x62.1.2)), (4, (.slice x62.2.1 y59.2.length x62.2.2)), (23, (.slice A150 x0.edges.length c151))]) _ (fun s177 x178 w' => ∃ O' : Lab, Bm w O0 w' O' ∧ Ob 2 w' O' (.pointer (some ⟨p0, 0, none⟩)) x0 ∧ NR Arc 4 w' O' 104 106 (.slice x62.1.1 y59.1.length x62.1.2) s177.1 none ∧ NR Arc 5 w' O' 104 106 (.slice x62.2.1 y59.2.length x62.2.2) s177.2 none ∧ Vb w' (Fr 0 w' O') (.slice A150 x0.edges.length c151) x0.edges) _ () ⟨O170, hB, h172, h63, h65, h149⟩ ⟨rfl, rfl, rfl, rfl, rfl, rfl, trivial⟩ (fun _ _ => ⟨rfl, rfl⟩) (fun _ _ => ⟨rfl, rfl, rfl, trivial⟩) (fun _ _ _ ⟨O', hB, h172, h194, h196, h149⟩ => ⟨O', hB, h172, h194, h196⟩) ⟨rfl, rfl, rfl⟩ ⟨rfl, rfl⟩ ?_
  rintro k179 a180 s177 x178 w181 cc183 hx184 ⟨O182, hB, h172, h194, h196, h149⟩ hf185 hret186 hbrk187
  have rk179 : inI64 (k179 : Int) := rngK hx184 l169
  refine ewp_seq (ewp_region ?_)
  obtain ⟨b198, o199, ce200, hA201, hl202, hd203, rfl, r205, r206, r207⟩ := h149.elem' hx184
  refine o_iaE (hA := hA201) (hj := rfl) (hlt := hl202) rfl rfl rfl ?_
  refine o_la (hl := rfl) (hc := hd203) rfl rfl ?_
  refine l_alloc 6 O182 rfl fun g208 w209 O210 S211 h212 => ?_
  refine l_store h212 rfl rfl rfl (nle_b rfl) (allOne rfl) fun w213 S214 h212 => ?_
  replace h212 : Lc 6 w213 O210 g208 94 [(.int .i64 a180.src), (.int .i64 a180.label), (.int .i64 a180.dst)] := h212
  refine o_z ?_
  refine ewp_seq (ewp_draw (· = w213) [(0, true), (1, true), (2, true), (3, true), (4, true), (5, true), (6, true), (7, true), (8, true), (9, true), (10, true)] (by kernel_rfl) rfl (by kernel_rfl) rfl ?_)
  refine h_mv rfl rfl rfl (h_nc rfl rfl rfl ?_)
  replace h172 := (h172.st S211).st S214
  obtain ⟨O215, v219, v223, v227, v231, v235, v238, v242, v246, v250, v254, S216, ha218, h217, h220, h224, h228, h232, h236, h239, h243, h247, h251, h255⟩ := Spa.opn h172 2 3 (by decide)
  obtain ⟨A221, c222, rfl⟩ := h220.form
  obtain ⟨A225, c226, rfl⟩ := h224.form
  obtain ⟨A229, c230, rfl⟩ := h228.form
  obtain ⟨A233, c234, rfl⟩ := h232.form
  obtain ⟨p237, rfl⟩ := h236.ptr
  obtain ⟨A240, c241, rfl⟩ := h239.form
  obtain ⟨A244, c245, rfl⟩ := h243.form
  obtain ⟨A248, c249, rfl⟩ := h247.form
  obtain ⟨A252, c253, rfl⟩ := h251.form
  obtain ⟨A256, c257, rfl⟩ := h255.form
  refine h_fa rfl rfl rfl (h_fa rfl rfl rfl (h_ldA (hc := Blk.cell (i := 3) (h217.1) rfl) rfl rfl rfl ?_))
  refine h_fa rfl rfl rfl ?_
  replace h212 := h212.st S216
  refine h_ldA (hc := Blk.cell (i := 1) (h212.1) rfl) rfl rfl rfl ?_
  obtain ⟨a258, e259, hf185⟩ := bs hf185
  obtain ⟨p261, x260⟩ := atI_some' e259
  obtain ⟨b262, o263, ce264, hA265, hl266, hd267, v269, v270, rfl, h271, h274, r277, z278⟩ := h232.elem' x260
  obtain ⟨A272, c273, rfl⟩ := h271.form
  obtain ⟨A275, c276, rfl⟩ := h274.form
  refine h_iaE (hA := hA265) (hj := (Int.toNat_of_nonneg p261).symm) (hlt := hl266) rfl rfl rfl rfl ?_
  refine h_fa rfl rfl rfl (h_ldA (hc := cat1 hd267) rfl rfl rfl ?_)
  refine h_as rfl rfl rfl (h_z ?_)
  refine ewp_seq (ewp_drawX [(15, [4, 13])] O215 ?_)
  refine x_pre (fuel := 7) [] [(3, true), (4, true), (5, true), (6, true), (7, true), (8, true), (9, true), (10, true), (11, true), (12, true), (13, true)] (by kernel_rfl) rfl ?_
  refine h_mv rfl rfl rfl (h_fa rfl rfl rfl (h_ldC (hc := fun w' ⟨O', hq⟩ => Blk.cell (i := 0) ((h212.st hq (by decide)).1) rfl) rfl rfl rfl ?_))
  obtain ⟨a279, e280, hf185⟩ := bs hf185
  obtain ⟨p282, x281⟩ := atI_some' e280
  replace h194 := ((h194.st S211).st S214).st S216
  obtain ⟨b283, o284, hA286, hl287⟩ := h194.at x281
  refine h_iaE (hA := hA286) (hj := (Int.toNat_of_nonneg p282).symm) (hlt := hl287) rfl rfl rfl rfl ?_
  obtain ⟨A290, c291, hc292, h293⟩ := NR.peek h194 hA286 x281
  replace h293 : Vb w213 (FrS [4] w213 O215) (.slice A290 a279.length c291) a279 := h293
  refine h_ldC (hc := fun w' ⟨O', hq⟩ => NR.stay h194 hA286 hq (by decide) hc292) rfl rfl rfl ?_
  refine h_fa rfl rfl rfl (h_ldC (hc := fun w' ⟨O', hq⟩ => Blk.cell (i := 0) ((h212.st hq (by decide)).1) rfl) rfl rfl rfl ?_)
  refine h_fa rfl rfl rfl (h_ldC (hc := fun w' ⟨O', hq⟩ => Blk.cell (i := 2) ((h212.st hq (by decide)).1) rfl) rfl rfl rfl ?_)
  refine h_mv rfl rfl rfl (h_bd rfl rfl rfl rfl ?_)
  refine hwp_nilT ?_
  refine x_pre (fuel := 4) [4, 13] [(0, true), (1, true), (2, true)] (by kernel_rfl) rfl ?_
  refine h_mv rfl rfl rfl (h_fa rfl rfl rfl (h_ldC (hc := fun w' ⟨O', hq⟩ => Blk.cell (i := 0) ((h212.st hq (by decide)).1) rfl) rfl rfl rfl ?_))
  refine hwp_nilT ?_
  refine x_one (i := 14) (by kernel_rfl) rfl ?_
  refine l_bslice 7 (by decide) O215 (xs := ([(⟨a180.src, a180.dst, a258.cost⟩ : Arc)] : List Arc)) rfl rfl rfl rfl ⟨(Vb.ofAgg (cs := [(.int .i64 a180.src), (.int .i64 a180.dst), (.int .i64 a258.cost)]) (x := (⟨a180.src, a180.dst, a258.cost⟩ : Arc)) rfl ⟨rfl, r205, r207, r277⟩), trivial⟩ (by decide) (by decide) rfl fun g294 w295 O296 S297 h298 => ?_
  have hZ := S297.lst [] (fun _ h => h.elim)
  replace hc292 := NR.stay h194 hA286 S297 id hc292
  replace h293 := h293.stS S297 id (fun _ _ => id)
  refine x_go [(15, [4, 13])] hZ (by kernel_rfl) ?_
  refine x_one (i := 15) (by kernel_rfl) rfl ?_
  replace h194 := h194.st S297
  obtain ⟨O300, S301, h194, h302⟩ := NR.take' h194 hA286 x281 hc292 13 (by decide) (by decide)
  replace h302 : Rw 13 w295 O300 106 (.slice A290 a279.length c291) a279 := h302
  have hZ := S301.lst [4] (fun _ h => by cases h; decide)
  obtain ⟨u304, e305, hf185⟩ := bs hf185
  obtain ⟨e305, e306, e307⟩ := appI_some e305
  replace h298 := h298.st S301
  refine l_append rfl h302 (h298.rd) rfl rfl (by decide) e306 e307 rfl fun A308 c309 w310 O311 S312 h313 => ?_
  rw [← e305] at h313 ⊢
  replace hZ := hZ.cmp S312 [4, 13] (fun _ h => by cases h; decide) rfl
  refine x_go [] hZ (by kernel_rfl) ?_
  refine x_pre (fuel := 1) [] [(16, true)] (by kernel_rfl) rfl ?_
  obtain ⟨a315, e316, hf185⟩ := bs hf185
  obtain ⟨p318, x317⟩ := atI_some' e316
  replace h194 := h194.st S312
  obtain ⟨b319, o320, hA322, hl323⟩ := h194.at x317
  refine h_iaE (hA := hA322) (hj := (Int.toNat_of_nonneg p318).symm) (hlt := hl323) rfl rfl rfl rfl ?_
  refine hwp_nilT ?_
  refine x_one (i := 17) (by kernel_rfl) rfl ?_
  refine l_setN (a := a315) (off := 0) h194 h313 (by decide) hA322 x317 rfl rfl rfl rfl (by decide) fun w326 O327 S328 h329 => ?_
  replace h329 : NR Arc 4 w326 O327 104 106 (.slice x62.1.1 y59.1.length x62.1.2) (s177.1.set (a180.src : Int).toNat u304) none := h329
  refine x_end (by kernel_rfl) ?_
  refine x_nil (by kernel_rfl) ?_
  refine ewp_drawX [(15, [5, 14])] O327 ?_
  refine x_pre (fuel := 7) [] [(3, true), (4, true), (5, true), (6, true), (7, true), (8, true), (9, true), (10, true), (11, true), (12, true), (13, true)] (by kernel_rfl) rfl ?_
  refine h_mv rfl rfl rfl (h_fa rfl rfl rfl ?_)
  replace h212 := (((h212.st S297).st S301).st S312).st S328
  refine h_ldC (hc := fun w' ⟨O', hq⟩ => Blk.cell (i := 2) ((h212.st hq (by decide)).1) rfl) rfl rfl rfl ?_
  obtain ⟨a330, e331, hf185⟩ := bs hf185
  obtain ⟨p333, x332⟩ := atI_some' e331
  replace h196 := ((((((h196.st S211).st S214).st S216).st S297).st S301).st S312).st S328
  obtain ⟨b334, o335, hA337, hl338⟩ := h196.at x332
  refine h_iaE (hA := hA337) (hj := (Int.toNat_of_nonneg p333).symm) (hlt := hl338) rfl rfl rfl rfl ?_
  obtain ⟨A341, c342, hc343, h344⟩ := NR.peek h196 hA337 x332
  replace h344 : Vb w326 (FrS [5] w326 O327) (.slice A341 a330.length c342) a330 := h344
  refine h_ldC (hc := fun w' ⟨O', hq⟩ => NR.stay h196 hA337 hq (by decide) hc343) rfl rfl rfl ?_
  refine h_fa rfl rfl rfl (h_ldC (hc := fun w' ⟨O', hq⟩ => Blk.cell (i := 2) ((h212.st hq (by decide)).1) rfl) rfl rfl rfl ?_)
  refine h_fa rfl rfl rfl (h_ldC (hc := fun w' ⟨O', hq⟩ => Blk.cell (i := 0) ((h212.st hq (by decide)).1) rfl) rfl rfl rfl ?_)
  refine h_mv rfl rfl rfl (h_bd rfl rfl rfl rfl ?_)
  refine hwp_nilT ?_
  refine x_pre (fuel := 4) [5, 14] [(0, true), (1, true), (2, true)] (by kernel_rfl) rfl ?_
  refine h_mv rfl rfl rfl (h_fa rfl rfl rfl (h_ldC (hc := fun w' ⟨O', hq⟩ => Blk.cell (i := 2) ((h212.st hq (by decide)).1) rfl) rfl rfl rfl ?_))
  refine hwp_nilT ?_
  refine x_one (i := 14) (by kernel_rfl) rfl ?_
  refine l_bslice 9 (by decide) O327 (xs := ([(⟨a180.dst, a180.src, a258.cost⟩ : Arc)] : List Arc)) rfl rfl rfl rfl ⟨(Vb.ofAgg (cs := [(.int .i64 a180.dst), (.int .i64 a180.src), (.int .i64 a258.cost)]) (x := (⟨a180.dst, a180.src, a258.cost⟩ : Arc)) rfl ⟨rfl, r207, r205, r277⟩), trivial⟩ (by decide) (by decide) rfl fun g345 w346 O347 S348 h349 => ?_
  have hZ := S348.lst [] (fun _ h => h.elim)
  replace hc343 := NR.stay h196 hA337 S348 id hc343
  replace h344 := h344.stS S348 id (fun _ _ => id)
  refine x_go [(15, [5, 14])] hZ (by kernel_rfl) ?_
  refine x_one (i := 15) (by kernel_rfl) rfl ?_
  replace h196 := h196.st S348
  obtain ⟨O351, S352, h196, h353⟩ := NR.take' h196 hA337 x332 hc343 14 (by decide) (by decide)
  replace h353 : Rw 14 w346 O351 106 (.slice A341 a330.length c342) a330 := h353
  have hZ := S352.lst [5] (fun _ h => by cases h; decide)
  obtain ⟨u355, e356, hf185⟩ := bs hf185
  obtain ⟨e356, e357, e358⟩ := appI_some e356
  replace h349 := h349.st S352
  refine l_append rfl h353 (h349.rd) rfl rfl (by decide) e357 e358 rfl fun A359 c360 w361 O362 S363 h364 => ?_
  rw [← e356] at h364 ⊢
  replace hZ := hZ.cmp S363 [5, 14] (fun _ h => by cases h; decide) rfl
  refine x_go [] hZ (by kernel_rfl) ?_
  refine x_pre (fuel := 1) [] [(16, true)] (by kernel_rfl) rfl ?_
  obtain ⟨a366, e367, hf185⟩ := bs hf185
  obtain ⟨p369, x368⟩ := atI_some' e367
  replace h196 := h196.st S363
  obtain ⟨b370, o371, hA373, hl374⟩ := h196.at x368
  refine h_iaE (hA := hA373) (hj := (Int.toNat_of_nonneg p369).symm) (hlt := hl374) rfl rfl rfl rfl ?_
  refine hwp_nilT ?_
  refine x_one (i := 17) (by kernel_rfl) rfl ?_
  refine l_setN (a := a366) (off := 0) h196 h364 (by decide) hA373 x368 rfl rfl rfl rfl (by decide) fun w377 O378 S379 h380 => ?_
  replace h380 : NR Arc 5 w377 O378 104 106 (.slice x62.2.1 y59.2.length x62.2.2) (s177.2.set (a180.dst : Int).toNat u355) none := h380
  refine x_end (by kernel_rfl) ?_
  refine x_nil (by kernel_rfl) ?_
  replace h217 := (((((((h217.st S297).st S301).st S312).st S328).st S348).st S352).st S363).st S379
  replace h220 := (((((((h220.st S297).st S301).st S312).st S328).st S348).st S352).st S363).st S379
  replace h224 := (((((((h224.st S297).st S301).st S312).st S328).st S348).st S352).st S363).st S379
  replace h228 := (((((((h228.st S297).st S301).st S312).st S328).st S348).st S352).st S363).st S379
  replace h232 := (((((((h232.st S297).st S301).st S312).st S328).st S348).st S352).st S363).st S379
  replace h236 := (((((((h236.st S297).st S301).st S312).st S328).st S348).st S352).st S363).st S379
  replace h239 := (((((((h239.st S297).st S301).st S312).st S328).st S348).st S352).st S363).st S379
  replace h243 := (((((((h243.st S297).st S301).st S312).st S328).st S348).st S352).st S363).st S379
  replace h247 := (((((((h247.st S297).st S301).st S312).st S328).st S348).st S352).st S363).st S379
  replace h251 := (((((((h251.st S297).st S301).st S312).st S328).st S348).st S352).st S363).st S379
  replace h255 := (((((((h255.st S297).st S301).st S312).st S328).st S348).st S352).st S363).st S379
  obtain ⟨O381, S382, hz384, ha385, h383⟩ := Spa.shut (x := x0) (l0 := 2) (l1 := 3) (by decide) h217 h220 h224 h228 h232 h236 h239 h243 h247 h251 h255
  obtain rfl := sm hf185
  replace hB := (((((((((((hB.st S211).st S214).st S216).st S297).st S301).st S312).st S328).st S348).st S352).st S363).st S379).st S382
  replace h149 := (((((((((((h149.st S211).st S214).st S216).st S297).st S301).st S312).st S328).st S348).st S352).st S363).st S379).st S382
  replace h329 := ((((h329.st S348).st S352).st S363).st S379).st S382
  replace h380 := h380.st S382
  exact show Exists _ from ⟨_, (), rfl, ⟨rfl, rfl, rfl, rfl, rfl, rfl, trivial⟩, _, hB, h383, h329, h380, h149⟩
 replace hB := (hB.st S126).st S171
 rintro l386 w387 ⟨s390, x391, rfl, hs389, O388, hB, h172, h194, h196⟩
 replace hm := fin_done hm
 refine ewp_sub _ hs389 ?_
 refine ewp_seq (ewp_region (o_as rfl rfl (o_z ?_)))
 refine ewp_seq (ewp_seq (ewp_region (o_mv rfl rfl (o_nc rfl rfl ?_))))
 obtain ⟨O392, v396, v400, v404, v408, v412, v415, v419, v423, v427, v431, S393, ha395, h394, h397, h401, h405, h409, h413, h416, h420, h424, h428, h432⟩ := Spa.opn h172 2 3 (by decide)
 obtain ⟨A398, c399, rfl⟩ := h397.form
 obtain ⟨A402, c403, rfl⟩ := h401.form
 obtain ⟨A406, c407, rfl⟩ := h405.form
 obtain ⟨A410, c411, rfl⟩ := h409.form
 obtain ⟨p414, rfl⟩ := h413.ptr
 obtain ⟨A417, c418, rfl⟩ := h416.form
 obtain ⟨A421, c422, rfl⟩ := h420.form
 obtain ⟨A425, c426, rfl⟩ := h424.form
 obtain ⟨A429, c430, rfl⟩ := h428.form
 obtain ⟨A433, c434, rfl⟩ := h432.form
 refine o_fa rfl rfl (o_ld (hc := Blk.cell (i := 6) (h394.1) rfl) rfl rfl ?_)
 refine o_ln rfl rfl ?_
 have l436 : x0.goals.length ≤ 9223372036854775807 := Nat.le_trans h420.len.2.1 h420.len.2.2
 have r435 : inI64 (x0.goals.length : Int) := rngNat l436
 refine o_mv rfl rfl (o_z ?_)
 obtain ⟨O437, S438, hz440, ha441, h439⟩ := Spa.shut (x := x0) (l0 := 2) (l1 := 3) (by decide) h394 h397 h401 h405 h409 h413 h416 h420 h424 h428 h432
 obtain ⟨res442, hL443, hm⟩ := bs hm
 refine ewp_join (aft res442 (fun (s444 : (List Int)) (x445 : (Option Addr × Nat)) => [(0, (.pointer (some ⟨p0, 0, none⟩))), (3, (.slice x62.1.1 y59.1.length x62.1.2)), (4, (.slice x62.2.1 y59.2.length x62.2.2)), (8, (.slice x445.1 s444.length x445.2))]) (fun s444 x445 w' => ∃ O' : Lab, Bm w O0 w' O' ∧ Ob 2 w' O' (.pointer (some ⟨p0, 0, none⟩)) x0 ∧ NR Arc 4 w' O' 104 106 (.slice x62.1.1 y59.1.length x62.1.2) s390.1 none ∧ NR Arc 5 w' O' 104 106 (.slice x62.2.1 y59.2.length x62.2.2) s390.2 none ∧ Rw 15 w' O' 3 (.slice x445.1 s444.length x445.2) s444)) ?_ ?_
 ·
  refine ewp_block ?_
  replace hB := (hB.st S393).st S438
  replace h194 := (h194.st S393).st S438
  replace h196 := (h196.st S393).st S438
  replace h420 := h420.st S438
  refine ewp_rng (σ := (List Int)) (X := (Option Addr × Nat)) (x0.goals.length) hL443 rfl l436 (fun (s444 : (List Int)) (x445 : (Option Addr × Nat)) => [(0, (.pointer (some ⟨p0, 0, none⟩))), (3, (.slice x62.1.1 y59.1.length x62.1.2)), (4, (.slice x62.2.1 y59.2.length x62.2.2)), (8, (.slice x445.1 s444.length x445.2)), (77, (.slice A421 x0.goals.length c422))]) _ (fun s444 x445 w' => ∃ O' : Lab, Bm w O0 w' O' ∧ Ob 2 w' O' (.pointer (some ⟨p0, 0, none⟩)) x0 ∧ NR Arc 4 w' O' 104 106 (.slice x62.1.1 y59.1.length x62.1.2) s390.1 none ∧ NR Arc 5 w' O' 104 106 (.slice x62.2.1 y59.2.length x62.2.2) s390.2 none ∧ Rw 15 w' O' 3 (.slice x445.1 s444.length x445.2) s444 ∧ Vb w' (Fr 0 w' O') (.slice A421 x0.goals.length c422) x0.goals) _ (none, 0) ⟨O437, hB, h439, h194, h196, (Rw.nil 15 (by decide)), h420⟩ ⟨rfl, rfl, rfl, rfl, rfl, rfl, rfl, trivial⟩ (fun _ _ => ⟨rfl, rfl⟩) (fun _ _ => ⟨rfl, rfl, rfl, rfl, trivial⟩) (fun _ _ _ ⟨O', hB, h439, h194, h196, h459, h420⟩ => ⟨O', hB, h439, h194, h196, h459⟩) ⟨rfl, rfl, rfl⟩ ⟨rfl, rfl⟩ ?_
  rintro k446 a447 s444 x445 w448 cc450 hx451 ⟨O449, hB, h439, h194, h196, h459, h420⟩ hf452 hret453 hbrk454
  have rk446 : inI64 (k446 : Int) := rngK hx451 l436
  refine ewp_seq (ewp_region (o_mv rfl rfl ?_))
  obtain ⟨b461, o462, ce463, hA464, hl465, hd466, rfl⟩ := h420.elem' hx451
  refine o_iaE (hA := hA464) (hj := rfl) (hlt := hl465) rfl rfl rfl ?_
  refine o_ld (hc := cat0 hd466) rfl rfl ?_
  refine o_as rfl rfl (o_as rfl rfl (o_z ?_))
  refine ewp_seq (ewp_region (o_mv rfl rfl (o_z ?_)))
  refine ewp_cond rfl (fun c468 => ?_) (fun c468 => ?_)
  ·
   replace hf452 := ip hf452 c468
   refine ewp_region (o_mv rfl rfl (o_mv rfl rfl ?_))
   obtain ⟨u469, e470, hf452⟩ := bs hf452
   obtain ⟨e470, e471, e472⟩ := appI_some e470
   refine l_append1 rfl (a := (k446 : Int)) h459 (vInt rk446) (fun _ => rfl) rfl (by decide) (by decide) e471 e472 ⟨rfl, rfl⟩ fun g473 A474 c475 w476 O477 S478 h479 => ?_
   rw [← e470] at h479 ⊢
   refine o_as rfl rfl (o_z ?_)
   obtain rfl := sm hf452
   replace hB := hB.st S478
   replace h194 := h194.st S478
   replace h196 := h196.st S478
   replace h420 := h420.st S478
   replace h439 := h439.st S478
   exact show Exists _ from ⟨_, (A474, c475), rfl, ⟨rfl, rfl, rfl, rfl, rfl, rfl, rfl, trivial⟩, _, hB, h439, h194, h196, h479, h420⟩
  replace hf452 := im' hf452 c468
  refine ewp_skip ?_
  obtain rfl := sm hf452
  exact show Exists _ from ⟨_, (x445.1, x445.2), rfl, ⟨rfl, rfl, rfl, rfl, rfl, rfl, rfl, trivial⟩, _, hB, h439, h194, h196, h459, h420⟩
 replace hB := (hB.st S393).st S438
 replace h194 := (h194.st S393).st S438
 replace h196 := (h196.st S393).st S438
 rintro l481 w482 ⟨s485, x486, rfl, hs484, O483, hB, h439, h194, h196, h459⟩
 replace hm := fin_done hm
 refine ewp_sub _ hs484 ?_
 refine ewp_seq (ewp_region (o_mv rfl rfl (o_mv rfl rfl (l_bslice 16 (by decide) O483 (xs := (([0] : List Int) : List Int)) rfl rfl rfl rfl ⟨(vInt (show inI64 (0) from by decide)), trivial⟩ (by decide) (by decide) rfl fun g487 w488 O489 S490 h491 => ?_))))
 replace h194 := h194.st S490
 obtain ⟨O493, S494, h194⟩ := h194.freeze
 replace h491 := h491.st S494
 obtain ⟨O495, S496, h491⟩ := h491.freeze
 obtain ⟨q497, e498, hm⟩ := bs hm
 replace h194 := h194.st S496
 refine l_call (O := O495) (R := fun w' F v => T2 w' F v q497) (c_explore_shortest Fr.lt h194 h491 e498) rfl rfl fun v503 w499 O500 S501 h502 => ?_
 obtain ⟨v504, v505, rfl, h506, h507⟩ := h502
 obtain ⟨A508, c509, rfl⟩ := h506.form
 obtain ⟨A510, c511, rfl⟩ := h507.form
 refine o_mv rfl rfl (o_ex rfl rfl rfl (o_ex rfl rfl rfl (o_nc rfl rfl ?_)))
 replace h439 := (((h439.st S490).st S494).st S496).st S501
 obtain ⟨O512, v516, v520, v524, v528, v532, v535, v539, v543, v547, v551, S513, ha515, h514, h517, h521, h525, h529, h533, h536, h540, h544, h548, h552⟩ := Spa.opn h439 2 3 (by decide)
 obtain ⟨A518, c519, rfl⟩ := h517.form
 obtain ⟨A522, c523, rfl⟩ := h521.form
 obtain ⟨A526, c527, rfl⟩ := h525.form
 obtain ⟨A530, c531, rfl⟩ := h529.form
 obtain ⟨p534, rfl⟩ := h533.ptr
 obtain ⟨A537, c538, rfl⟩ := h536.form
 obtain ⟨A541, c542, rfl⟩ := h540.form
 obtain ⟨A545, c546, rfl⟩ := h544.form
 obtain ⟨A549, c550, rfl⟩ := h548.form
 obtain ⟨A553, c554, rfl⟩ := h552.form
 refine o_fa rfl rfl (l_store h514 rfl rfl rfl (nle_b rfl) (allOne rfl) fun w555 S556 h514 => ?_)
 replace h514 : Lc 2 w555 O512 p0 87 [(.slice A518 x0.t.vars.length c519), (.slice A522 x0.t.init.length c523), (.slice A526 x0.t.goal.length c527), (.slice A530 x0.t.ops.length c531), (.pointer (some ⟨p534, 0, none⟩)), (.slice A537 x0.edges.length c538), (.slice A541 x0.goals.length c542), (.slice A508 q497.1.length c509), (.slice A549 x0.distances.length c550), (.slice A553 x0.steps.length c554)] := h514
 refine o_z ?_
 refine ewp_region (o_mv rfl rfl (o_mv rfl rfl (o_mv rfl rfl (o_mv rfl rfl ?_))))
 replace h196 := (((((h196.st S490).st S494).st S496).st S501).st S513).st S556
 obtain ⟨O557, S558, h196⟩ := h196.freeze
 replace h459 := ((((((h459.st S490).st S494).st S496).st S501).st S513).st S556).st S558
 obtain ⟨O559, S560, h459⟩ := h459.freeze
 obtain ⟨q561, e562, hm⟩ := bs hm
 replace h196 := h196.st S560
 refine l_call (O := O559) (R := fun w' F v => T2 w' F v q561) (c_explore_shortest Fr.lt h196 h459 e562) rfl rfl fun v567 w563 O564 S565 h566 => ?_
 obtain ⟨v568, v569, rfl, h570, h571⟩ := h566
 obtain ⟨A572, c573, rfl⟩ := h570.form
 obtain ⟨A574, c575, rfl⟩ := h571.form
 refine o_mv rfl rfl (o_ex rfl rfl rfl (o_ex rfl rfl rfl (o_nc rfl rfl (o_fa rfl rfl ?_))))
 replace h514 := ((h514.st S558).st S560).st S565
 refine l_store h514 rfl rfl rfl (nle_b rfl) (allOne rfl) fun w576 S577 h514 => ?_
 replace h514 : Lc 2 w576 O564 p0 87 [(.slice A518 x0.t.vars.length c519), (.slice A522 x0.t.init.length c523), (.slice A526 x0.t.goal.length c527), (.slice A530 x0.t.ops.length c531), (.pointer (some ⟨p534, 0, none⟩)), (.slice A537 x0.edges.length c538), (.slice A541 x0.goals.length c542), (.slice A508 q497.1.length c509), (.slice A572 q561.1.length c573), (.slice A553 x0.steps.length c554)] := h514
 refine o_nc rfl rfl (o_fa rfl rfl (l_store h514 rfl rfl rfl (nle_b rfl) (allOne rfl) fun w578 S579 h514 => ?_))
 replace h514 : Lc 2 w578 O564 p0 87 [(.slice A518 x0.t.vars.length c519), (.slice A522 x0.t.init.length c523), (.slice A526 x0.t.goal.length c527), (.slice A530 x0.t.ops.length c531), (.pointer (some ⟨p534, 0, none⟩)), (.slice A537 x0.edges.length c538), (.slice A541 x0.goals.length c542), (.slice A508 q497.1.length c509), (.slice A572 q561.1.length c573), (.slice A574 q561.2.length c575)] := h514
 refine o_z ?_
 replace h506 := ((((((h506.st S513).st S556).st S558).st S560).st S565).st S577).st S579
 replace h517 := (((((h517.st S556).st S558).st S560).st S565).st S577).st S579
 replace h521 := (((((h521.st S556).st S558).st S560).st S565).st S577).st S579
 replace h525 := (((((h525.st S556).st S558).st S560).st S565).st S577).st S579
 replace h529 := (((((h529.st S556).st S558).st S560).st S565).st S577).st S579
 replace h533 := (((((h533.st S556).st S558).st S560).st S565).st S577).st S579
 replace h536 := (((((h536.st S556).st S558).st S560).st S565).st S577).st S579
 replace h540 := (((((h540.st S556).st S558).st S560).st S565).st S577).st S579
 replace h570 := (h570.st S577).st S579
 replace h571 := (h571.st S577).st S579
 obtain ⟨O580, S581, hz583, ha584, h582⟩ := Spa.shut (x := (⟨(⟨x0.t.vars, x0.t.init, x0.t.goal, x0.t.ops⟩ : Tsk), x0.states, x0.edges, x0.goals, q497.1, q561.1, q561.2⟩ : Spa)) (l0 := 2) (l1 := 3) (by decide) h514 h517 h521 h525 h529 h533 h536 h540 h506 h570 h571
 obtain rfl := sm hm
 replace hB := (((((((((((hB.st S490).st S494).st S496).st S501).st S513).st S556).st S558).st S560).st S565).st S577).st S579).st S581
 obtain ⟨O', hS', hz, hl⟩ := hE.leave (fun q => if q = 2 then i0 else 0) rfl hB
 exact ret0n rfl  ⟨O', hS', (Ob.leave h582 hz (hl 2 (by decide) (by decide)) hx0.2)⟩
noncomputable def m_explore_Space_Len (x0 : Spa) : Option Int :=
  bnd (m_registry_Registry_Len x0.states) fun q45 => some q45
theorem c_explore_Space_Len {w : World} {O : Lab} {p0 i0 : Nat} {x0 : Spa} (hx0 : Ob i0 w O (.pointer (some ⟨p0, 0, none⟩)) x0) {r : Int} (hm : m_explore_Space_Len x0 = some r) :
    Fn Tryz.prog 21 [(.pointer (some ⟨p0, 0, none⟩))] w fun v w' => ∃ O', St (eT i0) w O w' O' ∧ Ob i0 w' O' (.pointer (some ⟨p0, 0, none⟩)) x0 ∧ Vb w' (Fr 0 w' O') v r := by
 obtain ⟨O0, hE, hz0, hl2⟩ := ent1 (w := w) (O := O) hx0.2
 have hx0' := Ob.leave hx0 hz0 hl2 (j := 2) (by decide)
 have hB : Bm w O0 w O0 := Bm.refl
 refine fn_enter Tryz.func21 rfl Tryz.ntmps21 rfl ?_
 unfold m_explore_Space_Len at hm
 refine ewp_seq (ewp_region (o_as rfl rfl (o_z ?_)))
 refine ewp_seq (ewp_seq (ewp_region (o_mv rfl rfl (o_pn rfl rfl ?_))))
 refine o_z ?_
 refine ewp_false rfl (ewp_skip (ewp_seq (ewp_region (o_mv rfl rfl (o_nc rfl rfl ?_)))))
 obtain ⟨O2, v6, v10, v14, v18, v22, v25, v29, v33, v37, v41, S3, ha5, h4, h7, h11, h15, h19, h23, h26, h30, h34, h38, h42⟩ := Spa.opn hx0' 2 3 (by decide)
 obtain ⟨A8, c9, rfl⟩ := h7.form
 obtain ⟨A12, c13, rfl⟩ := h11.form
 obtain ⟨A16, c17, rfl⟩ := h15.form
 obtain ⟨A20, c21, rfl⟩ := h19.form
 obtain ⟨p24, rfl⟩ := h23.ptr
 obtain ⟨A27, c28, rfl⟩ := h26.form
 obtain ⟨A31, c32, rfl⟩ := h30.form
 obtain ⟨A35, c36, rfl⟩ := h34.form
 obtain ⟨A39, c40, rfl⟩ := h38.form
 obtain ⟨A43, c44, rfl⟩ := h42.form
 refine o_fa rfl rfl (o_ld (hc := Blk.cell (i := 4) (h4.1) rfl) rfl rfl ?_)
 obtain ⟨q45, e46, hm⟩ := bs hm
 refine l_callM (O := O2) (c_registry_Registry_Len h23 e46) rfl rfl fun v51 w47 O48 S49 h50 => ?_
 obtain ⟨h52, h53⟩ := h50
 obtain ⟨rfl, r54⟩ := h53.int
 refine o_as rfl rfl (o_z ?_)
 refine ewp_ret ?_
 replace h4 := h4.st S49
 replace h7 := h7.st S49
 replace h11 := h11.st S49
 replace h15 := h15.st S49
 replace h19 := h19.st S49
 replace h26 := h26.st S49
 replace h30 := h30.st S49
 replace h34 := h34.st S49
 replace h38 := h38.st S49
 replace h42 := h42.st S49
 obtain ⟨O55, S56, hz58, ha59, h57⟩ := Spa.shut (x := x0) (l0 := 2) (l1 := 3) (by decide) h4 h7 h11 h15 h19 h52 h26 h30 h34 h38 h42
 obtain rfl := sm hm
 replace hB := ((hB.st S3).st S49).st S56
 obtain ⟨O', hS', hz, hl⟩ := hE.leave (fun q => if q = 2 then i0 else 0) rfl hB
 exact ret1v rfl (res_tmp rfl) ⟨O', hS', (Ob.leave h57 hz (hl 2 (by decide) (by decide)) hx0.2), (vInt r54)⟩
noncomputable def m_explore_Space_State (x0 : Spa) (x1 : Int) : Option ((List Int) × Err) :=
  bnd (m_registry_Registry_State x0.states x1) fun q46 => some (q46.1, (⟨q46.2.n⟩ : Err))
theorem c_explore_Space_State {w : World} {O : Lab} {p0 i0 : Nat} {x0 : Spa} (hx0 : Ob i0 w O (.pointer (some ⟨p0, 0, none⟩)) x0) {x1 : Int} (rx1 : inI64 x1) {r : (List Int) × Err} (hm : m_explore_Space_State x0 x1 = some r) :
    Fn Tryz.prog 22 [(.pointer (some ⟨p0, 0, none⟩)), (.int .i64 x1)] w fun v w' => ∃ O', St (eT i0) w O w' O' ∧ ∃ v0 v1 : Value, Ob i0 w' O' (.pointer (some ⟨p0, 0, none⟩)) x0 ∧ v = .tuple #[v0, v1] ∧ Vb w' (Fr 0 w' O') v0 r.1 ∧ Vb w' (Fr 0 w' O') v1 r.2 := by
 obtain ⟨O0, hE, hz0, hl2⟩ := ent1 (w := w) (O := O) hx0.2
 have hx0' := Ob.leave hx0 hz0 hl2 (j := 2) (by decide)
 have hB : Bm w O0 w O0 := Bm.refl
 refine fn_enter Tryz.func22 rfl Tryz.ntmps22 rfl ?_
 unfold m_explore_Space_State at hm
 refine ewp_seq (ewp_region (o_as rfl rfl (o_as rfl rfl (o_z ?_))))
 refine ewp_seq (ewp_seq (ewp_region (o_mv rfl rfl (o_pn rfl rfl ?_))))
 refine o_z ?_
 refine ewp_false rfl (ewp_skip (ewp_seq (ewp_region (o_mv rfl rfl (o_nc rfl rfl ?_)))))
 obtain ⟨O3, v7, v11, v15, v19, v23, v26, v30, v34, v38, v42, S4, ha6, h5, h8, h12, h16, h20, h24, h27, h31, h35, h39, h43⟩ := Spa.opn hx0' 2 3 (by decide)
 obtain ⟨A9, c10, rfl⟩ := h8.form
 obtain ⟨A13, c14, rfl⟩ := h12.form
 obtain ⟨A17, c18, rfl⟩ := h16.form
 obtain ⟨A21, c22, rfl⟩ := h20.form
 obtain ⟨p25, rfl⟩ := h24.ptr
 obtain ⟨A28, c29, rfl⟩ := h27.form
 obtain ⟨A32, c33, rfl⟩ := h31.form
 obtain ⟨A36, c37, rfl⟩ := h35.form
 obtain ⟨A40, c41, rfl⟩ := h39.form
 obtain ⟨A44, c45, rfl⟩ := h43.form
 refine o_fa rfl rfl (o_ld (hc := Blk.cell (i := 4) (h5.1) rfl) rfl rfl ?_)
 refine o_mv rfl rfl ?_
 obtain ⟨q46, e47, hm⟩ := bs hm
 refine l_callM (O := O3) (c_registry_Registry_State h24 rx1 e47) rfl rfl fun v52 w48 O49 S50 h51 => ?_
 obtain ⟨v54, v55, h53, rfl, h56, h57⟩ := h51
 obtain ⟨A58, c59, rfl⟩ := h56.form
 obtain ⟨rfl, r60⟩ := h57.err
 refine o_ex rfl rfl rfl (o_ex rfl rfl rfl (o_as rfl rfl (o_as rfl rfl (o_z ?_))))
 refine ewp_ret ?_
 replace h5 := h5.st S50
 replace h8 := h8.st S50
 replace h12 := h12.st S50
 replace h16 := h16.st S50
 replace h20 := h20.st S50
 replace h27 := h27.st S50
 replace h31 := h31.st S50
 replace h35 := h35.st S50
 replace h39 := h39.st S50
 replace h43 := h43.st S50
 obtain ⟨O61, S62, hz64, ha65, h63⟩ := Spa.shut (x := x0) (l0 := 2) (l1 := 3) (by decide) h5 h8 h12 h16 h20 h53 h27 h31 h35 h39 h43
 obtain rfl := sm hm
 replace hB := ((hB.st S4).st S50).st S62
 obtain ⟨O', hS', hz, hl⟩ := hE.leave (fun q => if q = 2 then i0 else 0) rfl hB
 replace h56 := h56.st S62
 exact ret2 rfl (res_tmp rfl) (res_tmp rfl) ⟨O', hS', _, _, (Ob.leave h63 hz (hl 2 (by decide) (by decide)) hx0.2), rfl, (Vb.mono h56 hz), (vErr r60)⟩
noncomputable def m_explore_Space_Find (x0 : Spa) (x1 : List Int) : Option (Int × Err) :=
  bnd (m_registry_Registry_Find x0.states x1) fun q48 => some (q48.1, (⟨q48.2.n⟩ : Err))
theorem c_explore_Space_Find {w : World} {O : Lab} {p0 i0 : Nat} {x0 : Spa} (hx0 : Ob i0 w O (.pointer (some ⟨p0, 0, none⟩)) x0) {vx1 : Value} {x1 : List Int} (hx1 : Vb w (Fr 0 w O) vx1 x1) {r : Int × Err} (hm : m_explore_Space_Find x0 x1 = some r) :
    Fn Tryz.prog 23 [(.pointer (some ⟨p0, 0, none⟩)), vx1] w fun v w' => ∃ O', St (eT i0) w O w' O' ∧ ∃ v0 v1 : Value, Ob i0 w' O' (.pointer (some ⟨p0, 0, none⟩)) x0 ∧ v = .tuple #[v0, v1] ∧ Vb w' (Fr 0 w' O') v0 r.1 ∧ Vb w' (Fr 0 w' O') v1 r.2 := by
 obtain ⟨O0, hE, hz0, hl2⟩ := ent1 (w := w) (O := O) hx0.2
 have hx0' := Ob.leave hx0 hz0 hl2 (j := 2) (by decide)
 have hB : Bm w O0 w O0 := Bm.refl
 replace hx1 := hx1.mono hz0
 obtain ⟨A3, c4, rfl⟩ := hx1.form
 refine fn_enter Tryz.func23 rfl Tryz.ntmps23 rfl ?_
 unfold m_explore_Space_Find at hm
 refine ewp_seq (ewp_region (o_as rfl rfl (o_as rfl rfl (o_z ?_))))
 refine ewp_seq (ewp_seq (ewp_region (o_mv rfl rfl (o_pn rfl rfl ?_))))
 refine o_z ?_
 refine ewp_false rfl (ewp_skip (ewp_seq (ewp_region (o_mv rfl rfl (o_nc rfl rfl ?_)))))
 obtain ⟨O5, v9, v13, v17, v21, v25, v28, v32, v36, v40, v44, S6, ha8, h7, h10, h14, h18, h22, h26, h29, h33, h37, h41, h45⟩ := Spa.opn hx0' 2 3 (by decide)
 obtain ⟨A11, c12, rfl⟩ := h10.form
 obtain ⟨A15, c16, rfl⟩ := h14.form
 obtain ⟨A19, c20, rfl⟩ := h18.form
 obtain ⟨A23, c24, rfl⟩ := h22.form
 obtain ⟨p27, rfl⟩ := h26.ptr
 obtain ⟨A30, c31, rfl⟩ := h29.form
 obtain ⟨A34, c35, rfl⟩ := h33.form
 obtain ⟨A38, c39, rfl⟩ := h37.form
 obtain ⟨A42, c43, rfl⟩ := h41.form
 obtain ⟨A46, c47, rfl⟩ := h45.form
 refine o_fa rfl rfl (o_ld (hc := Blk.cell (i := 4) (h7.1) rfl) rfl rfl ?_)
 refine o_mv rfl rfl ?_
 obtain ⟨q48, e49, hm⟩ := bs hm
 replace hx1 := hx1.st S6
 refine l_callM (O := O5) (c_registry_Registry_Find h26 hx1 e49) rfl rfl fun v54 w50 O51 S52 h53 => ?_
 obtain ⟨v56, v57, h55, rfl, h58, h59⟩ := h53
 obtain ⟨rfl, r60⟩ := h58.int
 obtain ⟨rfl, r61⟩ := h59.err
 refine o_ex rfl rfl rfl (o_ex rfl rfl rfl (o_as rfl rfl (o_as rfl rfl (o_z ?_))))
 refine ewp_ret ?_
 replace h7 := h7.st S52
 replace h10 := h10.st S52
 replace h14 := h14.st S52
 replace h18 := h18.st S52
 replace h22 := h22.st S52
 replace h29 := h29.st S52
 replace h33 := h33.st S52
 replace h37 := h37.st S52
 replace h41 := h41.st S52
 replace h45 := h45.st S52
 obtain ⟨O62, S63, hz65, ha66, h64⟩ := Spa.shut (x := x0) (l0 := 2) (l1 := 3) (by decide) h7 h10 h14 h18 h22 h55 h29 h33 h37 h41 h45
 obtain rfl := sm hm
 replace hB := ((hB.st S6).st S52).st S63
 obtain ⟨O', hS', hz, hl⟩ := hE.leave (fun q => if q = 2 then i0 else 0) rfl hB
 exact ret2 rfl (res_tmp rfl) (res_tmp rfl) ⟨O', hS', _, _, (Ob.leave h64 hz (hl 2 (by decide) (by decide)) hx0.2), rfl, (vInt r60), (vErr r61)⟩
end
section
open Go Go.RowKit
theorem run_equal_niliface {P : Program} {t : TypeId} [h : TIface P t] (s : TypeId) (v : Value) (w : World) : (Op.equal t .nilIface (.iface s v)).run P w = .ok false w := by
  obtain ⟨ms, hm⟩ := h.eq
  have hd : ∀ d : Nat, (Op.equalIn (d + 1) t .nilIface (.iface s v)).run P w = .ok false w := fun d => by
    simp [Op.equalIn, run_underlying hm]
  exact hd 9999
theorem ev_een {P : Program} {l : Env} {w : World} {dst : Option Tmp} {ty : TypeId} {pos : String} {aft : Array Edge} {t u : TypeId} [TIface P t] {x y : Operand} {s : TypeId} {v : Value} (hx : opv l x = some .nilIface) (hy : opv l y = some (.iface s v)) : Ev P ⟨dst, .binOp .eql t x y u, ty, pos, aft, none⟩ l w (.bool false) := fun _ a d ha => by
  simp [execOp, ha.eval hx, ha.eval hy, eqGuard, binOp, run_equal_niliface (P := P) (t := t)]
section
attribute [local irreducible] ewp owp hwp hwq hws Ev Evg Fn retPost loud loudS Res1
attribute [local irreducible] hwx loudX
theorem c_errors_Is {w : World} {A : Nat → Prop} (hA : ∀ k, A k → k < w.heap.size) {x0 : Err} (rx0 : inI64 x0.n) {x1 : Err} (rx1 : inI64 x1.n) {r : Bool} (hm : m_errors_Is x0 x1 = some r) :
    Fn Tryz.prog 50 [(errV x0.n), (errV x1.n)] w fun v w' => Ext w w' ∧ Vb w' (upA A w w') v r := by
  obtain ⟨⟨e0, e1⟩, rfl⟩ := ite_some hm
  obtain ⟨O, hB, hA0⟩ := enter hA
  refine fn_enter Tryz.func50 rfl Tryz.ntmps50 rfl ?_
  rw [e0, errV_zero, errV_pos e1]
  refine ewp_seq (ewp_region (o_as rfl rfl (o_z ?_)))
  refine ewp_seq (ewp_seq (ewp_region (o_mv rfl rfl (o_en rfl rfl ?_))))
  refine o_mv rfl rfl (owp_no rfl rfl rfl rfl (owp_no rfl rfl rfl rfl (o_pt rfl rfl rfl (o_z ?_))))
  refine ewp_true rfl (ewp_seq (ewp_region (o_mv rfl rfl (o_mv rfl rfl (owp_ev (ev_een rfl rfl) rfl (o_as rfl rfl (o_z ?_)))))))
  refine ewp_ret ?_
  exact ret1v rfl (res_tmp rfl) ⟨hB.ext, vBool⟩
end
end
end Go.Proofs.YtkbmbcblgdgjlaaGreat

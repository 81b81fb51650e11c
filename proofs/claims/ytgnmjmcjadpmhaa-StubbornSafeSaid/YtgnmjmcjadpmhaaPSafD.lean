/- Own text: what the proof of stubbornSafe_holds uses, part 4: rules, models and their proofs, plain laws. -/
import Derived.Test.YtgnmjmcjadpmhaaPSafC
namespace Go.Proofs.Ytgnmjmcjadpmhaa
open Go Go.RowKit
section
open Go Go.RowKit
attribute [local irreducible] ewp owp hwp hwq Ev Evg Fn retPost Res1
attribute [local irreducible] hwx loudX
def m_slices_Clone_Luint64_uint64 (xs : List U64) : Option (List U64) := if xs.length * 8 ≤ 140737488355328 ∧ xs.length ≤ 9223372036854775807 then some xs else none
theorem c_slices_Clone_Luint64_uint64 {w : World} {A : Nat → Prop} (hA : ∀ k, A k → k < w.heap.size) {v0 : Value} {x0 : List U64} (h0 : Vb w A v0 x0) {r : List U64} (hm : m_slices_Clone_Luint64_uint64 x0 = some r) :
    Fn Try.prog 100 [v0] w fun v w' => Ext w w' ∧ RowR w w' (upA A w w') 158 v r := by
  obtain ⟨⟨hl, hl2⟩, rfl⟩ := ite_some hm
  obtain ⟨O, hB, hA0⟩ := enter hA
  replace h0 := h0.mono hA0
  obtain ⟨Ad, c, rfl⟩ := h0.form
  refine fn_enter Try.func100 rfl Try.ntmps100 rfl ?_
  cases Ad with
  | none =>
    have hx : x0 = [] := by
      cases x0 with
      | nil => rfl
      | cons x xs => obtain ⟨_, _, _, h, _⟩ := h0.elem (k := 0) (x := x) rfl; cases h
    subst hx
    ((repeat (first | refine ewp_seq ?_ | refine ewp_block ?_ | refine ewp_region ?_ | refine ewp_skip ?_ | refine ewp_exit ?_ | refine ewp_ret ?_ | refine ewp_true rfl ?_ | refine ewp_false rfl ?_)) <;> (refine o_as rfl rfl ?_ <;> (first | refine owp_nilT ?_ | refine owp_nilB ?_ | refine owp_nilBB ?_ | refine owp_nil ?_)) <;> (repeat (first | refine ewp_seq ?_ | refine ewp_block ?_ | refine ewp_region ?_ | refine ewp_skip ?_ | refine ewp_exit ?_ | refine ewp_ret ?_ | refine ewp_true rfl ?_ | refine ewp_false rfl ?_)) <;> (refine o_mv rfl rfl ?_ <;> refine o_sn rfl rfl ?_ <;> (first | refine owp_nilT ?_ | refine owp_nilB ?_ | refine owp_nilBB ?_ | refine owp_nil ?_)) <;> (repeat (first | refine ewp_seq ?_ | refine ewp_block ?_ | refine ewp_region ?_ | refine ewp_skip ?_ | refine ewp_exit ?_ | refine ewp_ret ?_ | refine ewp_true rfl ?_ | refine ewp_false rfl ?_)) <;> (refine o_as rfl rfl ?_ <;> (first | refine owp_nilT ?_ | refine owp_nilB ?_ | refine owp_nilBB ?_ | refine owp_nil ?_)) <;> (repeat (first | refine ewp_seq ?_ | refine ewp_block ?_ | refine ewp_region ?_ | refine ewp_skip ?_ | refine ewp_exit ?_ | refine ewp_ret ?_ | refine ewp_true rfl ?_ | refine ewp_false rfl ?_)))
    exact ret1 rfl rfl ⟨Below.refl _ _, RowR.nil⟩
  | some ad =>
    ((repeat (first | refine ewp_seq ?_ | refine ewp_block ?_ | refine ewp_region ?_ | refine ewp_skip ?_ | refine ewp_exit ?_ | refine ewp_ret ?_ | refine ewp_true rfl ?_ | refine ewp_false rfl ?_)) <;> (refine o_as rfl rfl ?_ <;> (first | refine owp_nilT ?_ | refine owp_nilB ?_ | refine owp_nilBB ?_ | refine owp_nil ?_)) <;> (repeat (first | refine ewp_seq ?_ | refine ewp_block ?_ | refine ewp_region ?_ | refine ewp_skip ?_ | refine ewp_exit ?_ | refine ewp_ret ?_ | refine ewp_true rfl ?_ | refine ewp_false rfl ?_)) <;> (refine o_mv rfl rfl ?_ <;> refine o_sn rfl rfl ?_ <;> (first | refine owp_nilT ?_ | refine owp_nilB ?_ | refine owp_nilBB ?_ | refine owp_nil ?_)) <;> (repeat (first | refine ewp_seq ?_ | refine ewp_block ?_ | refine ewp_region ?_ | refine ewp_skip ?_ | refine ewp_exit ?_ | refine ewp_ret ?_ | refine ewp_true rfl ?_ | refine ewp_false rfl ?_)))
    refine l_bslice 2 (by decide) O (xs := ([] : List U64)) rfl rfl rfl rfl trivial (by decide) (by decide) rfl fun g w1 O1 S1 h1 => ?_
    replace hB := hB.st S1 (fun h => h) (fun h => h)
    replace h0 := h0.st S1 (fun h => h)
    (refine o_mv rfl rfl ?_)
    refine l_append rfl h1 h0.rd rfl rfl (by decide) (by simpa using hl) (by simpa using hl2) rfl fun A2 c2 w2 O2 S2 h2 => ?_
    replace hB := hB.st S2 (by decide) (by decide)
    rw [List.nil_append] at h2 ⊢
    (refine o_as rfl rfl ?_ <;> (first | refine owp_nilT ?_ | refine owp_nilB ?_ | refine owp_nilBB ?_ | refine owp_nil ?_))
    repeat (first | refine ewp_seq ?_ | refine ewp_block ?_ | refine ewp_region ?_ | refine ewp_skip ?_ | refine ewp_exit ?_ | refine ewp_ret ?_ | refine ewp_true rfl ?_ | refine ewp_false rfl ?_)
    exact ret1 rfl rfl ⟨hB.ext, h2.out hB (by decide)⟩
structure PFd where
  word : Int
  bit : Int
  width : Int
  size : Int
instance : Rp PFd where
  isAgg := true
  size := 4
  R w F cs x := cs = [.int .i64 x.word, .int .i64 x.bit, .int .i64 x.width, .int .i64 x.size] ∧ inI64 x.word ∧ inI64 x.bit ∧ inI64 x.width ∧ inI64 x.size
  len := by rintro w F cs x ⟨rfl, h0, h1, h2, h3⟩; rfl
  one := by rintro w F cs x ⟨rfl, h0, h1, h2, h3⟩ u hu; simp at hu; rcases hu with rfl | rfl | rfl | rfl <;> first | rfl | exact Vb.one rfl (by assumption)
  agree := by rintro w w' F cs x ⟨rfl, h0, h1, h2, h3⟩ ha; exact ⟨rfl, h0, h1, h2, h3⟩
  mono := by rintro w F G cs x ⟨rfl, h0, h1, h2, h3⟩ ha; exact ⟨rfl, h0, h1, h2, h3⟩
structure Pkr where
  fields : List PFd
  words : Int
instance : Ow Pkr where
  R w F M v x := ∃ (g : Nat) (L : Lab) (c0 : Value), v = .pointer (some ⟨g, 0, none⟩) ∧ Blk w g 128 [c0, .int .i64 x.words] ∧ M g ∧ L g = 0 ∧ RwM w F (fun k => M k ∧ L k = 1) 130 c0 x.fields ∧ inI64 x.words
  agree := by rintro w w' F M v x ⟨g, L, c0, rfl, hb, hM, hL, h0, h1⟩ a1 a2; exact ⟨g, L, c0, rfl, hb.keep (a2 g hM), hM, hL, h0.agree a1 fun k hk => a2 k hk.1, h1⟩
  mono := by rintro w F M F' M' v x ⟨g, L, c0, rfl, hb, hM, hL, h0, h1⟩ a1 a2 a3; exact ⟨g, L, c0, rfl, hb, a2 g hM, hL, h0.mono a1 (fun k hk => ⟨a2 k hk.1, hk.2⟩) fun k hf hm => a3 k hf hm.1, h1⟩
instance : OwP Pkr := ⟨by rintro w F M v x ⟨g, L, c0, rfl, _⟩; exact ⟨g, rfl⟩⟩
theorem Pkr.opn {i : Nat} {w : World} {O : Lab} {p : Nat} {x : Pkr} (h : Ob i w O (.pointer (some ⟨p, 0, none⟩)) x) (l0 l1 : Nat) (hl : l0 ≠ 0 ∧ l1 ≠ 0) : ∃ (O' : Lab) (c0 : Value), St (eT i) w O w O' ∧ (∀ k, Fr i w O k → ∃ q, q ∈ [l0, l1] ∧ Fr q w O' k) ∧ Lc l0 w O' p 128 [c0, .int .i64 x.words] ∧ Rw l1 w O' 130 c0 x.fields ∧ inI64 x.words := by
  obtain ⟨⟨g, L, c0, hv, hb, hM, hL, h0, h1⟩, hi⟩ := h
  obtain rfl : p = g := by injection hv with hv; injection hv with hv; injection hv
  exact ⟨part O i L [l0, l1], c0, part_st hi, part_all (by simp), ⟨hb, (part_fr (j := 0) rfl p ⟨hM, hL⟩).2⟩, h0.rw (part_fr0 hi) (part_fr (j := 1) rfl) hl.2, h1⟩
theorem Pkr.shut {w : World} {O : Lab} {p : Nat} {x : Pkr} {l0 l1 : Nat} {c0 : Value} (hd : ¬ 0 ∈ [l0, l1] ∧ [l0, l1].idxOf l0 = 0 ∧ [l0, l1].idxOf l1 = 1) (hb : Lc l0 w O p 128 [c0, .int .i64 x.words]) (h0 : Rw l1 w O 130 c0 x.fields) (h1 : inI64 x.words) : ∃ O', St (· ∈ [l0, l1]) w O w O' ∧ (∀ k, Fr 0 w O k → Fr 0 w O' k) ∧ (∀ q, q ∈ [l0, l1] → ∀ k, Fr q w O k → Fr l0 w O' k) ∧ Ob l0 w O' (.pointer (some ⟨p, 0, none⟩)) x := by
  have hb1 : l0 ≠ 0 := fun e => hd.1 (by simp [e])
  have hg := whole_fr (i := l0) hd.2.1 (by simp) p ⟨hb.1.lt, hb.2⟩
  exact ⟨whole O l0 [l0, l1], whole_st, whole_fr0 hd.1, whole_all, ⟨p, fun k => [l0, l1].idxOf (O k), c0, rfl, hb.1, hg.1, hg.2, h0.m (whole_fr0 hd.1) (whole_fr hd.2.2 (by simp)) (fun k a b => frNe0 hb1 k a b.1), h1⟩, hb1⟩
noncomputable def m_pack_New (x0 : List Int) : Option ((Option Pkr) × Err) :=
  if 64 < (x0.length : Int) then (some (none, (⟨5⟩ : Err))) else (bnd (rng (ρ := (Option Pkr) × Err) (fun (k25 : Nat) (a26 : Int) (s23 : Int × Pkr) => bnd (if a26 < 1 then (some true) else (if 64 < a26 then (some true) else (some false)) : Option Bool) fun y48 => if y48 = true then (some (.ret (none, (⟨1⟩ : Err)))) else (bnd (lop (ρ := Ctl (Int × Pkr) ((Option Pkr) × Err)) (fun (s61 : Int) => bnd (shlI 1 s61) fun n76 => if n76 < a26 then (bnd (chkI (s61 + 1)) fun n80 => some (.next n80)) else (some (.brk s61))) 0) fun res59 => fin res59 fun (s87 : Int) => bnd (bnd (chkI (s23.1 + s87)) fun n95 => if 64 < n95 then (bnd (chkI (s23.2.words + 1)) fun n109 => some (0, (⟨s23.2.fields, n109⟩ : Pkr))) else (some (s23.1, s23.2)) : Option (Int × Pkr)) fun y89 => bnd (chkI (y89.2.words - 1)) fun n133 => bnd (appI 32 y89.2.fields [(⟨n133, y89.1, s87, a26⟩ : PFd)]) fun u142 => bnd (chkI (y89.1 + s87)) fun n155 => some (.next (n155, (⟨u142, y89.2.words⟩ : Pkr))))) x0 0 (0, (⟨([] : List PFd), 1⟩ : Pkr))) fun res21 => fin res21 fun (s167 : Int × Pkr) => some ((some s167.2), (⟨0⟩ : Err)))
theorem c_pack_New {w : World} {O : Lab} {vx0 : Value} {x0 : List Int} (hx0 : Vb w (Fr 0 w O) vx0 x0) (j0 : Nat) (hj0 : j0 ≠ 0) {r : (Option Pkr) × Err} (hm : m_pack_New x0 = some r) :
    Fn Try.prog 57 [vx0] w fun v w' => ∃ O', St nT w O w' O' ∧ ∃ v0 v1 : Value, v = .tuple #[v0, v1] ∧ Obo j0 w' O' v0 r.1 ∧ Vb w' (Fr 0 w' O') v1 r.2 := by
 obtain ⟨O0, hE, hz0⟩ := ent0 (w := w) (O := O)
 have hB : Bm w O0 w O0 := Bm.refl
 replace hx0 := hx0.mono hz0
 obtain ⟨A2, c3, rfl⟩ := hx0.form
 refine fn_enter Try.func57 rfl Try.ntmps57 rfl ?_
 unfold m_pack_New at hm
 refine ewp_seq (ewp_region (o_as rfl rfl (o_as rfl rfl (o_z ?_))))
 refine ewp_seq (ewp_seq (ewp_region (o_mv rfl rfl (o_ln rfl rfl ?_))))
 have l5 : x0.length ≤ 9223372036854775807 := Nat.le_trans hx0.len.2.1 hx0.len.2.2
 have r4 : inI64 (x0.length : Int) := rngNat l5
 refine o_gtS rfl rfl rfl (fun c6 => ?_) fun c6 => ?_
 ·
  replace hm := ip hm c6
  refine o_z ?_
  refine ewp_true rfl (ewp_seq (ewp_region (o_miE rfl rfl ?_)))
  refine o_as rfl rfl (o_as rfl rfl (o_z ?_))
  refine ewp_ret ?_
  obtain rfl := sm hm
  obtain ⟨O', hS', hz, hl⟩ := hE.leave (fun _ => 0) rfl hB
  exact ret2 rfl (res_tmp rfl) (res_tmp rfl) ⟨O', hS', _, _, rfl, rfl, (vErr (by decide))⟩
 ·
  replace hm := im hm c6
  refine o_z ?_
  refine ewp_false rfl (ewp_skip (ewp_seq (ewp_region (o_bd rfl rfl rfl ?_))))
  refine l_box 2 O0 rfl rfl fun g7 w8 O9 S10 h11 => ?_
  replace h11 : Lc 2 w8 O9 g7 128 [(.slice none 0 0), (.int .i64 1)] := h11
  refine o_as rfl rfl (o_z ?_)
  refine ewp_seq (ewp_region (o_as rfl rfl (o_z ?_)))
  refine ewp_seq (ewp_seq (ewp_region (o_mv rfl rfl (o_ln rfl rfl ?_))))
  replace hx0 := hx0.st S10
  have l13 : x0.length ≤ 9223372036854775807 := Nat.le_trans hx0.len.2.1 hx0.len.2.2
  have r12 : inI64 (x0.length : Int) := rngNat l13
  refine o_mv rfl rfl (o_z ?_)
  have h14 : Rw 3 w8 O9 130 (.slice none 0 0) ([] : List PFd) := Rw.nil 3 (by decide)
  obtain ⟨O16, S17, hz19, ha20, h18⟩ := Pkr.shut (x := (⟨([] : List PFd), 1⟩ : Pkr)) (l0 := 2) (l1 := 3) (by decide) h11 h14 (show inI64 (1) from by decide)
  obtain ⟨res21, hL22, hm⟩ := bs hm
  refine ewp_join (aft res21 (fun (s23 : Int × Pkr) (x24 : Unit) => [(4, (.pointer (some ⟨g7, 0, none⟩)))]) (fun s23 x24 w' => ∃ O' : Lab, Bm w O0 w' O' ∧ Ob 2 w' O' (.pointer (some ⟨g7, 0, none⟩)) s23.2 ∧ inI64 s23.1)) ?_ ?_
  ·
   refine ewp_block ?_
   replace hB := (hB.st S10).st S17
   replace hx0 := hx0.st S17
   refine ewp_rng (σ := Int × Pkr) (X := Unit) (x0.length) hL22 rfl l13 (fun (s23 : Int × Pkr) (x24 : Unit) => [(4, (.pointer (some ⟨g7, 0, none⟩))), (5, (.int .i64 s23.1)), (15, (.slice A2 x0.length c3))]) _ (fun s23 x24 w' => ∃ O' : Lab, Bm w O0 w' O' ∧ Ob 2 w' O' (.pointer (some ⟨g7, 0, none⟩)) s23.2 ∧ Vb w' (Fr 0 w' O') (.slice A2 x0.length c3) x0 ∧ inI64 s23.1) _ () ⟨O16, hB, h18, hx0, (show inI64 (0) from by decide)⟩ ⟨rfl, rfl, rfl, rfl, rfl, trivial⟩ (fun _ _ => ⟨rfl, rfl⟩) (fun _ _ => ⟨rfl, trivial⟩) (fun _ _ _ ⟨O', hB, h39, hx0, r38⟩ => ⟨O', hB, h39, r38⟩) ⟨rfl, rfl, rfl⟩ ⟨rfl, rfl⟩ ?_
   rintro k25 a26 s23 x24 w27 cc29 hx30 ⟨O28, hB, h39, hx0, r38⟩ hf31 hret32 hbrk33
   have rk25 : inI64 (k25 : Int) := rngK hx30 l13
   refine ewp_seq (ewp_region ?_)
   obtain ⟨b40, o41, ce42, hA43, hl44, hd45, rfl, r47⟩ := hx0.elem' hx30
   refine o_iaE (hA := hA43) (hj := rfl) (hlt := hl44) rfl rfl rfl ?_
   refine o_ld (hc := cat0 hd45) rfl rfl ?_
   refine o_as rfl rfl (o_z ?_)
   refine ewp_seq (ewp_seq ?_)
   obtain ⟨y48, hy49, hf31⟩ := bs hf31
   refine ewp_join (fun l' w' => ∃ (x51 : Unit) (O' : Lab), subs l' [(4, (.pointer (some ⟨g7, 0, none⟩))), (5, (.int .i64 s23.1)), (7, (.int .i64 a26)), (15, (.slice A2 x0.length c3)), (16, (.int .i64 (x0.length : Int))), (17, (.int .i64 (k25 : Int))), (26, (.bool y48))] ∧ Bm w O0 w' O' ∧ Ob 2 w' O' (.pointer (some ⟨g7, 0, none⟩)) s23.2 ∧ Vb w' (Fr 0 w' O') (.slice A2 x0.length c3) x0) ?_ ?_
   ·
    refine ewp_region (o_mv rfl rfl (o_ltS rfl rfl rfl (fun c52 => ?_) fun c52 => ?_))
    ·
     replace hy49 := ip hy49 c52
     refine o_mv rfl rfl (owp_no rfl rfl rfl rfl (owp_no rfl rfl rfl rfl (o_pt rfl rfl rfl (o_z ?_))))
     obtain rfl := sm hy49
     exact ⟨(), _, ⟨rfl, rfl, rfl, rfl, rfl, rfl, rfl, trivial⟩, hB, h39, hx0⟩
    ·
     replace hy49 := im hy49 c52
     refine o_mv rfl rfl (owp_yes rfl rfl (o_mv rfl rfl (owp_yes rfl rfl (o_gtS rfl rfl rfl (fun c53 => ?_) fun c53 => ?_))))
     ·
      replace hy49 := ip hy49 c53
      refine o_pf rfl rfl rfl (o_z ?_)
      obtain rfl := sm hy49
      exact ⟨(), _, ⟨rfl, rfl, rfl, rfl, rfl, rfl, rfl, trivial⟩, hB, h39, hx0⟩
     ·
      replace hy49 := im hy49 c53
      refine o_pf rfl rfl rfl (o_z ?_)
      obtain rfl := sm hy49
      exact ⟨(), _, ⟨rfl, rfl, rfl, rfl, rfl, rfl, rfl, trivial⟩, hB, h39, hx0⟩
   rintro l54 w55 ⟨x51, O56, hs57, hB, h39, hx0⟩
   refine ewp_sub _ hs57 ?_
   refine ewp_cond rfl (fun c58 => ?_) (fun c58 => ?_)
   ·
    replace hf31 := ip hf31 c58
    refine ewp_seq (ewp_region (o_miE rfl rfl ?_))
    refine o_as rfl rfl (o_as rfl rfl (o_z ?_))
    refine ewp_ret ?_
    obtain rfl := sm hf31
    obtain rfl := hret32 _ rfl
    obtain rfl := sm (fin_ret hm)
    obtain ⟨O', hS', hz, hl⟩ := hE.leave (fun _ => 0) rfl hB
    exact ret2 rfl (res_tmp rfl) (res_tmp rfl) ⟨O', hS', _, _, rfl, rfl, (vErr (by decide))⟩
   ·
    replace hf31 := im' hf31 c58
    refine ewp_skip (ewp_seq (ewp_region (o_as rfl rfl (o_z ?_))))
    refine ewp_seq ?_
    obtain ⟨res59, hL60, hf31⟩ := bs hf31
    refine ewp_join (aft res59 (fun (s61 : Int) (x62 : Unit) => [(4, (.pointer (some ⟨g7, 0, none⟩))), (5, (.int .i64 s23.1)), (7, (.int .i64 a26)), (8, (.int .i64 s61)), (15, (.slice A2 x0.length c3)), (16, (.int .i64 (x0.length : Int))), (17, (.int .i64 (k25 : Int)))]) (fun s61 x62 w' => ∃ O' : Lab, Bm w O0 w' O' ∧ Ob 2 w' O' (.pointer (some ⟨g7, 0, none⟩)) s23.2 ∧ Vb w' (Fr 0 w' O') (.slice A2 x0.length c3) x0 ∧ inI64 s61)) ?_ ?_
    ·
     refine ewp_block (ewp_lop (σ := Int) (X := Unit) hL60 (fun (s61 : Int) (x62 : Unit) => [(4, (.pointer (some ⟨g7, 0, none⟩))), (5, (.int .i64 s23.1)), (7, (.int .i64 a26)), (8, (.int .i64 s61)), (15, (.slice A2 x0.length c3)), (16, (.int .i64 (x0.length : Int))), (17, (.int .i64 (k25 : Int)))]) _ (fun s61 x62 w' => ∃ O' : Lab, Bm w O0 w' O' ∧ Ob 2 w' O' (.pointer (some ⟨g7, 0, none⟩)) s23.2 ∧ Vb w' (Fr 0 w' O') (.slice A2 x0.length c3) x0 ∧ inI64 s61) _ () ⟨O56, hB, h39, hx0, (show inI64 (0) from by decide)⟩ ⟨rfl, rfl, rfl, rfl, rfl, rfl, rfl, trivial⟩ ?_)
     rintro s61 x62 w65 cc67 ⟨O66, hB, h39, hx0, r75⟩ hf69 hret70 hbrk71
     refine ewp_seq (ewp_seq (ewp_region (o_mv rfl rfl ?_)))
     obtain ⟨n76, e77, hf69⟩ := bs hf69
     have r78 := shlI_rng e77
     refine o_ish (he := e77) rfl rfl rfl ?_
     refine o_mv rfl rfl (o_ltS rfl rfl rfl (fun c79 => ?_) fun c79 => ?_)
     ·
      replace hf69 := ip hf69 c79
      refine o_z ?_
      refine ewp_true rfl (ewp_skip (ewp_block (ewp_region (o_mv rfl rfl ?_))))
      obtain ⟨n80, e81, hf69⟩ := bs hf69
      have r82 := (chkI_rng e81)
      refine o_adE (he := e81) rfl rfl rfl ?_
      refine o_as rfl rfl (o_z ?_)
      obtain rfl := sm hf69
      refine (?_ : Exists _)
      exact ⟨_, (), rfl, ⟨rfl, rfl, rfl, rfl, rfl, rfl, rfl, trivial⟩, _, hB, h39, hx0, r82⟩
     ·
      replace hf69 := im hf69 c79
      refine o_z ?_
      refine ewp_false rfl (ewp_exit ?_)
      obtain rfl := sm hf69
      refine (?_ : Exists _)
      exact ⟨_, (), hbrk71 _ rfl, ⟨rfl, rfl, rfl, rfl, rfl, rfl, rfl, trivial⟩, _, hB, h39, hx0, r75⟩
    rintro l83 w84 ⟨s87, x88, rfl, hs86, O85, hB, h39, hx0, r75⟩
    replace hf31 := fin_done hf31
    refine ewp_sub _ hs86 ?_
    refine ewp_seq ?_
    obtain ⟨y89, hy90, hf31⟩ := bs hf31
    refine ewp_join (fun l' w' => ∃ (x92 : Unit) (O' : Lab), subs l' [(4, (.pointer (some ⟨g7, 0, none⟩))), (5, (.int .i64 y89.1)), (7, (.int .i64 a26)), (8, (.int .i64 s87)), (15, (.slice A2 x0.length c3)), (16, (.int .i64 (x0.length : Int))), (17, (.int .i64 (k25 : Int)))] ∧ Bm w O0 w' O' ∧ Ob 2 w' O' (.pointer (some ⟨g7, 0, none⟩)) y89.2 ∧ Vb w' (Fr 0 w' O') (.slice A2 x0.length c3) x0 ∧ inI64 y89.1) ?_ ?_
    ·
     refine ewp_seq (ewp_region (o_mv rfl rfl (o_mv rfl rfl ?_)))
     obtain ⟨n95, e96, hy90⟩ := bs hy90
     have r97 := (chkI_rng e96)
     refine o_adE (he := e96) rfl rfl rfl ?_
     refine o_gtS rfl rfl rfl (fun c98 => ?_) fun c98 => ?_
     ·
      replace hy90 := ip hy90 c98
      refine o_z ?_
      refine ewp_true rfl (ewp_seq (ewp_region (o_mv rfl rfl (o_nc rfl rfl ?_))))
      obtain ⟨O99, v103, S100, ha102, h101, h104, r108⟩ := Pkr.opn h39 2 4 (by decide)
      obtain ⟨A105, c106, rfl⟩ := h104.form
      refine o_fa rfl rfl (o_ld (hc := Blk.cell (i := 1) (h101.1) rfl) rfl rfl ?_)
      obtain ⟨n109, e110, hy90⟩ := bs hy90
      have r111 := (chkI_rng e110)
      refine o_adE (he := e110) rfl rfl rfl ?_
      refine o_nc rfl rfl (o_fa rfl rfl (l_store h101 rfl rfl rfl (Nat.le_of_ble_eq_true rfl) (by first | exact allOne rfl | simp [Value.cells, Value.oneCell', errV_one]) fun w112 S113 h101 => ?_))
      replace h101 : Lc 2 w112 O99 g7 128 [(.slice A105 s23.2.fields.length c106), (.int .i64 n109)] := h101
      refine o_z ?_
      refine ewp_region (o_as rfl rfl (o_z ?_))
      replace h104 := h104.st S113
      obtain ⟨O114, S115, hz117, ha118, h116⟩ := Pkr.shut (x := (⟨s23.2.fields, n109⟩ : Pkr)) (l0 := 2) (l1 := 4) (by decide) h101 h104 r111
      obtain rfl := sm hy90
      replace hB := ((hB.st S100).st S113).st S115
      replace hx0 := ((hx0.st S100).st S113).st S115
      exact ⟨(), _, ⟨rfl, rfl, rfl, rfl, rfl, rfl, rfl, trivial⟩, hB, h116, hx0, (show inI64 (0) from by decide)⟩
     ·
      replace hy90 := im hy90 c98
      refine o_z ?_
      refine ewp_false rfl (ewp_skip ?_)
      obtain rfl := sm hy90
      exact ⟨(), _, ⟨rfl, rfl, rfl, rfl, rfl, rfl, rfl, trivial⟩, hB, h39, hx0, r38⟩
    rintro l119 w120 ⟨x92, O121, hs122, hB, h94, hx0, r93⟩
    refine ewp_sub _ hs122 ?_
    refine ewp_seq ?_
    obtain ⟨O123, v127, S124, ha126, h125, h128, r132⟩ := Pkr.opn h94 2 4 (by decide)
    obtain ⟨A129, c130, rfl⟩ := h128.form
    refine ewp_drawX [(14, []), (15, [4])] O123 ?_
    refine x_pre (fuel := 6) [] [(1, true), (2, true), (3, true), (4, true), (5, true), (6, true), (7, true), (8, true), (9, true), (10, true), (11, true), (12, true), (13, true)] (by kernel_rfl) rfl ?_
    refine h_mv rfl rfl rfl (h_nc rfl rfl rfl (h_fa rfl rfl rfl (h_ldC (hc := fun w' ⟨O', hq⟩ => Blk.cell (i := 0) ((h125.st hq (by decide)).1) rfl) rfl rfl rfl ?_)))
    refine h_mv rfl rfl rfl (h_nc rfl rfl rfl (h_fa rfl rfl rfl (h_ldC (hc := fun w' ⟨O', hq⟩ => Blk.cell (i := 1) ((h125.st hq (by decide)).1) rfl) rfl rfl rfl ?_)))
    obtain ⟨n133, e134, hf31⟩ := bs hf31
    have r135 := (chkI_rng e134)
    refine h_sbE (he := e134) rfl rfl rfl rfl ?_
    refine h_mv rfl rfl rfl (h_mv rfl rfl rfl (h_mv rfl rfl rfl (h_bd rfl rfl rfl rfl ?_)))
    refine hwp_nilT ?_
    refine x_pre (fuel := 5) [4] [(0, true)] (by kernel_rfl) rfl ?_
    refine h_mv rfl rfl rfl (hwp_nilT ?_)
    refine x_one (i := 14) (by kernel_rfl) rfl ?_
    refine l_bslice 5 (by decide) O123 (xs := ([(⟨n133, y89.1, s87, a26⟩ : PFd)] : List PFd)) rfl rfl rfl rfl ⟨(Vb.ofAgg (cs := [(.int .i64 n133), (.int .i64 y89.1), (.int .i64 s87), (.int .i64 a26)]) (x := (⟨n133, y89.1, s87, a26⟩ : PFd)) rfl ⟨rfl, r135, r93, r75, r47⟩), trivial⟩ (by decide) (by decide) rfl fun g136 w137 O138 S139 h140 => ?_
    have hZ := S139.lst [] (fun _ h => h.elim)
    refine x_go [(15, [4])] hZ (by kernel_rfl) ?_
    refine x_one (i := 15) (by kernel_rfl) rfl ?_
    obtain ⟨u142, e143, hf31⟩ := bs hf31
    obtain ⟨e143, e144, e145⟩ := appI_some e143
    replace h128 := h128.st S139
    refine l_append rfl h128 (h140.rd) rfl rfl (by decide) e144 e145 rfl fun A146 c147 w148 O149 S150 h151 => ?_
    rw [← e143] at h151 ⊢
    have hZ := S150.lst [4] (fun _ h => by cases h; decide)
    refine x_go [] hZ (by kernel_rfl) ?_
    refine x_pre (fuel := 1) [] [(16, true), (17, true)] (by kernel_rfl) rfl ?_
    refine h_nc rfl rfl rfl (h_fa rfl rfl rfl (hwp_nilT ?_))
    refine x_one (i := 18) (by kernel_rfl) rfl ?_
    replace h125 := (h125.st S139).st S150
    refine l_store h125 rfl rfl rfl (Nat.le_of_ble_eq_true rfl) (by first | exact allOne rfl | simp [Value.cells, Value.oneCell', errV_one]) fun w153 S154 h125 => ?_
    replace h125 : Lc 2 w153 O149 g7 128 [(.slice A146 u142.length c147), (.int .i64 y89.2.words)] := h125
    refine x_end (by kernel_rfl) ?_
    refine x_nil (by kernel_rfl) ?_
    refine ewp_region (o_mv rfl rfl (o_mv rfl rfl ?_))
    obtain ⟨n155, e156, hf31⟩ := bs hf31
    have r157 := (chkI_rng e156)
    refine o_adE (he := e156) rfl rfl rfl ?_
    refine o_as rfl rfl (o_z ?_)
    replace h151 := h151.st S154
    obtain ⟨O158, S159, hz161, ha162, h160⟩ := Pkr.shut (x := (⟨u142, y89.2.words⟩ : Pkr)) (l0 := 2) (l1 := 4) (by decide) h125 h151 r132
    obtain rfl := sm hf31
    refine (?_ : Exists _)
    replace hB := ((((hB.st S124).st S139).st S150).st S154).st S159
    replace hx0 := ((((hx0.st S124).st S139).st S150).st S154).st S159
    exact ⟨_, (), rfl, ⟨rfl, rfl, rfl, rfl, rfl, trivial⟩, _, hB, h160, hx0, r157⟩
  replace hB := (hB.st S10).st S17
  rintro l163 w164 ⟨s167, x168, rfl, hs166, O165, hB, h39, r38⟩
  replace hm := fin_done hm
  refine ewp_sub _ hs166 ?_
  refine ewp_seq (ewp_region (o_mv rfl rfl (o_as rfl rfl (o_as rfl rfl (o_z ?_)))))
  refine ewp_ret ?_
  obtain rfl := sm hm
  obtain ⟨O', hS', hz, hl⟩ := hE.leave (fun q => if q = 2 then j0 else 0) rfl hB
  exact ret2 rfl (res_tmp rfl) (res_tmp rfl) ⟨O', hS', _, _, rfl, (Ob.leave h39 hz (hl 2 (by decide) (by decide)) hj0), (vErr (show inI64 0 from by decide))⟩
noncomputable def m_pack_field_mask (x0 : PFd) : Option U64 :=
  bnd (shlU (1 : U64) x0.width) fun n12 => bnd (shlU (n12 - (1 : U64)) x0.bit) fun n14 => some n14
theorem c_pack_field_mask {w : World} {A : Nat → Prop} (hA : ∀ k, A k → k < w.heap.size) {vx0 : Value} {x0 : PFd} (hx0 : Vb w A vx0 x0) {r : U64} (hm : m_pack_field_mask x0 = some r) :
    Fn Try.prog 102 [vx0] w fun v w' => Ext w w' ∧ Vb w' (upA A w w') v r := by
 obtain ⟨O, hB, hA0⟩ := enter hA
 replace hx0 := hx0.mono hA0
 obtain ⟨cs2, rfl, rfl, r3, r4, r5, r6⟩ := hx0
 refine fn_enter Try.func102 rfl Try.ntmps102 rfl ?_
 unfold m_pack_field_mask at hm
 refine ewp_seq (ewp_region (l_box 2 O rfl rfl fun g7 w8 O9 S10 h11 => ?_))
 replace h11 : Lc 2 w8 O9 g7 130 [(.int .i64 x0.word), (.int .i64 x0.bit), (.int .i64 x0.width), (.int .i64 x0.size)] := h11
 refine o_as rfl rfl (o_z ?_)
 refine ewp_seq (ewp_draw (· = w8) [(0, true), (1, true), (2, true), (3, true), (4, true), (5, true), (6, true), (7, true)] (by kernel_rfl) rfl (by kernel_rfl) rfl ?_)
 refine h_fa rfl rfl rfl (h_ldA (hc := Blk.cell (i := 2) (h11.1) rfl) rfl rfl rfl ?_)
 obtain ⟨n12, e13, hm⟩ := bs hm
 refine h_ush (a := (1 : U64)) (he := e13) rfl rfl rfl rfl ?_
 refine h_usb (a := n12) (b := (1 : U64)) rfl rfl rfl rfl ?_
 refine h_fa rfl rfl rfl (h_ldA (hc := Blk.cell (i := 1) (h11.1) rfl) rfl rfl rfl ?_)
 obtain ⟨n14, e15, hm⟩ := bs hm
 refine h_ush (a := (n12 - (1 : U64))) (he := e15) rfl rfl rfl rfl ?_
 refine h_as rfl rfl rfl (h_z ?_)
 refine ewp_ret ?_
 obtain rfl := sm hm
 replace hB := hB.st S10
 exact ret1v rfl (res_tmp rfl) ⟨hB.ext, vU64⟩
noncomputable def m_pack_field_get (x0 : PFd) (x1 : List U64) : Option Int :=
  bnd (atI x1 x0.word) fun a15 => bnd (m_pack_field_mask x0) fun q26 => bnd (shrU (a15 &&& q26) x0.bit) fun n33 => some n33.toInt
theorem c_pack_field_get {w : World} {A : Nat → Prop} (hA : ∀ k, A k → k < w.heap.size) {vx0 : Value} {x0 : PFd} (hx0 : Vb w A vx0 x0) {vx1 : Value} {x1 : List U64} (hx1 : Vb w A vx1 x1) {r : Int} (hm : m_pack_field_get x0 x1 = some r) :
    Fn Try.prog 101 [vx0, vx1] w fun v w' => Ext w w' ∧ Vb w' (upA A w w') v r := by
 obtain ⟨O, hB, hA0⟩ := enter hA
 replace hx0 := hx0.mono hA0
 obtain ⟨cs3, rfl, rfl, r4, r5, r6, r7⟩ := hx0
 replace hx1 := hx1.mono hA0
 obtain ⟨A8, c9, rfl⟩ := hx1.form
 refine fn_enter Try.func101 rfl Try.ntmps101 rfl ?_
 unfold m_pack_field_get at hm
 refine ewp_seq (ewp_region (l_box 2 O rfl rfl fun g10 w11 O12 S13 h14 => ?_))
 replace h14 : Lc 2 w11 O12 g10 130 [(.int .i64 x0.word), (.int .i64 x0.bit), (.int .i64 x0.width), (.int .i64 x0.size)] := h14
 refine o_as rfl rfl (o_z ?_)
 refine ewp_seq (ewp_drawX [(6, [])] O12 ?_)
 refine x_pre (fuel := 5) [] [(0, true), (1, true), (2, true), (3, true), (4, true), (5, true), (8, true), (9, true)] (by kernel_rfl) rfl ?_
 refine h_mv rfl rfl rfl (h_fa rfl rfl rfl (h_ldC (hc := fun w' ⟨O', hq⟩ => Blk.cell (i := 0) ((h14.st hq (by decide)).1) rfl) rfl rfl rfl ?_))
 obtain ⟨a15, e16, hm⟩ := bs hm
 obtain ⟨p18, x17⟩ := atI_some' e16
 replace hx1 := hx1.st S13
 obtain ⟨b19, o20, ce21, hA22, hF25, hl23, hd24, rfl⟩ := hx1.elem x17
 refine h_iaE (hA := hA22) (hj := (Int.toNat_of_nonneg p18).symm) (hlt := hl23) rfl rfl rfl rfl ?_
 refine h_ldC (hc := fun w' ⟨O', hq⟩ => cat0 (cellsAt_agree (hq.agree (i := 0) (by decide)) hF25 hd24)) rfl rfl rfl ?_
 refine h_laB (hl := rfl) (hb := fun w' ⟨O', hq⟩ => ((h14.st hq (by decide)).1).cellsAt) rfl rfl rfl ?_
 refine h_fa rfl rfl rfl (h_ldC (hc := fun w' ⟨O', hq⟩ => Blk.cell (i := 1) ((h14.st hq (by decide)).1) rfl) rfl rfl rfl ?_)
 refine hwp_nilT ?_
 refine x_one (i := 6) (by kernel_rfl) rfl ?_
 obtain ⟨q26, e27, hm⟩ := bs hm
 refine l_callA (O := O12) (A := All w11) (R := fun w' F v => Vb w' F v q26) (c_pack_field_mask (fun _ h => h) (Vb.mono (F := Fr 0 w11 O12) (Vb.ofAgg (cs := [(.int .i64 x0.word), (.int .i64 x0.bit), (.int .i64 x0.width), (.int .i64 x0.size)]) (x := x0) rfl ⟨rfl, r4, r5, r6, r7⟩) Fr.lt) e27) rfl rfl fun v32 w28 O29 S30 h31 => ?_
 obtain rfl := h31.u64
 have hZ := S30.lst [] (fun _ h => h.elim)
 refine x_go [] hZ (by kernel_rfl) ?_
 refine x_pre (fuel := 0) [] [(7, true), (10, true), (11, true), (12, true)] (by kernel_rfl) rfl ?_
 refine h_uan (a := a15) (b := q26) rfl rfl rfl rfl ?_
 obtain ⟨n33, e34, hm⟩ := bs hm
 refine h_usr (a := (a15 &&& q26)) (he := e34) rfl rfl rfl rfl ?_
 refine h_cvI (a := n33) rfl rfl rfl ?_
 refine h_as rfl rfl rfl (hwp_nilT ?_)
 refine x_nil (by kernel_rfl) ?_
 refine ewp_ret ?_
 obtain rfl := sm hm
 replace hB := (hB.st S13).st S30
 exact ret1v rfl (res_tmp rfl) ⟨hB.ext, (vInt (toIntR _))⟩
noncomputable def m_pack_Packer_Pack (x0 : Pkr) (x1 : List Int) : Option ((List U64) × Err) :=
  if (x1.length : Int) ≠ (x0.fields.length : Int) then (some (([] : List U64), (⟨2⟩ : Err))) else (bnd (mkI 8 ((0 : U64) : U64) x0.words) fun u25 => bnd (rng (ρ := (List U64) × Err) (fun (k50 : Nat) (a51 : PFd) (s48 : (List U64)) => bnd (bnd (x1[k50]?) fun a87 => if a87 < 0 then (some true) else (bnd (x1[k50]?) fun a98 => if a51.size ≤ a98 then (some true) else (some false)) : Option Bool) fun y83 => if y83 = true then (some (.ret (([] : List U64), (⟨2⟩ : Err)))) else (bnd (atI s48 a51.word) fun a114 => bnd (x1[k50]?) fun a125 => bnd (shlU (BitVec.ofInt 64 a125) a51.bit) fun n135 => bnd (atI s48 a51.word) fun a137 => some (.next (s48.set (a51.word : Int).toNat (a114 ||| n135))))) x0.fields 0 u25) fun res46 => fin res46 fun (s154 : (List U64)) => some (s154, (⟨0⟩ : Err)))
theorem c_pack_Packer_Pack {w : World} {O : Lab} {p0 i0 : Nat} {x0 : Pkr} (hx0 : Ob i0 w O (.pointer (some ⟨p0, 0, none⟩)) x0) {vx1 : Value} {x1 : List Int} (hx1 : Vb w (Fr 0 w O) vx1 x1) {r : (List U64) × Err} (hm : m_pack_Packer_Pack x0 x1 = some r) :
    Fn Try.prog 96 [(.pointer (some ⟨p0, 0, none⟩)), vx1] w fun v w' => ∃ O', St (eT i0) w O w' O' ∧ ∃ v0 v1 : Value, Ob i0 w' O' (.pointer (some ⟨p0, 0, none⟩)) x0 ∧ v = .tuple #[v0, v1] ∧ Vb w' (Fr 0 w' O') v0 r.1 ∧ Vb w' (Fr 0 w' O') v1 r.2 := by
 obtain ⟨O0, hE, hz0, hl2⟩ := ent1 (w := w) (O := O) hx0.2
 have hx0' := Ob.leave hx0 hz0 hl2 (j := 2) (by decide)
 have hB : Bm w O0 w O0 := Bm.refl
 replace hx1 := hx1.mono hz0
 obtain ⟨A3, c4, rfl⟩ := hx1.form
 refine fn_enter Try.func96 rfl Try.ntmps96 rfl ?_
 unfold m_pack_Packer_Pack at hm
 refine ewp_seq (ewp_region (o_as rfl rfl (o_as rfl rfl (o_z ?_))))
 refine ewp_seq (ewp_seq (ewp_region (o_mv rfl rfl (o_pn rfl rfl ?_))))
 refine o_z ?_
 refine ewp_false rfl (ewp_skip (ewp_seq (ewp_seq (ewp_region (o_mv rfl rfl (o_ln rfl rfl ?_))))))
 have l6 : x1.length ≤ 9223372036854775807 := Nat.le_trans hx1.len.2.1 hx1.len.2.2
 have r5 : inI64 (x1.length : Int) := rngNat l6
 refine o_mv rfl rfl (o_nc rfl rfl ?_)
 obtain ⟨O7, v11, S8, ha10, h9, h12, r16⟩ := Pkr.opn hx0' 2 3 (by decide)
 obtain ⟨A13, c14, rfl⟩ := h12.form
 refine o_fa rfl rfl (o_ld (hc := Blk.cell (i := 0) (h9.1) rfl) rfl rfl ?_)
 refine o_ln rfl rfl ?_
 have l18 : x0.fields.length ≤ 9223372036854775807 := Nat.le_trans h12.len.2.1 h12.len.2.2
 have r17 : inI64 (x0.fields.length : Int) := rngNat l18
 refine o_neS rfl rfl rfl (fun c19 => ?_) fun c19 => ?_
 ·
  replace hm := ip hm c19
  refine o_z ?_
  refine ewp_true rfl (ewp_seq (ewp_region (o_miE rfl rfl ?_)))
  refine o_as rfl rfl (o_as rfl rfl (o_z ?_))
  refine ewp_ret ?_
  obtain ⟨O20, S21, hz23, ha24, h22⟩ := Pkr.shut (x := x0) (l0 := 2) (l1 := 3) (by decide) h9 h12 r16
  obtain rfl := sm hm
  replace hB := (hB.st S8).st S21
  obtain ⟨O', hS', hz, hl⟩ := hE.leave (fun q => if q = 2 then i0 else 0) rfl hB
  exact ret2 rfl (res_tmp rfl) (res_tmp rfl) ⟨O', hS', _, _, (Ob.leave h22 hz (hl 2 (by decide) (by decide)) hx0.2), rfl, (Vb.mono (Vb.nil _ _) hz), (vErr (by decide))⟩
 ·
  replace hm := im hm c19
  refine o_z ?_
  refine ewp_false rfl (ewp_skip (ewp_seq (ewp_region (o_mv rfl rfl (o_nc rfl rfl (o_fa rfl rfl (o_ld (hc := Blk.cell (i := 1) (h9.1) rfl) rfl rfl ?_)))))))
  obtain ⟨u25, e26, hm⟩ := bs hm
  obtain ⟨m27, e28, e29, e30, e31⟩ := mkI_some e26
  refine l_make 4 (by decide) O7 (z0 := ((0 : U64) : U64)) rfl rfl rfl rfl rfl e28 vU64 e29 e30 rfl fun g32 w33 O34 S35 h36 => ?_
  rw [← e31] at h36 ⊢
  refine o_as rfl rfl (o_z ?_)
  refine ewp_seq (ewp_seq (ewp_region (o_mv rfl rfl (o_nc rfl rfl (o_fa rfl rfl ?_)))))
  replace h9 := h9.st S35
  refine o_ld (hc := Blk.cell (i := 0) (h9.1) rfl) rfl rfl ?_
  refine o_ln rfl rfl ?_
  replace h12 := h12.st S35
  have l39 : x0.fields.length ≤ 9223372036854775807 := Nat.le_trans h12.len.2.1 h12.len.2.2
  have r38 : inI64 (x0.fields.length : Int) := rngNat l39
  refine o_mv rfl rfl (o_z ?_)
  obtain ⟨O40, S41, hz43, ha44, h42⟩ := Pkr.shut (x := x0) (l0 := 2) (l1 := 3) (by decide) h9 h12 r16
  have h45 := (h12.lend [3] (by decide)).shutS S41 hz43 ha44 [2] (by decide)
  obtain ⟨res46, hL47, hm⟩ := bs hm
  refine ewp_join (aft res46 (fun (s48 : (List U64)) (x49 : Unit) => [(6, (.slice (some ⟨g32, 0, none⟩) u25.length m27))]) (fun s48 x49 w' => ∃ O' : Lab, Bm w O0 w' O' ∧ Rw 4 w' O' 158 (.slice (some ⟨g32, 0, none⟩) u25.length m27) s48 ∧ Ob 2 w' O' (.pointer (some ⟨p0, 0, none⟩)) x0)) ?_ ?_
  ·
   refine ewp_block ?_
   replace hB := ((hB.st S8).st S35).st S41
   replace hx1 := ((hx1.st S8).st S35).st S41
   replace h36 := h36.st S41
   refine ewp_rng (σ := (List U64)) (X := Unit) (x0.fields.length) hL47 rfl l39 (fun (s48 : (List U64)) (x49 : Unit) => [(1, (.slice A3 x1.length c4)), (6, (.slice (some ⟨g32, 0, none⟩) u25.length m27)), (29, (.slice A13 x0.fields.length c14))]) _ (fun s48 x49 w' => ∃ O' : Lab, Bm w O0 w' O' ∧ Vb w' (Fr 0 w' O') (.slice A3 x1.length c4) x1 ∧ Rw 4 w' O' 158 (.slice (some ⟨g32, 0, none⟩) u25.length m27) s48 ∧ Vb w' (FrS [2] w' O') (.slice A13 x0.fields.length c14) x0.fields ∧ Ob 2 w' O' (.pointer (some ⟨p0, 0, none⟩)) x0) _ () ⟨O40, hB, hx1, h36, h45, h42⟩ ⟨rfl, rfl, rfl, rfl, rfl, trivial⟩ (fun _ _ => ⟨rfl, rfl⟩) (fun _ _ => ⟨rfl, trivial⟩) (fun _ _ _ ⟨O', hB, hx1, h63, h45, h42⟩ => ⟨O', hB, h63, h42⟩) ⟨rfl, rfl, rfl⟩ ⟨rfl, rfl⟩ ?_
   rintro k50 a51 s48 x49 w52 cc54 hx55 ⟨O53, hB, hx1, h63, h45, h42⟩ hf56 hret57 hbrk58
   have rk50 : inI64 (k50 : Int) := rngK hx55 l39
   refine ewp_seq (ewp_region (o_mv rfl rfl ?_))
   obtain ⟨b65, o66, ce67, hA68, hl69, hd70, rfl, r72, r73, r74, r75⟩ := h45.elem' hx55
   refine o_iaE (hA := hA68) (hj := rfl) (hlt := hl69) rfl rfl rfl ?_
   refine o_la (hl := rfl) (hc := hd70) rfl rfl ?_
   refine l_alloc 5 O53 rfl fun g76 w77 O78 S79 h80 => ?_
   replace h45 := h45.stS S79 id (fun _ _ => id)
   refine o_as rfl rfl (l_store h80 rfl rfl rfl (Nat.le_of_ble_eq_true rfl) (by first | exact allOne rfl | simp [Value.cells, Value.oneCell', errV_one]) fun w81 S82 h80 => ?_)
   replace h80 : Lc 5 w81 O78 g76 130 [(.int .i64 a51.word), (.int .i64 a51.bit), (.int .i64 a51.width), (.int .i64 a51.size)] := h80
   replace h45 := h45.stS S82 (by decide) (by decide)
   refine o_z ?_
   refine ewp_seq (ewp_seq ?_)
   obtain ⟨y83, hy84, hf56⟩ := bs hf56
   refine ewp_join (fun l' w' => ∃ (x86 : Unit) (O' : Lab), subs l' [(1, (.slice A3 x1.length c4)), (6, (.slice (some ⟨g32, 0, none⟩) u25.length m27)), (7, (.int .i64 (k50 : Int))), (8, (.pointer (some ⟨g76, 0, none⟩))), (29, (.slice A13 x0.fields.length c14)), (30, (.int .i64 (x0.fields.length : Int))), (31, (.int .i64 (k50 : Int))), (49, (.bool y83))] ∧ Bm w O0 w' O' ∧ Vb w' (Fr 0 w' O') (.slice A3 x1.length c4) x1 ∧ Rw 4 w' O' 158 (.slice (some ⟨g32, 0, none⟩) u25.length m27) s48 ∧ Lc 5 w' O' g76 130 [(.int .i64 a51.word), (.int .i64 a51.bit), (.int .i64 a51.width), (.int .i64 a51.size)] ∧ Vb w' (FrS [2] w' O') (.slice A13 x0.fields.length c14) x0.fields ∧ Ob 2 w' O' (.pointer (some ⟨p0, 0, none⟩)) x0) ?_ ?_
   ·
    refine ewp_draw (· = w81) [(0, true), (1, true), (2, true), (3, true), (4, true), (5, true), (6, true), (7, true), (8, true), (9, true), (10, true), (11, true), (12, true), (13, true)] (by kernel_rfl) rfl (by kernel_rfl) rfl ?_
    refine h_mv rfl rfl rfl (h_mv rfl rfl rfl ?_)
    obtain ⟨a87, e88, hy84⟩ := bs hy84
    replace hx1 := (hx1.st S79).st S82
    obtain ⟨b89, o90, ce91, hA92, hl93, hd94, rfl, r96⟩ := hx1.elem' e88
    refine h_iaE (hA := hA92) (hj := rfl) (hlt := hl93) rfl rfl rfl rfl ?_
    refine h_ldA (hc := cat0 hd94) rfl rfl rfl ?_
    refine h_ltS rfl rfl rfl rfl (fun c97 => ?_) fun c97 => ?_
    ·
     replace hy84 := ip hy84 c97
     refine h_mv rfl rfl rfl (h_no rfl rfl rfl rfl rfl (h_no rfl rfl rfl rfl rfl (h_no rfl rfl rfl rfl rfl (h_no rfl rfl rfl rfl rfl (h_no rfl rfl rfl rfl rfl (h_no rfl rfl rfl rfl rfl (h_no rfl rfl rfl rfl rfl (h_pt rfl rfl rfl rfl (h_z ?_)))))))))
     obtain rfl := sm hy84
     replace hB := (hB.st S79).st S82
     replace h42 := (h42.st S79).st S82
     replace h63 := (h63.st S79).st S82
     exact ⟨(), _, ⟨rfl, rfl, rfl, rfl, rfl, rfl, rfl, rfl, trivial⟩, hB, hx1, h63, h80, h45, h42⟩
    ·
     replace hy84 := im hy84 c97
     refine h_mv rfl rfl rfl (hwp_o rfl (hwq_yes rfl rfl (g_mv rfl rfl (hwp_o rfl (hwq_yes rfl rfl (g_mv rfl rfl (hwp_o rfl (hwq_yes rfl rfl ?_))))))))
     obtain ⟨a98, e99, hy84⟩ := bs hy84
     obtain ⟨b100, o101, ce102, hA103, hl104, hd105, rfl, r107⟩ := hx1.elem' e99
     refine g_iaE (hA := hA103) (hj := rfl) (hlt := hl104) rfl rfl rfl ?_
     refine hwp_o rfl (hwq_yes rfl rfl (g_ldA (hc := cat0 hd105) rfl rfl ?_))
     refine hwp_o rfl (hwq_yes rfl rfl (g_fa rfl rfl (hwp_o rfl (hwq_yes rfl rfl (g_ldA (hc := Blk.cell (i := 3) (h80.1) rfl) rfl rfl ?_)))))
     refine hwp_o rfl (hwq_yes rfl rfl (hwq_split (fun _ _ => ev_geq rfl rfl) rfl (fun c108 => ?_) (fun c108 => ?_)))
     ·
      replace hy84 := ip hy84 c108
      refine h_pf rfl rfl rfl rfl (h_z ?_)
      obtain rfl := sm hy84
      replace hB := (hB.st S79).st S82
      replace h42 := (h42.st S79).st S82
      replace h63 := (h63.st S79).st S82
      exact ⟨(), _, ⟨rfl, rfl, rfl, rfl, rfl, rfl, rfl, rfl, trivial⟩, hB, hx1, h63, h80, h45, h42⟩
     ·
      replace hy84 := im hy84 c108
      refine h_pf rfl rfl rfl rfl (h_z ?_)
      obtain rfl := sm hy84
      replace hB := (hB.st S79).st S82
      replace h42 := (h42.st S79).st S82
      replace h63 := (h63.st S79).st S82
      exact ⟨(), _, ⟨rfl, rfl, rfl, rfl, rfl, rfl, rfl, rfl, trivial⟩, hB, hx1, h63, h80, h45, h42⟩
   replace hB := (hB.st S79).st S82
   replace hx1 := (hx1.st S79).st S82
   replace h42 := (h42.st S79).st S82
   replace h63 := (h63.st S79).st S82
   rintro l109 w110 ⟨x86, O111, hs112, hB, hx1, h63, h80, h45, h42⟩
   refine ewp_sub _ hs112 ?_
   refine ewp_cond rfl (fun c113 => ?_) (fun c113 => ?_)
   ·
    replace hf56 := ip hf56 c113
    refine ewp_seq (ewp_region (o_miE rfl rfl ?_))
    refine o_as rfl rfl (o_as rfl rfl (o_z ?_))
    refine ewp_ret ?_
    obtain rfl := sm hf56
    obtain rfl := hret57 _ rfl
    obtain rfl := sm (fin_ret hm)
    obtain ⟨O', hS', hz, hl⟩ := hE.leave (fun q => if q = 2 then i0 else 0) rfl hB
    exact ret2 rfl (res_tmp rfl) (res_tmp rfl) ⟨O', hS', _, _, (Ob.leave h42 hz (hl 2 (by decide) (by decide)) hx0.2), rfl, (Vb.mono (Vb.nil _ _) hz), (vErr (by decide))⟩
   ·
    replace hf56 := im' hf56 c113
    refine ewp_skip (ewp_drawX [] O111 ?_)
    refine x_pre (fuel := 1) [] [(0, true), (1, true), (2, true), (3, true), (4, true), (5, true), (6, true), (7, true), (8, true), (9, true), (10, true), (11, true), (12, true), (13, true), (14, true)] (by kernel_rfl) rfl ?_
    refine h_mv rfl rfl rfl (h_fa rfl rfl rfl (h_ldC (hc := fun w' ⟨O', hq⟩ => Blk.cell (i := 0) ((h80.st hq (by decide)).1) rfl) rfl rfl rfl ?_))
    obtain ⟨a114, e115, hf56⟩ := bs hf56
    obtain ⟨p117, x116⟩ := atI_some' e115
    obtain ⟨b118, o119, ce120, hA121, hF124, hl122, hd123, rfl⟩ := h63.elemF x116
    refine h_iaE (hA := hA121) (hj := (Int.toNat_of_nonneg p117).symm) (hlt := hl122) rfl rfl rfl rfl ?_
    refine h_ldC (hc := fun w' ⟨O', hq⟩ => cat0 (cellsAt_agree (hq.agree (i := 4) (by decide)) hF124 hd123)) rfl rfl rfl ?_
    refine h_mv rfl rfl rfl (h_mv rfl rfl rfl ?_)
    obtain ⟨a125, e126, hf56⟩ := bs hf56
    obtain ⟨b127, o128, ce129, hA130, hF133, hl131, hd132, rfl, r134⟩ := hx1.elem e126
    refine h_iaE (hA := hA130) (hj := rfl) (hlt := hl131) rfl rfl rfl rfl ?_
    refine h_ldC (hc := fun w' ⟨O', hq⟩ => cat0 (cellsAt_agree (hq.agree (i := 0) (by decide)) hF133 hd132)) rfl rfl rfl ?_
    refine h_cvU rfl rfl rfl ?_
    refine h_fa rfl rfl rfl (h_ldC (hc := fun w' ⟨O', hq⟩ => Blk.cell (i := 1) ((h80.st hq (by decide)).1) rfl) rfl rfl rfl ?_)
    obtain ⟨n135, e136, hf56⟩ := bs hf56
    refine h_ush (a := (BitVec.ofInt 64 a125)) (he := e136) rfl rfl rfl rfl ?_
    refine h_uor (a := a114) (b := n135) rfl rfl rfl rfl ?_
    obtain ⟨a137, e138, hf56⟩ := bs hf56
    obtain ⟨p140, x139⟩ := atI_some' e138
    obtain ⟨b141, o142, ce143, hA144, hF147, hl145, hd146, rfl⟩ := h63.elemF x139
    refine h_iaE (hA := hA144) (hj := (Int.toNat_of_nonneg p140).symm) (hlt := hl145) rfl rfl rfl rfl ?_
    refine hwp_nilT ?_
    refine x_one (i := 15) (by kernel_rfl) rfl ?_
    refine l_setE rfl h63 (a := (a114 ||| n135)) vU64 hA144 rfl rfl (lt_of_get x139) fun w148 S149 h63 => ?_
    replace h45 := h45.stS S149 (by decide) (by decide)
    refine x_end (by kernel_rfl) ?_
    refine x_nil (by kernel_rfl) ?_
    obtain rfl := sm hf56
    refine (?_ : Exists _)
    replace hB := hB.st S149
    replace hx1 := hx1.st S149
    replace h42 := h42.st S149
    exact ⟨_, (), rfl, ⟨rfl, rfl, rfl, rfl, rfl, trivial⟩, _, hB, hx1, h63, h45, h42⟩
  replace hB := ((hB.st S8).st S35).st S41
  rintro l150 w151 ⟨s154, x155, rfl, hs153, O152, hB, h63, h42⟩
  replace hm := fin_done hm
  refine ewp_sub _ hs153 ?_
  refine ewp_seq (ewp_region (o_mv rfl rfl (o_as rfl rfl (o_as rfl rfl (o_z ?_)))))
  refine ewp_ret ?_
  obtain ⟨O156, S157, h63⟩ := h63.freeze
  obtain rfl := sm hm
  replace hB := hB.st S157
  obtain ⟨O', hS', hz, hl⟩ := hE.leave (fun q => if q = 2 then i0 else 0) rfl hB
  replace h42 := h42.st S157
  exact ret2 rfl (res_tmp rfl) (res_tmp rfl) ⟨O', hS', _, _, (Ob.leave h42 hz (hl 2 (by decide) (by decide)) hx0.2), rfl, (Vb.mono h63 hz), (vErr (show inI64 0 from by decide))⟩
noncomputable def m_pack_Packer_Unpack (x0 : Pkr) (x1 : List U64) : Option ((List Int) × Err) :=
  if (x1.length : Int) ≠ x0.words then (some (([] : List Int), (⟨2⟩ : Err))) else (bnd (mkI 8 (0 : Int) (x0.fields.length : Int)) fun u25 => bnd (m_slices_Clone_Luint64_uint64 x1) fun q38 => bnd (rng (ρ := (List Int) × Err) (fun (k60 : Nat) (a61 : PFd) (s58 : (List Int) × (List U64)) => bnd (m_pack_field_get a61 x1) fun q97 => bnd (s58.1[k60]?) fun a105 => bnd ((s58.1.set k60 q97)[k60]?) fun a117 => if a61.size ≤ a117 then (some (.ret (([] : List Int), (⟨2⟩ : Err)))) else (bnd (atI s58.2 a61.word) fun a128 => bnd (m_pack_field_mask a61) fun q139 => bnd (atI s58.2 a61.word) fun a146 => some (.next ((s58.1.set k60 q97), (s58.2.set (a61.word : Int).toNat (a128 &&& ~~~q139)))))) x0.fields 0 (u25, q38)) fun res56 => fin res56 fun (s163 : (List Int) × (List U64)) => bnd (rng (ρ := (List Int) × Err) (fun (k171 : Nat) (a172 : U64) (s169 : Unit) => bnd (s163.2[k171]?) fun a182 => if (a182.toNat : Int) ≠ ((0 : U64).toNat : Int) then (some (.ret (([] : List Int), (⟨2⟩ : Err)))) else (some (.next ()))) q38 0 ()) fun res167 => fin res167 fun (s196 : Unit) => some (s163.1, (⟨0⟩ : Err)))
theorem c_pack_Packer_Unpack {w : World} {O : Lab} {p0 i0 : Nat} {x0 : Pkr} (hx0 : Ob i0 w O (.pointer (some ⟨p0, 0, none⟩)) x0) {vx1 : Value} {x1 : List U64} (hx1 : Vb w (Fr 0 w O) vx1 x1) {r : (List Int) × Err} (hm : m_pack_Packer_Unpack x0 x1 = some r) :
    Fn Try.prog 79 [(.pointer (some ⟨p0, 0, none⟩)), vx1] w fun v w' => ∃ O', St (eT i0) w O w' O' ∧ ∃ v0 v1 : Value, Ob i0 w' O' (.pointer (some ⟨p0, 0, none⟩)) x0 ∧ v = .tuple #[v0, v1] ∧ Vb w' (Fr 0 w' O') v0 r.1 ∧ Vb w' (Fr 0 w' O') v1 r.2 := by
 obtain ⟨O0, hE, hz0, hl2⟩ := ent1 (w := w) (O := O) hx0.2
 have hx0' := Ob.leave hx0 hz0 hl2 (j := 2) (by decide)
 have hB : Bm w O0 w O0 := Bm.refl
 replace hx1 := hx1.mono hz0
 obtain ⟨A3, c4, rfl⟩ := hx1.form
 refine fn_enter Try.func79 rfl Try.ntmps79 rfl ?_
 unfold m_pack_Packer_Unpack at hm
 refine ewp_seq (ewp_region (o_as rfl rfl (o_as rfl rfl (o_z ?_))))
 refine ewp_seq (ewp_seq (ewp_region (o_mv rfl rfl (o_pn rfl rfl ?_))))
 refine o_z ?_
 refine ewp_false rfl (ewp_skip (ewp_seq (ewp_seq (ewp_region (o_mv rfl rfl (o_ln rfl rfl ?_))))))
 have l6 : x1.length ≤ 9223372036854775807 := Nat.le_trans hx1.len.2.1 hx1.len.2.2
 have r5 : inI64 (x1.length : Int) := rngNat l6
 refine o_mv rfl rfl (o_nc rfl rfl ?_)
 obtain ⟨O7, v11, S8, ha10, h9, h12, r16⟩ := Pkr.opn hx0' 2 3 (by decide)
 obtain ⟨A13, c14, rfl⟩ := h12.form
 refine o_fa rfl rfl (o_ld (hc := Blk.cell (i := 1) (h9.1) rfl) rfl rfl ?_)
 refine o_neS rfl rfl rfl (fun c17 => ?_) fun c17 => ?_
 ·
  replace hm := ip hm c17
  refine o_z ?_
  refine ewp_true rfl (ewp_seq (ewp_region (o_miE rfl rfl ?_)))
  refine o_as rfl rfl (o_as rfl rfl (o_z ?_))
  refine ewp_ret ?_
  obtain ⟨O18, S19, hz21, ha22, h20⟩ := Pkr.shut (x := x0) (l0 := 2) (l1 := 3) (by decide) h9 h12 r16
  obtain rfl := sm hm
  replace hB := (hB.st S8).st S19
  obtain ⟨O', hS', hz, hl⟩ := hE.leave (fun q => if q = 2 then i0 else 0) rfl hB
  exact ret2 rfl (res_tmp rfl) (res_tmp rfl) ⟨O', hS', _, _, (Ob.leave h20 hz (hl 2 (by decide) (by decide)) hx0.2), rfl, (Vb.mono (Vb.nil _ _) hz), (vErr (by decide))⟩
 ·
  replace hm := im hm c17
  refine o_z ?_
  refine ewp_false rfl (ewp_skip (ewp_seq (ewp_region (o_mv rfl rfl (o_nc rfl rfl (o_fa rfl rfl (o_ld (hc := Blk.cell (i := 0) (h9.1) rfl) rfl rfl ?_)))))))
  refine o_ln rfl rfl ?_
  have l24 : x0.fields.length ≤ 9223372036854775807 := Nat.le_trans h12.len.2.1 h12.len.2.2
  have r23 : inI64 (x0.fields.length : Int) := rngNat l24
  obtain ⟨u25, e26, hm⟩ := bs hm
  obtain ⟨m27, e28, e29, e30, e31⟩ := mkI_some e26
  refine l_make 4 (by decide) O7 (z0 := (0 : Int)) rfl rfl rfl rfl rfl e28 (vInt (show inI64 0 from by decide)) e29 e30 rfl fun g32 w33 O34 S35 h36 => ?_
  rw [← e31] at h36 ⊢
  refine o_as rfl rfl (o_z ?_)
  refine ewp_seq (ewp_region (o_mv rfl rfl ?_))
  obtain ⟨q38, e39, hm⟩ := bs hm
  replace hx1 := (hx1.st S8).st S35
  refine l_callRow 5 (by decide) (O := O34) (c_slices_Clone_Luint64_uint64 Fr.lt hx1 e39) rfl rfl fun A45 c46 w40 O41 S42 h43 => ?_
  refine o_as rfl rfl (o_z ?_)
  refine ewp_seq (ewp_seq (ewp_region (o_mv rfl rfl (o_nc rfl rfl (o_fa rfl rfl ?_)))))
  replace h9 := (h9.st S35).st S42
  refine o_ld (hc := Blk.cell (i := 0) (h9.1) rfl) rfl rfl ?_
  refine o_ln rfl rfl ?_
  replace h12 := (h12.st S35).st S42
  have l49 : x0.fields.length ≤ 9223372036854775807 := Nat.le_trans h12.len.2.1 h12.len.2.2
  have r48 : inI64 (x0.fields.length : Int) := rngNat l49
  refine o_mv rfl rfl (o_z ?_)
  obtain ⟨O50, S51, hz53, ha54, h52⟩ := Pkr.shut (x := x0) (l0 := 2) (l1 := 3) (by decide) h9 h12 r16
  have h55 := (h12.lend [3] (by decide)).shutS S51 hz53 ha54 [2] (by decide)
  obtain ⟨res56, hL57, hm⟩ := bs hm
  refine ewp_join (aft res56 (fun (s58 : (List Int) × (List U64)) (x59 : Unit) => [(6, (.slice (some ⟨g32, 0, none⟩) u25.length m27)), (7, (.slice A45 q38.length c46))]) (fun s58 x59 w' => ∃ O' : Lab, Bm w O0 w' O' ∧ Rw 4 w' O' 3 (.slice (some ⟨g32, 0, none⟩) u25.length m27) s58.1 ∧ Rw 5 w' O' 158 (.slice A45 q38.length c46) s58.2 ∧ Ob 2 w' O' (.pointer (some ⟨p0, 0, none⟩)) x0)) ?_ ?_
  ·
   refine ewp_block ?_
   replace hB := (((hB.st S8).st S35).st S42).st S51
   replace hx1 := (hx1.st S42).st S51
   replace h36 := (h36.st S42).st S51
   replace h43 := h43.st S51
   refine ewp_rng (σ := (List Int) × (List U64)) (X := Unit) (x0.fields.length) hL57 rfl l49 (fun (s58 : (List Int) × (List U64)) (x59 : Unit) => [(1, (.slice A3 x1.length c4)), (6, (.slice (some ⟨g32, 0, none⟩) u25.length m27)), (7, (.slice A45 q38.length c46)), (34, (.slice A13 x0.fields.length c14))]) _ (fun s58 x59 w' => ∃ O' : Lab, Bm w O0 w' O' ∧ Vb w' (Fr 0 w' O') (.slice A3 x1.length c4) x1 ∧ Rw 4 w' O' 3 (.slice (some ⟨g32, 0, none⟩) u25.length m27) s58.1 ∧ Rw 5 w' O' 158 (.slice A45 q38.length c46) s58.2 ∧ Vb w' (FrS [2] w' O') (.slice A13 x0.fields.length c14) x0.fields ∧ Ob 2 w' O' (.pointer (some ⟨p0, 0, none⟩)) x0) _ () ⟨O50, hB, hx1, h36, h43, h55, h52⟩ ⟨rfl, rfl, rfl, rfl, rfl, rfl, trivial⟩ (fun _ _ => ⟨rfl, rfl⟩) (fun _ _ => ⟨rfl, rfl, trivial⟩) (fun _ _ _ ⟨O', hB, hx1, h75, h77, h55, h52⟩ => ⟨O', hB, h75, h77, h52⟩) ⟨rfl, rfl, rfl⟩ ⟨rfl, rfl⟩ ?_
   rintro k60 a61 s58 x59 w62 cc64 hx65 ⟨O63, hB, hx1, h75, h77, h55, h52⟩ hf66 hret67 hbrk68
   have rk60 : inI64 (k60 : Int) := rngK hx65 l49
   refine ewp_seq (ewp_region (o_mv rfl rfl ?_))
   obtain ⟨b79, o80, ce81, hA82, hl83, hd84, rfl, r86, r87, r88, r89⟩ := h55.elem' hx65
   refine o_iaE (hA := hA82) (hj := rfl) (hlt := hl83) rfl rfl rfl ?_
   refine o_la (hl := rfl) (hc := hd84) rfl rfl ?_
   refine l_alloc 6 O63 rfl fun g90 w91 O92 S93 h94 => ?_
   replace h55 := h55.stS S93 id (fun _ _ => id)
   refine o_as rfl rfl (l_store h94 rfl rfl rfl (Nat.le_of_ble_eq_true rfl) (by first | exact allOne rfl | simp [Value.cells, Value.oneCell', errV_one]) fun w95 S96 h94 => ?_)
   replace h94 : Lc 6 w95 O92 g90 130 [(.int .i64 a61.word), (.int .i64 a61.bit), (.int .i64 a61.width), (.int .i64 a61.size)] := h94
   replace h55 := h55.stS S96 (by decide) (by decide)
   refine o_z ?_
   refine ewp_seq (ewp_region (o_mv rfl rfl (o_mv rfl rfl (o_la (hl := rfl) (hc := (h94.1).cellsAt) rfl rfl ?_))))
   refine o_mv rfl rfl ?_
   obtain ⟨q97, e98, hf66⟩ := bs hf66
   replace hx1 := (hx1.st S93).st S96
   refine l_callA (O := O92) (A := All w95) (R := fun w' F v => Vb w' F v q97) (c_pack_field_get (fun _ h => h) (Vb.mono (F := Fr 0 w95 O92) (Vb.ofAgg (cs := [(.int .i64 a61.word), (.int .i64 a61.bit), (.int .i64 a61.width), (.int .i64 a61.size)]) (x := a61) rfl ⟨rfl, r86, r87, r88, r89⟩) Fr.lt) (Vb.mono (F := Fr 0 w95 O92) hx1 Fr.lt) e98) rfl rfl fun v103 w99 O100 S101 h102 => ?_
   obtain ⟨rfl, r104⟩ := h102.int
   replace h55 := h55.stS S101 id (fun _ _ => id)
   obtain ⟨a105, e106, hf66⟩ := bs hf66
   replace h75 := ((h75.st S93).st S96).st S101
   obtain ⟨b107, o108, ce109, hA110, hl111, hd112, rfl, r114⟩ := h75.elem e106
   refine o_iaE (hA := hA110) (hj := rfl) (hlt := hl111) rfl rfl rfl ?_
   refine l_setE rfl h75 (a := q97) (vInt r104) hA110 rfl rfl (lt_of_get e106) fun w115 S116 h75 => ?_
   replace h55 := h55.stS S116 (by decide) (by decide)
   refine o_z ?_
   refine ewp_seq (ewp_seq (ewp_draw (· = w115) [(0, true), (1, true), (2, true), (3, true), (4, true), (5, true), (6, true)] (by kernel_rfl) rfl (by kernel_rfl) rfl ?_))
   refine h_mv rfl rfl rfl (h_mv rfl rfl rfl ?_)
   obtain ⟨a117, e118, hf66⟩ := bs hf66
   obtain ⟨b119, o120, ce121, hA122, hl123, hd124, rfl, r126⟩ := h75.elem e118
   refine h_iaE (hA := hA122) (hj := rfl) (hlt := hl123) rfl rfl rfl rfl ?_
   refine h_ldA (hc := cat0 hd124) rfl rfl rfl ?_
   refine h_fa rfl rfl rfl ?_
   replace h94 := (h94.st S101).st S116
   refine h_ldA (hc := Blk.cell (i := 3) (h94.1) rfl) rfl rfl rfl ?_
   refine h_geS rfl rfl rfl rfl (fun c127 => ?_) fun c127 => ?_
   ·
    replace hf66 := ip hf66 c127
    refine h_z ?_
    refine ewp_true rfl (ewp_seq (ewp_region (o_miE rfl rfl ?_)))
    refine o_as rfl rfl (o_as rfl rfl (o_z ?_))
    refine ewp_ret ?_
    obtain rfl := sm hf66
    obtain rfl := hret67 _ rfl
    obtain rfl := sm (fin_ret hm)
    replace hB := (((hB.st S93).st S96).st S101).st S116
    obtain ⟨O', hS', hz, hl⟩ := hE.leave (fun q => if q = 2 then i0 else 0) rfl hB
    replace h52 := (((h52.st S93).st S96).st S101).st S116
    exact ret2 rfl (res_tmp rfl) (res_tmp rfl) ⟨O', hS', _, _, (Ob.leave h52 hz (hl 2 (by decide) (by decide)) hx0.2), rfl, (Vb.mono (Vb.nil _ _) hz), (vErr (by decide))⟩
   ·
    replace hf66 := im hf66 c127
    refine h_z ?_
    refine ewp_false rfl (ewp_skip (ewp_drawX [(6, [])] O100 ?_))
    refine x_pre (fuel := 4) [] [(0, true), (1, true), (2, true), (3, true), (4, true), (5, true)] (by kernel_rfl) rfl ?_
    refine h_mv rfl rfl rfl (h_fa rfl rfl rfl (h_ldC (hc := fun w' ⟨O', hq⟩ => Blk.cell (i := 0) ((h94.st hq (by decide)).1) rfl) rfl rfl rfl ?_))
    obtain ⟨a128, e129, hf66⟩ := bs hf66
    obtain ⟨p131, x130⟩ := atI_some' e129
    replace h77 := (((h77.st S93).st S96).st S101).st S116
    obtain ⟨b132, o133, ce134, hA135, hF138, hl136, hd137, rfl⟩ := h77.elemF x130
    refine h_iaE (hA := hA135) (hj := (Int.toNat_of_nonneg p131).symm) (hlt := hl136) rfl rfl rfl rfl ?_
    refine h_ldC (hc := fun w' ⟨O', hq⟩ => cat0 (cellsAt_agree (hq.agree (i := 5) (by decide)) hF138 hd137)) rfl rfl rfl ?_
    refine h_laB (hl := rfl) (hb := fun w' ⟨O', hq⟩ => ((h94.st hq (by decide)).1).cellsAt) rfl rfl rfl ?_
    refine hwp_nilT ?_
    refine x_one (i := 6) (by kernel_rfl) rfl ?_
    obtain ⟨q139, e140, hf66⟩ := bs hf66
    refine l_callA (O := O100) (A := All w115) (R := fun w' F v => Vb w' F v q139) (c_pack_field_mask (fun _ h => h) (Vb.mono (F := Fr 0 w115 O100) (Vb.ofAgg (cs := [(.int .i64 a61.word), (.int .i64 a61.bit), (.int .i64 a61.width), (.int .i64 a61.size)]) (x := a61) rfl ⟨rfl, r86, r87, r88, r89⟩) Fr.lt) e140) rfl rfl fun v145 w141 O142 S143 h144 => ?_
    obtain rfl := h144.u64
    have hZ := S143.lst [] (fun _ h => h.elim)
    replace h55 := h55.stS S143 id (fun _ _ => id)
    refine x_go [] hZ (by kernel_rfl) ?_
    refine x_pre (fuel := 1) [] [(7, true), (8, true)] (by kernel_rfl) rfl ?_
    refine h_uns (a := a128) (b := q139) rfl rfl rfl rfl ?_
    obtain ⟨a146, e147, hf66⟩ := bs hf66
    obtain ⟨p149, x148⟩ := atI_some' e147
    replace h77 := h77.st S143
    obtain ⟨b150, o151, ce152, hA153, hF156, hl154, hd155, rfl⟩ := h77.elemF x148
    refine h_iaE (hA := hA153) (hj := (Int.toNat_of_nonneg p149).symm) (hlt := hl154) rfl rfl rfl rfl ?_
    refine hwp_nilT ?_
    refine x_one (i := 9) (by kernel_rfl) rfl ?_
    refine l_setE rfl h77 (a := (a128 &&& ~~~q139)) vU64 hA153 rfl rfl (lt_of_get x148) fun w157 S158 h77 => ?_
    replace h55 := h55.stS S158 (by decide) (by decide)
    refine x_end (by kernel_rfl) ?_
    refine x_nil (by kernel_rfl) ?_
    obtain rfl := sm hf66
    refine (?_ : Exists _)
    replace hB := (((((hB.st S93).st S96).st S101).st S116).st S143).st S158
    replace hx1 := (((hx1.st S101).st S116).st S143).st S158
    replace h52 := (((((h52.st S93).st S96).st S101).st S116).st S143).st S158
    replace h75 := (h75.st S143).st S158
    exact ⟨_, (), rfl, ⟨rfl, rfl, rfl, rfl, rfl, rfl, trivial⟩, _, hB, hx1, h75, h77, h55, h52⟩
  replace hB := (((hB.st S8).st S35).st S42).st S51
  rintro l159 w160 ⟨s163, x164, rfl, hs162, O161, hB, h75, h77, h52⟩
  replace hm := fin_done hm
  refine ewp_sub _ hs162 ?_
  refine ewp_seq (ewp_seq (ewp_region (o_mv rfl rfl (o_ln rfl rfl ?_))))
  have l166 : q38.length ≤ 9223372036854775807 := Nat.le_trans h77.len.2.1 h77.len.2.2
  have r165 : inI64 (q38.length : Int) := rngNat l166
  refine o_mv rfl rfl (o_z ?_)
  obtain ⟨res167, hL168, hm⟩ := bs hm
  refine ewp_join (aft res167 (fun (s169 : Unit) (x170 : Unit) => [(6, (.slice (some ⟨g32, 0, none⟩) u25.length m27))]) (fun s169 x170 w' => ∃ O' : Lab, Bm w O0 w' O' ∧ Rw 4 w' O' 3 (.slice (some ⟨g32, 0, none⟩) u25.length m27) s163.1 ∧ Ob 2 w' O' (.pointer (some ⟨p0, 0, none⟩)) x0)) ?_ ?_
  ·
   refine ewp_block (ewp_rng (σ := Unit) (X := Unit) (q38.length) hL168 rfl l166 (fun (s169 : Unit) (x170 : Unit) => [(6, (.slice (some ⟨g32, 0, none⟩) u25.length m27)), (65, (.slice A45 q38.length c46))]) _ (fun s169 x170 w' => ∃ O' : Lab, Bm w O0 w' O' ∧ Rw 4 w' O' 3 (.slice (some ⟨g32, 0, none⟩) u25.length m27) s163.1 ∧ Rw 5 w' O' 158 (.slice A45 q38.length c46) s163.2 ∧ Ob 2 w' O' (.pointer (some ⟨p0, 0, none⟩)) x0) _ () ⟨O161, hB, h75, h77, h52⟩ ⟨rfl, rfl, rfl, rfl, trivial⟩ (fun _ _ => ⟨rfl, rfl⟩) (fun _ _ => ⟨rfl, trivial⟩) (fun _ _ _ ⟨O', hB, h75, h77, h52⟩ => ⟨O', hB, h75, h52⟩) ⟨rfl, rfl, rfl⟩ ⟨rfl, rfl⟩ ?_)
   rintro k171 a172 s169 x170 w173 cc175 hx176 ⟨O174, hB, h75, h77, h52⟩ hf177 hret178 hbrk179
   have rk171 : inI64 (k171 : Int) := rngK hx176 l166
   refine ewp_seq (ewp_region ?_)
   obtain ⟨a182, e183, hf177⟩ := bs hf177
   obtain ⟨b184, o185, ce186, hA187, hl188, hd189, rfl⟩ := h77.elem e183
   refine o_iaE (hA := hA187) (hj := rfl) (hlt := hl188) rfl rfl rfl ?_
   refine o_ld (hc := cat0 hd189) rfl rfl ?_
   refine o_as rfl rfl (o_z ?_)
   refine ewp_seq (ewp_region (o_mv rfl rfl (o_neS rfl rfl rfl (fun c191 => ?_) fun c191 => ?_)))
   ·
    replace hf177 := ip hf177 c191
    refine o_z ?_
    refine ewp_true rfl (ewp_seq (ewp_region (o_miE rfl rfl ?_)))
    refine o_as rfl rfl (o_as rfl rfl (o_z ?_))
    refine ewp_ret ?_
    obtain rfl := sm hf177
    obtain rfl := hret178 _ rfl
    obtain rfl := sm (fin_ret hm)
    obtain ⟨O', hS', hz, hl⟩ := hE.leave (fun q => if q = 2 then i0 else 0) rfl hB
    exact ret2 rfl (res_tmp rfl) (res_tmp rfl) ⟨O', hS', _, _, (Ob.leave h52 hz (hl 2 (by decide) (by decide)) hx0.2), rfl, (Vb.mono (Vb.nil _ _) hz), (vErr (by decide))⟩
   ·
    replace hf177 := im hf177 c191
    refine o_z ?_
    refine ewp_false rfl (ewp_skip ?_)
    obtain rfl := sm hf177
    refine (?_ : Exists _)
    exact ⟨_, (), rfl, ⟨rfl, rfl, rfl, rfl, trivial⟩, _, hB, h75, h77, h52⟩
  rintro l192 w193 ⟨s196, x197, rfl, hs195, O194, hB, h75, h52⟩
  replace hm := fin_done hm
  refine ewp_sub _ hs195 ?_
  refine ewp_seq (ewp_region (o_mv rfl rfl (o_as rfl rfl (o_as rfl rfl (o_z ?_)))))
  refine ewp_ret ?_
  obtain ⟨O198, S199, h75⟩ := h75.freeze
  obtain rfl := sm hm
  replace hB := hB.st S199
  obtain ⟨O', hS', hz, hl⟩ := hE.leave (fun q => if q = 2 then i0 else 0) rfl hB
  replace h52 := h52.st S199
  exact ret2 rfl (res_tmp rfl) (res_tmp rfl) ⟨O', hS', _, _, (Ob.leave h52 hz (hl 2 (by decide) (by decide)) hx0.2), rfl, (Vb.mono h75 hz), (vErr (show inI64 0 from by decide))⟩
noncomputable def m_pack_Packer_Hash (x0 : Pkr) (x1 : List U64) : Option Int :=
  bnd (rng (ρ := Int) (fun (k13 : Nat) (a14 : U64) (s11 : U64) => bnd (shrU ((s11 ^^^ a14) * (13787848793156543929 : U64)) 29) fun n31 => some (.next (((s11 ^^^ a14) * (13787848793156543929 : U64)) ^^^ n31))) x1 0 ((BitVec.ofInt 64 (x1.length : Int)) + (11400714819323198485 : U64))) fun res9 => fin res9 fun (s37 : U64) => bnd (shrU s37 2) fun n39 => some n39.toInt
theorem c_pack_Packer_Hash {w : World} {O : Lab} {p0 i0 : Nat} {x0 : Pkr} (hx0 : Ob i0 w O (.pointer (some ⟨p0, 0, none⟩)) x0) {vx1 : Value} {x1 : List U64} (hx1 : Vb w (Fr 0 w O) vx1 x1) {r : Int} (hm : m_pack_Packer_Hash x0 x1 = some r) :
    Fn Try.prog 97 [(.pointer (some ⟨p0, 0, none⟩)), vx1] w fun v w' => ∃ O', St (eT i0) w O w' O' ∧ Ob i0 w' O' (.pointer (some ⟨p0, 0, none⟩)) x0 ∧ Vb w' (Fr 0 w' O') v r := by
 obtain ⟨O0, hE, hz0, hl2⟩ := ent1 (w := w) (O := O) hx0.2
 have hx0' := Ob.leave hx0 hz0 hl2 (j := 2) (by decide)
 have hB : Bm w O0 w O0 := Bm.refl
 replace hx1 := hx1.mono hz0
 obtain ⟨A3, c4, rfl⟩ := hx1.form
 refine fn_enter Try.func97 rfl Try.ntmps97 rfl ?_
 unfold m_pack_Packer_Hash at hm
 refine ewp_seq (ewp_region (o_as rfl rfl (o_z ?_)))
 refine ewp_seq (ewp_seq (ewp_region (o_mv rfl rfl (o_pn rfl rfl ?_))))
 refine o_z ?_
 refine ewp_false rfl (ewp_skip (ewp_seq (ewp_region (o_mv rfl rfl (o_ln rfl rfl ?_)))))
 have l6 : x1.length ≤ 9223372036854775807 := Nat.le_trans hx1.len.2.1 hx1.len.2.2
 have r5 : inI64 (x1.length : Int) := rngNat l6
 refine o_cvU rfl rfl ?_
 refine o_uad (a := (BitVec.ofInt 64 (x1.length : Int))) (b := (11400714819323198485 : U64)) rfl rfl rfl ?_
 refine o_as rfl rfl (o_z ?_)
 refine ewp_seq (ewp_seq (ewp_region (o_mv rfl rfl (o_ln rfl rfl ?_))))
 have l8 : x1.length ≤ 9223372036854775807 := Nat.le_trans hx1.len.2.1 hx1.len.2.2
 have r7 : inI64 (x1.length : Int) := rngNat l8
 refine o_mv rfl rfl (o_z ?_)
 obtain ⟨res9, hL10, hm⟩ := bs hm
 refine ewp_join (aft res9 (fun (s11 : U64) (x12 : Unit) => [(5, (.int .u64 s11.toNat))]) (fun s11 x12 w' => ∃ O' : Lab, Bm w O0 w' O' ∧ Ob 2 w' O' (.pointer (some ⟨p0, 0, none⟩)) x0)) ?_ ?_
 ·
  refine ewp_block (ewp_rng (σ := U64) (X := Unit) (x1.length) hL10 rfl l8 (fun (s11 : U64) (x12 : Unit) => [(5, (.int .u64 s11.toNat)), (14, (.slice A3 x1.length c4))]) _ (fun s11 x12 w' => ∃ O' : Lab, Bm w O0 w' O' ∧ Vb w' (Fr 0 w' O') (.slice A3 x1.length c4) x1 ∧ Ob 2 w' O' (.pointer (some ⟨p0, 0, none⟩)) x0) _ () ⟨O0, hB, hx1, hx0'⟩ ⟨rfl, rfl, rfl, rfl, trivial⟩ (fun _ _ => ⟨rfl, rfl⟩) (fun _ _ => ⟨rfl, trivial⟩) (fun _ _ _ ⟨O', hB, hx1, hx0'⟩ => ⟨O', hB, hx0'⟩) ⟨rfl, rfl, rfl⟩ ⟨rfl, rfl⟩ ?_)
  rintro k13 a14 s11 x12 w15 cc17 hx18 ⟨O16, hB, hx1, hx0'⟩ hf19 hret20 hbrk21
  have rk13 : inI64 (k13 : Int) := rngK hx18 l8
  refine ewp_seq (ewp_region ?_)
  obtain ⟨b24, o25, ce26, hA27, hl28, hd29, rfl⟩ := hx1.elem' hx18
  refine o_iaE (hA := hA27) (hj := rfl) (hlt := hl28) rfl rfl rfl ?_
  refine o_ld (hc := cat0 hd29) rfl rfl ?_
  refine o_as rfl rfl (o_z ?_)
  refine ewp_seq (ewp_region (o_mv rfl rfl (o_mv rfl rfl (o_uxo (a := s11) (b := a14) rfl rfl rfl ?_))))
  refine o_as rfl rfl (o_z ?_)
  refine ewp_seq (ewp_region (o_mv rfl rfl (o_uml (a := (s11 ^^^ a14)) (b := (13787848793156543929 : U64)) rfl rfl rfl ?_)))
  refine o_as rfl rfl (o_z ?_)
  refine ewp_region (o_mv rfl rfl (o_mv rfl rfl ?_))
  obtain ⟨n31, e32, hf19⟩ := bs hf19
  refine o_usr (a := ((s11 ^^^ a14) * (13787848793156543929 : U64))) (he := e32) rfl rfl rfl ?_
  refine o_uxo (a := ((s11 ^^^ a14) * (13787848793156543929 : U64))) (b := n31) rfl rfl rfl ?_
  refine o_as rfl rfl (o_z ?_)
  obtain rfl := sm hf19
  refine (?_ : Exists _)
  exact ⟨_, (), rfl, ⟨rfl, rfl, rfl, rfl, trivial⟩, _, hB, hx1, hx0'⟩
 rintro l33 w34 ⟨s37, x38, rfl, hs36, O35, hB, hx0'⟩
 replace hm := fin_done hm
 refine ewp_sub _ hs36 ?_
 refine ewp_seq (ewp_region (o_mv rfl rfl ?_))
 obtain ⟨n39, e40, hm⟩ := bs hm
 refine o_usr (a := s37) (he := e40) rfl rfl rfl ?_
 refine o_cvI (a := n39) rfl rfl ?_
 refine o_as rfl rfl (o_z ?_)
 refine ewp_ret ?_
 obtain rfl := sm hm
 obtain ⟨O', hS', hz, hl⟩ := hE.leave (fun q => if q = 2 then i0 else 0) rfl hB
 exact ret1v rfl (res_tmp rfl) ⟨O', hS', (Ob.leave hx0' hz (hl 2 (by decide) (by decide)) hx0.2), (vInt (toIntR _))⟩
noncomputable def m_slices_Equal_Luint64_uint64 (x0 : List U64) (x1 : List U64) : Option Bool :=
  if (x0.length : Int) ≠ (x1.length : Int) then (some false) else (bnd (rng (ρ := Bool) (fun (k18 : Nat) (a19 : U64) (s16 : Unit) => bnd (x1[k18]?) fun a36 => if (a19.toNat : Int) ≠ (a36.toNat : Int) then (some (.ret false)) else (some (.next ()))) x0 0 ()) fun res14 => fin res14 fun (s50 : Unit) => some true)
theorem c_slices_Equal_Luint64_uint64 {w : World} {A : Nat → Prop} (hA : ∀ k, A k → k < w.heap.size) {vx0 : Value} {x0 : List U64} (hx0 : Vb w A vx0 x0) {vx1 : Value} {x1 : List U64} (hx1 : Vb w A vx1 x1) {r : Bool} (hm : m_slices_Equal_Luint64_uint64 x0 x1 = some r) :
    Fn Try.prog 98 [vx0, vx1] w fun v w' => Ext w w' ∧ Vb w' (upA A w w') v r := by
 obtain ⟨O, hB, hA0⟩ := enter hA
 replace hx0 := hx0.mono hA0
 obtain ⟨A3, c4, rfl⟩ := hx0.form
 replace hx1 := hx1.mono hA0
 obtain ⟨A5, c6, rfl⟩ := hx1.form
 refine fn_enter Try.func98 rfl Try.ntmps98 rfl ?_
 unfold m_slices_Equal_Luint64_uint64 at hm
 refine ewp_seq (ewp_region (o_as rfl rfl (o_z ?_)))
 refine ewp_seq (ewp_seq (ewp_region (o_mv rfl rfl (o_ln rfl rfl ?_))))
 have l8 : x0.length ≤ 9223372036854775807 := Nat.le_trans hx0.len.2.1 hx0.len.2.2
 have r7 : inI64 (x0.length : Int) := rngNat l8
 refine o_mv rfl rfl (o_ln rfl rfl ?_)
 have l10 : x1.length ≤ 9223372036854775807 := Nat.le_trans hx1.len.2.1 hx1.len.2.2
 have r9 : inI64 (x1.length : Int) := rngNat l10
 refine o_neS rfl rfl rfl (fun c11 => ?_) fun c11 => ?_
 ·
  replace hm := ip hm c11
  refine o_z ?_
  refine ewp_true rfl (ewp_seq (ewp_region (o_as rfl rfl (o_z ?_))))
  refine ewp_ret ?_
  obtain rfl := sm hm
  exact ret1v rfl (res_tmp rfl) ⟨hB.ext, vBool⟩
 ·
  replace hm := im hm c11
  refine o_z ?_
  refine ewp_false rfl (ewp_skip (ewp_seq (ewp_seq (ewp_region (o_mv rfl rfl (o_ln rfl rfl ?_))))))
  have l13 : x0.length ≤ 9223372036854775807 := Nat.le_trans hx0.len.2.1 hx0.len.2.2
  have r12 : inI64 (x0.length : Int) := rngNat l13
  refine o_mv rfl rfl (o_z ?_)
  obtain ⟨res14, hL15, hm⟩ := bs hm
  refine ewp_join (aft res14 (fun (s16 : Unit) (x17 : Unit) => []) (fun s16 x17 w' => ∃ O' : Lab, Bs w A w' O')) ?_ ?_
  ·
   refine ewp_block (ewp_rng (σ := Unit) (X := Unit) (x0.length) hL15 rfl l13 (fun (s16 : Unit) (x17 : Unit) => [(0, (.slice A3 x0.length c4)), (1, (.slice A5 x1.length c6))]) _ (fun s16 x17 w' => ∃ O' : Lab, Bs w A w' O' ∧ Vb w' (Fr 0 w' O') (.slice A3 x0.length c4) x0 ∧ Vb w' (Fr 0 w' O') (.slice A5 x1.length c6) x1) _ () ⟨O, hB, hx0, hx1⟩ ⟨rfl, rfl, rfl, rfl, trivial⟩ (fun _ _ => ⟨rfl, rfl⟩) (fun _ _ => trivial) (fun _ _ _ ⟨O', hB, hx0, hx1⟩ => ⟨O', hB⟩) ⟨rfl, rfl, rfl⟩ ⟨rfl, rfl⟩ ?_)
   rintro k18 a19 s16 x17 w20 cc22 hx23 ⟨O21, hB, hx0, hx1⟩ hf24 hret25 hbrk26
   have rk18 : inI64 (k18 : Int) := rngK hx23 l13
   refine ewp_seq (ewp_region (o_mv rfl rfl (o_as rfl rfl (o_z ?_))))
   refine ewp_seq (ewp_draw (· = w20) [(0, true), (1, true), (2, true), (3, true), (4, true), (5, true), (6, true), (7, true), (8, true)] (by kernel_rfl) rfl (by kernel_rfl) rfl ?_)
   refine h_mv rfl rfl rfl (h_mv rfl rfl rfl ?_)
   obtain ⟨b29, o30, ce31, hA32, hl33, hd34, rfl⟩ := hx0.elem' hx23
   refine h_iaE (hA := hA32) (hj := rfl) (hlt := hl33) rfl rfl rfl rfl ?_
   refine h_ldA (hc := cat0 hd34) rfl rfl rfl ?_
   refine h_mv rfl rfl rfl (h_mv rfl rfl rfl ?_)
   obtain ⟨a36, e37, hf24⟩ := bs hf24
   obtain ⟨b38, o39, ce40, hA41, hl42, hd43, rfl⟩ := hx1.elem' e37
   refine h_iaE (hA := hA41) (hj := rfl) (hlt := hl42) rfl rfl rfl rfl ?_
   refine h_ldA (hc := cat0 hd43) rfl rfl rfl ?_
   refine h_neS rfl rfl rfl rfl (fun c45 => ?_) fun c45 => ?_
   ·
    replace hf24 := ip hf24 c45
    refine h_z ?_
    refine ewp_true rfl (ewp_seq (ewp_region (o_as rfl rfl (o_z ?_))))
    refine ewp_ret ?_
    obtain rfl := sm hf24
    obtain rfl := hret25 _ rfl
    obtain rfl := sm (fin_ret hm)
    exact ret1v rfl (res_tmp rfl) ⟨hB.ext, vBool⟩
   ·
    replace hf24 := im hf24 c45
    refine h_z ?_
    refine ewp_false rfl (ewp_skip ?_)
    obtain rfl := sm hf24
    refine (?_ : Exists _)
    exact ⟨_, (), rfl, ⟨rfl, rfl, rfl, rfl, trivial⟩, _, hB, hx0, hx1⟩
  rintro l46 w47 ⟨s50, x51, rfl, hs49, O48, hB⟩
  replace hm := fin_done hm
  refine ewp_sub _ hs49 ?_
  refine ewp_seq (ewp_region (o_as rfl rfl (o_z ?_)))
  refine ewp_ret ?_
  obtain rfl := sm hm
  exact ret1v rfl (res_tmp rfl) ⟨hB.ext, vBool⟩
end
section
open Go Go.RowKit
class TMap (P : Program) (t : TypeId) (k e : outParam TypeId) : Prop where eq : P.underlying t = some (.map k e)
/-- Plain data as keys. -/
class MKey (K : Type) where
  dec : DecidableEq K
  enc : K → Value
  desc : TypeDesc
  key : ∀ a, MapKept.IsKey desc (enc a)
  inj : ∀ a b, enc a = enc b → a = b
class TKey (P : Program) (t : TypeId) (K : Type) [MKey K] : Prop where eq : P.underlying t = some (MKey.desc K)
instance : MKey Int where
  dec := inferInstance
  enc a := .int .i64 a
  desc := .int .i64
  key _ := rfl
  inj _ _ h := by injection h
section
variable {K V : Type} [MKey K]
instance keyDec : DecidableEq K := MKey.dec
def mhas : List (K × V) → K → Bool
  | [], _ => false
  | p :: r, k => if p.1 = k then true else mhas r k
def mget (z : V) : List (K × V) → K → V
  | [], _ => z
  | p :: r, k => if p.1 = k then p.2 else mget z r k
def mput : List (K × V) → K → V → List (K × V)
  | [], k, v => [(k, v)]
  | p :: r, k, v => if p.1 = k then (k, v) :: r else p :: mput r k v
def midx : List (K × V) → K → Option Nat
  | [], _ => none
  | p :: r, k => if p.1 = k then some 0 else (midx r k).map (· + 1)
theorem find_spec (a : K) : ∀ (es : List MapEntry) (x : List (K × V)) (i : Nat), es.map (·.key) = x.map (fun p => MKey.enc p.1) →
    (midx x a = none ∧ Instr.findNow (MKey.desc K) (MKey.enc a) es i = some none ∧ mhas x a = false ∧ (∀ z, mget z x a = z) ∧ ∀ v, mput x a v = x ++ [(a, v)]) ∨
    ∃ j e p, midx x a = some j ∧ es[j]? = some e ∧ x[j]? = some p ∧ Instr.findNow (MKey.desc K) (MKey.enc a) es i = some (some (i + j, e.val)) ∧ e.key = MKey.enc a ∧ mhas x a = true ∧ (∀ z, mget z x a = p.2) ∧ ∀ v, mput x a v = x.set j (a, v)
  | [], [], _, _ => .inl ⟨rfl, rfl, rfl, fun _ => rfl, fun _ => rfl⟩
  | [], _ :: _, _, h => by simp at h
  | _ :: _, [], _, h => by simp at h
  | e :: es, p :: x, i, h => by
    rw [List.map_cons, List.map_cons] at h
    injection h with h1 h2
    obtain ⟨r, hr, hiff⟩ := MapKept.sameNow_of_keys (MKey.key a) (MKey.key p.1)
    by_cases hp : p.1 = a
    · have : r = true := hiff.2 (by rw [hp])
      subst this
      refine .inr ⟨0, e, p, by simp [midx, hp], rfl, rfl, ?_, by rw [h1, hp], by simp [mhas, hp], fun z => by simp [mget, hp], fun v => by simp [mput, hp]⟩
      simp [Instr.findNow, h1, hr]
    · have : r = false := by
        cases r with
        | false => rfl
        | true => exact absurd (MKey.inj _ _ (hiff.1 rfl)).symm hp
      subst this
      rcases find_spec a es x (i + 1) h2 with ⟨g0, g1, g2, g3, g4⟩ | ⟨j, e', p', g0, g1, g2, g3, g4, g5, g6, g7⟩
      · exact .inl ⟨by simp [midx, hp, g0], by simp [Instr.findNow, h1, hr, g1], by simp [mhas, hp, g2], fun z => by simp [mget, hp, g3], fun v => by simp [mput, hp, g4]⟩
      · refine .inr ⟨j + 1, e', p', by simp [midx, hp, g0], by simpa using g1, by simpa using g2, ?_, g4, by simp [mhas, hp, g5], fun z => by simp [mget, hp, g6], fun v => by simp [mput, hp, g7]⟩
        simp [Instr.findNow, h1, hr, g3]; omega
end
/-- What a look-up yields. -/
def LkV (d : TypeDesc) (z : Value) (w : World) (r : Nat) (key v : Value) (b : Bool) : Prop := ∃ es ck a, w.heap[r]? = some (.map es ck) ∧ Instr.findNow d key es.toList 0 = some a ∧ v = (match a with | some p => p.2 | none => z) ∧ b = a.isSome
theorem LkV.keep {d : TypeDesc} {z : Value} {w w' : World} {r : Nat} {key v : Value} {b : Bool} (h : LkV d z w r key v b) (e : w'.heap[r]? = w.heap[r]?) : LkV d z w' r key v b := by
  obtain ⟨es, ck, a, h1, h2⟩ := h
  exact ⟨es, ck, a, e.trans h1, h2⟩
section
variable {P : Program} {l : Env} {w : World} {dst : Option Tmp} {ty : TypeId} {pos : String} {aft : Array Edge}
theorem ev_lk {K : Type} [MKey K] {t k e : TypeId} [ht : TMap P t k e] [hk : TKey P k K] {z : Value} {size bytes : Nat} [TInfo P e z size bytes] {x y : Operand} {r : Nat} {a : K} {v : Value} {b : Bool} (hx : opv l x = some (.map (some r))) (hy : opv l y = some (MKey.enc a)) (hv : LkV (MKey.desc K) z w r (MKey.enc a) v b) :
    Ev P ⟨dst, .lookup t x y false, ty, pos, aft, none⟩ l w v := fun _ _ d ha => by
  obtain ⟨es, ck, q, h1, h2, h3, h4⟩ := hv
  have hb : (dr w d).heap[r]? = some (.map es ck) := h1
  subst h3
  cases q with
  | none => simp [execOp, ha.eval hx, ha.eval hy, Instr.lookup, run_underlying ht.eq, MapKept.run_getObj_map hb, MapKept.run_checkKey hk.eq (MKey.key a), MapKept.run_findKey hk.eq h2, Result.andThen, run_zero (P := P) (t := e)]
  | some p => simp [execOp, ha.eval hx, ha.eval hy, Instr.lookup, run_underlying ht.eq, MapKept.run_getObj_map hb, MapKept.run_checkKey hk.eq (MKey.key a), MapKept.run_findKey hk.eq h2, Result.andThen]
end
/-- Entries behind an update. -/
def putEs (es : List MapEntry) (ck : Nat) (key v : Value) : Option Nat → List MapEntry
  | none => es ++ [{ key := key, val := v, born := ck }]
  | some j => es.modify j fun e => { e with key := key, val := v }
section
variable {P : Program} {n : Nat} {ops : Array Oper} {Q : Post} {rest : List Oper} {l : Env} {w : World} {d : Tmp} {ty : TypeId} {pos : String} {aft : Array Edge}
theorem owp_mput {K V : Type} [MKey K] {t k e : TypeId} [ht : TMap P t k e] [hk : TKey P k K] {x y u : Operand} {r ck : Nat} {a : K} {v : Value} {es : List MapEntry} {xs : List (K × V)} (hb : w.heap[r]? = some (.map es.toArray ck)) (hks : es.map (·.key) = xs.map (fun p => MKey.enc p.1)) (hx : opv l x = some (.map (some r))) (hy : opv l y = some (MKey.enc a)) (hu : opv l u = some v)
    (h : ∀ w' ck', w'.os = w.os → w'.tape = w.tape → w'.output = w.output → w'.heap.size = w.heap.size → w'.heap[r]? = some (.map (putEs es ck (MKey.enc a) v (midx xs a)).toArray ck') → (∀ q, q ≠ r → w'.heap[q]? = w.heap[q]?) → owp P n ops Q rest l w') : owp P n ops Q (⟨none, .mapUpdate t x y u, ty, pos, aft, none⟩ :: rest) l w := fun ac d ha => by
  refine wpList_plain rfl fun K' hK => ?_
  have hbd : (dr w d).heap[r]? = some (.map es.toArray ck) := hb
  unfold Oper.wp
  rcases find_spec a es xs 0 hks with ⟨g0, g1, _⟩ | ⟨j, e', p, g0, g1, g2, g3, g4, _⟩
  · have hr : (execOp ac.eval ⟨none, .mapUpdate t x y u, ty, pos, aft, none⟩).run P (dr w d) = .ok .skip { (dr w d) with heap := (dr w d).heap.setIfInBounds r (.map (es.toArray.push { key := MKey.enc a, val := v, born := ck }) (ck + 1)) } := by
      simp [execOp, ha.eval hx, ha.eval hy, ha.eval hu, Instr.mapUpdate, run_underlying ht.eq, MapKept.run_getObj_map hbd, MapKept.run_checkKey hk.eq (MKey.key a), MapKept.run_findKey hk.eq g1, MapKept.run_setObj_map _ hbd, Result.andThen]
    rw [hr]
    refine hK _ _ (h { w with heap := w.heap.setIfInBounds r (.map (es.toArray.push { key := MKey.enc a, val := v, born := ck }) (ck + 1)) } (ck + 1) rfl rfl rfl (by simp) ?_ (fun q hq => (MapKept.heap_set hb).2 q hq) _ d ha)
    rw [g0]
    simpa [putEs] using (MapKept.heap_set hb).1
  · have hj : es.toArray[j]? = some e' := by simpa using g1
    have hj' : es[j]? = some e' := g1
    rw [Nat.zero_add] at g3
    have hr : (execOp ac.eval ⟨none, .mapUpdate t x y u, ty, pos, aft, none⟩).run P (dr w d) = .ok .skip { (dr w d) with heap := (dr w d).heap.setIfInBounds r (.map (es.toArray.modify j fun e => { e with key := MKey.enc a, val := v }) ck) } := by
      simp [execOp, ha.eval hx, ha.eval hy, ha.eval hu, Instr.mapUpdate, run_underlying ht.eq, MapKept.run_getObj_map hbd, MapKept.run_checkKey hk.eq (MKey.key a), MapKept.run_findKey hk.eq g3, hj', g4, MapKept.run_keyThatStays (MKey.key a), MapKept.run_setObj_map _ hbd, Result.andThen]
    rw [hr]
    refine hK _ _ (h { w with heap := w.heap.setIfInBounds r (.map (es.toArray.modify j fun e => { e with key := MKey.enc a, val := v }) ck) } ck rfl rfl rfl (by simp) ?_ (fun q hq => (MapKept.heap_set hb).2 q hq) _ d ha)
    rw [g0]
    have := (MapKept.heap_set (o' := .map (es.toArray.modify j fun e => { e with key := MKey.enc a, val := v }) ck) hb).1
    simpa [putEs] using this
theorem owp_mkmap {t : TypeId} (hd : Nat.blt d n = true) (h : ∀ w', Ext w w' → w'.heap.size = w.heap.size + 1 → w'.heap[w.heap.size]? = some (.map #[] 0) → owp P n ops Q rest ((d, .map (some w.heap.size)) :: l) w') : owp P n ops Q (⟨some d, .makeMap t none, ty, pos, aft, none⟩ :: rest) l w :=
  owp_eff (w' := w.alloc (.map #[] 0)) (fun a e ha => .inl ⟨.map (some w.heap.size), e, by simp [execOp, Instr.makeMap]; exact ⟨rfl, rfl⟩, ha.put hd _⟩)
    (h _ ((Below.refl _ _).alloc (Nat.le_refl _) _) (by simp) (by show (w.heap.push _)[_]? = _; simp))
end
theorem putEs_keys {K V : Type} [MKey K] {es : List MapEntry} {xs : List (K × V)} (ck : Nat) (a : K) (v : Value) (y : V) (h : es.map (·.key) = xs.map (fun p => MKey.enc p.1)) : (putEs es ck (MKey.enc a) v (midx xs a)).map (·.key) = (mput xs a y).map (fun p => MKey.enc p.1) := by
  rcases find_spec a es xs 0 h with ⟨g0, _, _, _, g4⟩ | ⟨j, e', p, g0, g1, g2, g3, g4, _, _, g7⟩
  · rw [g0, g4]; simp [putEs, h]
  · rw [g0, g7]
    simp only [putEs, List.map_set, ← h]
    apply List.ext_getElem?
    intro q
    rw [List.getElem?_map, List.getElem?_modify, List.getElem?_set]
    by_cases hq : j = q
    · subst hq
      have hlt : j < es.length := lt_of_get g1
      simp [g1, hlt]
    · simp [hq]
class OwM (α : Type) [Ow α] : Prop where
  mptr : ∀ {w : World} {F M : Nat → Prop} {v : Value} {x : α}, Ow.R w F M v x → ∃ r, v = .map (some r)
theorem Ob.mptr {α : Type} [Ow α] [OwM α] {i : Nat} {w : World} {O : Lab} {v : Value} {x : α} (h : Ob i w O v x) : ∃ r, v = .map (some r) := OwM.mptr h.1
/-- Maps to rows that they own; e is the type of the rows' elements. -/
structure MapR (e : TypeId) (K V : Type) where
  l : List (K × List V)
def RA {K V : Type} [Rp V] (w : World) (F M : Nat → Prop) (L : Lab) (e : TypeId) (es : List MapEntry) (xs : List (K × List V)) (skip : Option Nat) : Prop := ∀ (j : Nat) (en : MapEntry) (p : K × List V), es[j]? = some en → xs[j]? = some p → skip ≠ some j → RwM w F (fun k => M k ∧ L k = j + 1) e en.val p.2
instance {e : TypeId} {K V : Type} [MKey K] [Rp V] : Ow (MapR e K V) where
  R w F M v x := ∃ (r : Nat) (L : Lab) (es : List MapEntry) (ck : Nat), v = .map (some r) ∧ w.heap[r]? = some (.map es.toArray ck) ∧ M r ∧ L r = 0 ∧ es.map (·.key) = x.l.map (fun p => MKey.enc p.1) ∧ RA w F M L e es x.l none
  agree := by rintro w w' F M v x ⟨r, L, es, ck, rfl, hb, hM, hL, hk, hv⟩ a1 a2; exact ⟨r, L, es, ck, rfl, (a2 r hM).trans hb, hM, hL, hk, fun j en p h1 h2 h3 => (hv j en p h1 h2 h3).agree a1 fun k hk => a2 k hk.1⟩
  mono := by rintro w F M F' M' v x ⟨r, L, es, ck, rfl, hb, hM, hL, hk, hv⟩ a1 a2 a3; exact ⟨r, L, es, ck, rfl, hb, a2 r hM, hL, hk, fun j en p h1 h2 h3 => (hv j en p h1 h2 h3).mono a1 (fun k hk => ⟨a2 k hk.1, hk.2⟩) fun k hf hm => a3 k hf hm.1⟩
instance {e : TypeId} {K V : Type} [MKey K] [Rp V] : OwM (MapR e K V) := ⟨by rintro w F M v x ⟨r, L, es, ck, rfl, _⟩; exact ⟨r, rfl⟩⟩
/-- A map of which one row is taken out. -/
def MapH {K V : Type} [MKey K] [Rp V] (i : Nat) (w : World) (O : Lab) (r : Nat) (e : TypeId) (x : MapR e K V) (a : K) : Prop :=
  (∃ (L : Lab) (es : List MapEntry) (ck : Nat), w.heap[r]? = some (.map es.toArray ck) ∧ Fr i w O r ∧ es.map (·.key) = x.l.map (fun p => MKey.enc p.1) ∧ RA w (Fr 0 w O) (Fr i w O) L e es x.l (midx x.l a)) ∧ i ≠ 0
section
variable {e : TypeId} {K V : Type} [MKey K] [Rp V] {i j : Nat} {T : Nat → Prop} {w w' : World} {O O' : Lab} {r : Nat} {x : MapR e K V} {a : K}
theorem MapH.st (h : MapH i w O r e x a) (hS : St T w O w' O') (h0 : ¬ T 0 := by decide) (hi : ¬ T i := by decide) : MapH i w' O' r e x a := by
  obtain ⟨⟨L, es, ck, hb, hM, hk, hr⟩, h1⟩ := h
  refine ⟨⟨L, es, ck, (hS.agree hi r hM).trans hb, hS.fr hi r hM, hk, fun q en p g1 g2 g3 => ?_⟩, h1⟩
  exact ((hr q en p g1 g2 g3).agree (hS.agree h0) fun k hk => hS.agree hi k hk.1).mono (hS.fr h0) (fun k hk => ⟨hS.fr hi k hk.1, hk.2⟩) fun k hf hm => frNe0 h1 k hf hm.1
theorem MapR.at (h : Ob i w O (.map (some r)) x) : Fr i w O r := by
  obtain ⟨⟨r', L, es, ck, hv, hb, hM, _⟩, _⟩ := h
  injection hv with hv
  injection hv with hv
  subst hv
  exact hM
theorem MapR.get (h : Ob i w O (.map (some r)) x) (a : K) : ∃ A c, LkV (MKey.desc K) (.slice none 0 0) w r (MKey.enc a) (.slice A (mget ([] : List V) x.l a).length c) (mhas x.l a) ∧ Vb w (FrS [i] w O) (.slice A (mget ([] : List V) x.l a).length c) (mget ([] : List V) x.l a) := by
  obtain ⟨⟨r', L, es, ck, hv, hb, hM, hL, hk, hra⟩, hi⟩ := h
  injection hv with hv
  injection hv with hv
  subst hv
  rcases find_spec a es x.l 0 hk with ⟨g0, g1, g2, g3, g4⟩ | ⟨q, e', p, g0, g1, g2, g3, g4, g5, g6, g7⟩
  · rw [g3, g2]
    exact ⟨none, 0, ⟨_, ck, none, hb, by simpa using g1, rfl, rfl⟩, Vb.nil _ _⟩
  · rw [g6, g5]
    have h1 := hra q e' p g1 g2 (by simp)
    have h2 : Rw i w O e e'.val p.2 := h1.rw (fun _ h => h) (fun _ h => h.1) hi
    obtain ⟨A, c, hA⟩ := h2.form
    refine ⟨A, c, ⟨_, ck, some (0 + q, e'.val), hb, by simpa using g3, hA.symm, rfl⟩, ?_⟩
    rw [← hA]
    exact h2.lend [i] (by simp)
theorem MapR.take (h : Ob i w O (.map (some r)) x) {v : Value} {b : Bool} (hl : LkV (MKey.desc K) (.slice none 0 0) w r (MKey.enc a) v b) (j : Nat) (hj : j ≠ 0) (hij : j ≠ i) : ∃ O', St (eT i) w O w O' ∧ MapH i w O' r e x a ∧ Rw j w O' e v (mget ([] : List V) x.l a) := by
  obtain ⟨⟨r', L, es, ck, hv, hb, hM, hL, hk, hra⟩, hi⟩ := h
  injection hv with hv
  injection hv with hv
  subst hv
  obtain ⟨es', ck', q, h1, h2, h3, h4⟩ := hl
  rw [hb] at h1
  injection h1 with h1
  injection h1 with h1 h1'
  subst h1
  rw [List.toList_toArray] at h2
  rcases find_spec a es x.l 0 hk with ⟨g0, g1, g2, g3, g4⟩ | ⟨n, e', p, g0, g1, g2, g3, g4, g5, g6, g7⟩
  · rw [g1] at h2
    have := sm h2
    subst this
    rw [g3, h3]
    exact ⟨O, St.refl _ _ _, ⟨⟨L, es, ck, hb, hM, hk, fun q en p a1 a2 _ => hra q en p a1 a2 (by simp)⟩, hi⟩, Rw.nil j hj⟩
  · rw [g3] at h2
    have := sm h2
    subst this
    rw [g6, h3]
    have hrow := hra n e' p g1 g2 (by simp)
    refine ⟨fun k => if O k = i ∧ L k = n + 1 then j else O k, ⟨rfl, rfl, rfl, Nat.le_refl _, fun k _ hk => ⟨rfl, if_neg fun h => hk h.1⟩⟩, ⟨⟨L, es, ck, hb, ⟨hM.1, ?_⟩, hk, fun q en p' a1 a2 a3 => ?_⟩, hi⟩, hrow.rw (fun k hk => ⟨hk.1, ?_⟩) (fun k hk => ⟨hk.1.1, if_pos ⟨hk.1.2, hk.2⟩⟩) hj⟩
    · show (if _ then _ else _) = _
      rw [if_neg (by rw [hL]; omega)]; exact hM.2
    · rw [g0] at a3
      have hne : n ≠ q := fun e => a3 (by rw [e])
      refine (hra q en p' a1 a2 (by simp)).mono (fun k hk => ⟨hk.1, ?_⟩) (fun k hk => ⟨⟨hk.1.1, ?_⟩, hk.2⟩) (fun k hf hm => frNe0 hi k hf hm.1)
      · show (if _ then _ else _) = _
        rw [if_neg (by rw [hk.2]; exact fun h => hi h.1.symm)]; exact hk.2
      · show (if _ then _ else _) = _
        rw [if_neg (by rw [hk.2]; omega)]; exact hk.1.2
    · show (if _ then _ else _) = _
      rw [if_neg (by rw [hk.2]; exact fun h => hi h.1.symm)]; exact hk.2
end
section
variable {P : Program} {n : Nat} {ops : Array Oper} {Q : Post} {rest : List Oper} {l : Env} {w : World} {d : Tmp} {ty : TypeId} {pos : String} {aft : Array Edge} {K V : Type} [MKey K] [Rp V] {i j : Nat} {O : Lab} {r : Nat}
theorem l_mputR {e' : TypeId} {x : MapR e' K V} {t k e : TypeId} [TMap P t k e] [TKey P k K] {m y u : Operand} {a : K} {v : Value} {ys : List V} (hM : MapH i w O r e' x a) (hv : Rw j w O e' v ys) (hij : j ≠ i) (hx : opv l m = some (.map (some r))) (hy : opv l y = some (MKey.enc a)) (hu : opv l u = some v)
    (h : ∀ w' O', St (fun q => q = i ∨ q = j) w O w' O' → Ob i w' O' (.map (some r)) (⟨mput x.l a ys⟩ : MapR e' K V) → owp P n ops Q rest l w') : owp P n ops Q (⟨none, .mapUpdate t m y u, ty, pos, aft, none⟩ :: rest) l w := by
  obtain ⟨⟨L, es, ck, hb, hM', hk, hra⟩, hi⟩ := hM
  refine owp_mput hb hk hx hy hu fun w' ck' e1 e2 e3 e4 e5 e6 => ?_
  have hlen : es.length = x.l.length := by have := congrArg List.length hk; simpa using this
  have hj0 : j ≠ 0 := hv.2.2
  have hrj : O r ≠ j := by rw [hM'.2]; exact Ne.symm hij
  let n0 : Nat := match midx x.l a with | some q => q | none => es.length
  have hS : St (fun q => q = i ∨ q = j) w O w' (fun k => if O k = j then i else O k) := ⟨e1, e2, e3, by omega, fun q hq hT => ⟨e6 q fun e => hT (by rw [e]; exact .inl hM'.2), if_neg fun e => hT (.inr e)⟩⟩
  have hF : ∀ k, Fr 0 w O k → Fr 0 w' (fun k => if O k = j then i else O k) k := fun k hk => ⟨by rw [e4]; exact hk.1, by show (if _ then _ else _) = _; rw [if_neg (by rw [hk.2]; exact Ne.symm hj0)]; exact hk.2⟩
  have hA0 : Agree (Fr 0 w O) w w' := fun k hk => e6 k fun e => by rw [e] at hk; exact hi (hM'.2.symm.trans hk.2)
  have hdis : ∀ m : Nat, ∀ k, Fr 0 w' (fun k => if O k = j then i else O k) k → ¬ (Fr i w' (fun k => if O k = j then i else O k) k ∧ (if O k = j then n0 + 1 else if k = r then 0 else L k) = m) := fun m k hf hm => frNe0 hi k hf hm.1
  have hnew : RwM w' (Fr 0 w' (fun k => if O k = j then i else O k)) (fun k => Fr i w' (fun k => if O k = j then i else O k) k ∧ (if O k = j then n0 + 1 else if k = r then 0 else L k) = n0 + 1) e' v ys := by
    have h1 : RwM w (Fr 0 w O) (Fr j w O) e' v ys := hv.m (fun _ h => h) (fun _ h => h) (frNe0 hj0)
    have h2 := h1.agree hA0 (fun k hk => e6 k fun e => by rw [e] at hk; exact hrj hk.2)
    exact h2.mono hF (fun k hk => ⟨⟨by rw [e4]; exact hk.1, if_pos hk.2⟩, if_pos hk.2⟩) (hdis _)
  have hkeep : ∀ q en (p : K × List V), es[q]? = some en → x.l[q]? = some p → midx x.l a ≠ some q → RwM w' (Fr 0 w' (fun k => if O k = j then i else O k)) (fun k => Fr i w' (fun k => if O k = j then i else O k) k ∧ (if O k = j then n0 + 1 else if k = r then 0 else L k) = q + 1) e' en.val p.2 := fun q en p g1 g2 g3 => by
    have h1 := hra q en p g1 g2 g3
    have hnr : ∀ g, en.val.ownBlock = some g → g ≠ r := fun g hg e => by
      subst e
      have h2 := h1.1
      obtain ⟨cells, o1, o2, o3⟩ := h2
      rcases o1.2 with ⟨hv0, _⟩ | ⟨g', cap, cur, hv0, _, hh, _⟩
      · rw [hv0] at hg; simp [Value.ownBlock] at hg
      · rw [hv0] at hg
        have : g' = g := by simpa [Value.ownBlock] using hg
        subst this
        rw [hb] at hh; cases hh
    have h2 : RwM w (Fr 0 w O) (fun k => (Fr i w O k ∧ L k = q + 1) ∧ k ≠ r) e' en.val p.2 := ⟨h1.1, fun g hg => ⟨h1.2 g hg, hnr g hg⟩⟩
    have h3 := h2.agree hA0 (fun k hk => e6 k hk.2)
    refine h3.mono hF (fun k hk => ?_) (hdis _)
    have hkj : O k ≠ j := by rw [hk.1.1.2]; exact Ne.symm hij
    exact ⟨⟨by rw [e4]; exact hk.1.1.1, by show (if _ then _ else _) = _; rw [if_neg hkj]; exact hk.1.1.2⟩, by rw [if_neg hkj, if_neg hk.2]; exact hk.1.2⟩
  refine h w' _ hS ⟨⟨r, fun k => if O k = j then n0 + 1 else if k = r then 0 else L k, _, ck', rfl, e5, ⟨by rw [e4]; exact hM'.1, by show (if _ then _ else _) = _; rw [if_neg hrj]; exact hM'.2⟩, by show (if _ then _ else _) = _; rw [if_neg hrj, if_pos rfl], putEs_keys ck a v ys hk, ?_⟩, hi⟩
  intro q en p h1 h2 _
  rcases find_spec a es x.l 0 hk with ⟨g0, _, _, _, g4⟩ | ⟨m, e'', p', g0, g1, g2, g3, g4, _, _, g7⟩
  · have hn0 : n0 = es.length := by show (match midx x.l a with | some q => q | none => es.length) = _; rw [g0]
    rw [g0] at h1
    rw [g4] at h2
    simp only [putEs] at h1
    by_cases hq : q < es.length
    · rw [List.getElem?_append_left hq] at h1
      rw [List.getElem?_append_left (by omega)] at h2
      exact hkeep q en p h1 h2 (by rw [g0]; simp)
    · rw [List.getElem?_append_right (by omega)] at h1
      rw [List.getElem?_append_right (by omega)] at h2
      cases hz : q - es.length with
      | zero =>
        rw [hz] at h1
        rw [show q - x.l.length = 0 from by omega] at h2
        simp at h1 h2
        subst h1; subst h2
        have hqe : q = n0 := by rw [hn0]; omega
        rw [hqe]
        exact hnew
      | succ m => rw [hz] at h1; simp at h1
  · have hn0 : n0 = m := by show (match midx x.l a with | some q => q | none => es.length) = _; rw [g0]
    rw [g0] at h1
    rw [g7] at h2
    simp only [putEs] at h1
    rw [List.getElem?_modify] at h1
    rw [List.getElem?_set] at h2
    by_cases hq : m = q
    · subst hq
      have hlt := lt_of_get g2
      rw [g1] at h1
      simp [hlt] at h1 h2
      subst h1; subst h2
      rw [← hn0]
      exact hnew
    · simp [hq] at h1 h2
      exact hkeep q en p h1 h2 (by rw [g0]; simpa using hq)
theorem l_mkmapR {t : TypeId} (e : TypeId) (i : Nat) (hi : i ≠ 0) (O : Lab) (hd : Nat.blt d n = true) (h : ∀ g w' O', St nT w O w' O' → Ob i w' O' (.map (some g)) (⟨[]⟩ : MapR e K V) → owp P n ops Q rest ((d, .map (some g)) :: l) w') : owp P n ops Q (⟨some d, .makeMap t none, ty, pos, aft, none⟩ :: rest) l w :=
  owp_mkmap hd fun w' hE hs hb => h _ w' _ (hE.st O fun _ => i) ⟨⟨w.heap.size, fun _ => 0, [], 0, rfl, hb, ⟨by omega, upO_new (Nat.le_refl _)⟩, rfl, rfl, fun j e p h1 _ => by simp at h1⟩, hi⟩
end
section
variable {P : Program} {n : Nat} {ops : Array Oper} {Q : Post} {rest : List Oper} {l : Env} {w : World} {d : Tmp} {ty : TypeId} {pos : String} {aft : Array Edge} {S : World → Prop} {rr : List (Nat × Bool)} {i' : Nat}
theorem o_lk {K : Type} [MKey K] {t k e : TypeId} [TMap P t k e] [TKey P k K] {z : Value} {size bytes : Nat} [TInfo P e z size bytes] {x y : Operand} {r : Nat} {v : Value} {b : Bool} (a : K) (hv : LkV (MKey.desc K) z w r (MKey.enc a) v b) (hx : opv l x = some (.map (some r))) (hy : opv l y = some (MKey.enc a)) (hd : Nat.blt d n = true) (h : owp P n ops Q rest ((d, v) :: l) w) : owp P n ops Q (⟨some d, .lookup t x y false, ty, pos, aft, none⟩ :: rest) l w := owp_ev (ev_lk hx hy hv) hd h
theorem h_lk {K : Type} [MKey K] {t k e : TypeId} [TMap P t k e] [TKey P k K] {z : Value} {size bytes : Nat} [TInfo P e z size bytes] {x y : Operand} {r : Nat} {v : Value} {b : Bool} (a : K) (hv : ∀ w', S w' → LkV (MKey.desc K) z w' r (MKey.enc a) v b) (hi : ops[i']? = some ⟨some d, .lookup t x y false, ty, pos, aft, none⟩) (hx : opv l x = some (.map (some r))) (hy : opv l y = some (MKey.enc a)) (hd : Nat.blt d n = true) (h : hwp P n ops Q S rr ((d, v) :: l) w) : hwp P n ops Q S ((i', true) :: rr) l w := hwp_o hi (hwq_ev (fun w' hS => ev_lk hx hy (hv w' hS)) hd h)
end
end
section
open Go Go.RowKit
attribute [local irreducible] ewp owp hwp hwq Ev Evg Fn retPost Res1
attribute [local irreducible] hwx loudX
instance : TMap Try.prog 103 3 22 := ⟨Try.underlying103⟩
instance : TKey Try.prog 3 Int := ⟨Try.underlying3⟩
structure RLk where
  parent : Int
  op : Int
  cost : Int
structure REn where
  words : List U64
  link : RLk
instance : Rp REn where
  isAgg := true
  size := 4
  R w F cs x := ∃ v0, cs = [v0, .int .i64 x.link.parent, .int .i64 x.link.op, .int .i64 x.link.cost] ∧ Vb w F v0 x.words ∧ inI64 x.link.parent ∧ inI64 x.link.op ∧ inI64 x.link.cost
  len := by rintro w F cs x ⟨v0, rfl, h0, h1, h2, h3⟩; rfl
  one := by rintro w F cs x ⟨v0, rfl, h0, h1, h2, h3⟩ u hu; simp at hu; rcases hu with rfl | rfl | rfl | rfl <;> first | rfl | exact Vb.one rfl (by assumption)
  agree := by rintro w w' F cs x ⟨v0, rfl, h0, h1, h2, h3⟩ ha; exact ⟨v0, rfl, h0.agree ha, h1, h2, h3⟩
  mono := by rintro w F G cs x ⟨v0, rfl, h0, h1, h2, h3⟩ ha; exact ⟨v0, rfl, h0.mono ha, h1, h2, h3⟩
structure Reg where
  packer : Pkr
  entries : List REn
  table : MapR 3 Int Int
instance : Ow Reg where
  R w F M v x := ∃ (g : Nat) (L : Lab) (c0 c1 c2 : Value), v = .pointer (some ⟨g, 0, none⟩) ∧ Blk w g 106 [c0, c1, c2] ∧ M g ∧ L g = 0 ∧ Ow.R w F (fun k => M k ∧ L k = 1) c0 x.packer ∧ RwM w F (fun k => M k ∧ L k = 2) 137 c1 x.entries ∧ Ow.R w F (fun k => M k ∧ L k = 3) c2 x.table
  agree := by rintro w w' F M v x ⟨g, L, c0, c1, c2, rfl, hb, hM, hL, h0, h1, h2⟩ a1 a2; exact ⟨g, L, c0, c1, c2, rfl, hb.keep (a2 g hM), hM, hL, Ow.agree h0 a1 fun k hk => a2 k hk.1, h1.agree a1 fun k hk => a2 k hk.1, Ow.agree h2 a1 fun k hk => a2 k hk.1⟩
  mono := by rintro w F M F' M' v x ⟨g, L, c0, c1, c2, rfl, hb, hM, hL, h0, h1, h2⟩ a1 a2 a3; exact ⟨g, L, c0, c1, c2, rfl, hb, a2 g hM, hL, Ow.mono h0 a1 (fun k hk => ⟨a2 k hk.1, hk.2⟩) fun k hf hm => a3 k hf hm.1, h1.mono a1 (fun k hk => ⟨a2 k hk.1, hk.2⟩) fun k hf hm => a3 k hf hm.1, Ow.mono h2 a1 (fun k hk => ⟨a2 k hk.1, hk.2⟩) fun k hf hm => a3 k hf hm.1⟩
instance : OwP Reg := ⟨by rintro w F M v x ⟨g, L, c0, c1, c2, rfl, _⟩; exact ⟨g, rfl⟩⟩
theorem Reg.opn {i : Nat} {w : World} {O : Lab} {p : Nat} {x : Reg} (h : Ob i w O (.pointer (some ⟨p, 0, none⟩)) x) (l0 l1 l2 l3 : Nat) (hl : l0 ≠ 0 ∧ l1 ≠ 0 ∧ l2 ≠ 0 ∧ l3 ≠ 0) : ∃ (O' : Lab) (c0 c1 c2 : Value), St (eT i) w O w O' ∧ (∀ k, Fr i w O k → ∃ q, q ∈ [l0, l1, l2, l3] ∧ Fr q w O' k) ∧ Lc l0 w O' p 106 [c0, c1, c2] ∧ Ob l1 w O' c0 x.packer ∧ Rw l2 w O' 137 c1 x.entries ∧ Ob l3 w O' c2 x.table := by
  obtain ⟨⟨g, L, c0, c1, c2, hv, hb, hM, hL, h0, h1, h2⟩, hi⟩ := h
  obtain rfl : p = g := by injection hv with hv; injection hv with hv; injection hv
  exact ⟨part O i L [l0, l1, l2, l3], c0, c1, c2, part_st hi, part_all (by simp), ⟨hb, (part_fr (j := 0) rfl p ⟨hM, hL⟩).2⟩, ⟨Ow.mono h0 (part_fr0 hi) (part_fr (j := 1) rfl) (frNe0 hl.2.1), hl.2.1⟩, h1.rw (part_fr0 hi) (part_fr (j := 2) rfl) hl.2.2.1, ⟨Ow.mono h2 (part_fr0 hi) (part_fr (j := 3) rfl) (frNe0 hl.2.2.2), hl.2.2.2⟩⟩
theorem Reg.shut {w : World} {O : Lab} {p : Nat} {x : Reg} {l0 l1 l2 l3 : Nat} {c0 c1 c2 : Value} (hd : ¬ 0 ∈ [l0, l1, l2, l3] ∧ [l0, l1, l2, l3].idxOf l0 = 0 ∧ [l0, l1, l2, l3].idxOf l1 = 1 ∧ [l0, l1, l2, l3].idxOf l2 = 2 ∧ [l0, l1, l2, l3].idxOf l3 = 3) (hb : Lc l0 w O p 106 [c0, c1, c2]) (h0 : Ob l1 w O c0 x.packer) (h1 : Rw l2 w O 137 c1 x.entries) (h2 : Ob l3 w O c2 x.table) : ∃ O', St (· ∈ [l0, l1, l2, l3]) w O w O' ∧ (∀ k, Fr 0 w O k → Fr 0 w O' k) ∧ (∀ q, q ∈ [l0, l1, l2, l3] → ∀ k, Fr q w O k → Fr l0 w O' k) ∧ Ob l0 w O' (.pointer (some ⟨p, 0, none⟩)) x := by
  have hb1 : l0 ≠ 0 := fun e => hd.1 (by simp [e])
  have hg := whole_fr (i := l0) hd.2.1 (by simp) p ⟨hb.1.lt, hb.2⟩
  exact ⟨whole O l0 [l0, l1, l2, l3], whole_st, whole_fr0 hd.1, whole_all, ⟨p, fun k => [l0, l1, l2, l3].idxOf (O k), c0, c1, c2, rfl, hb.1, hg.1, hg.2, Ow.mono h0.1 (whole_fr0 hd.1) (whole_fr hd.2.2.1 (by simp)) (fun k a b => frNe0 hb1 k a b.1), h1.m (whole_fr0 hd.1) (whole_fr hd.2.2.2.1 (by simp)) (fun k a b => frNe0 hb1 k a b.1), Ow.mono h2.1 (whole_fr0 hd.1) (whole_fr hd.2.2.2.2 (by simp)) (fun k a b => frNe0 hb1 k a b.1)⟩, hb1⟩
noncomputable def m_registry_New (x0 : List Int) : Option ((Option Reg) × Err) :=
  bnd (m_pack_New x0) fun q4 => if q4.2.n ≠ 0 then (some (none, (⟨q4.2.n⟩ : Err))) else (bnd q4.1 fun o22 => some ((some (⟨o22, ([] : List REn), (⟨[]⟩ : MapR 3 Int Int)⟩ : Reg)), (⟨0⟩ : Err)))
theorem c_registry_New {w : World} {O : Lab} {vx0 : Value} {x0 : List Int} (hx0 : Vb w (Fr 0 w O) vx0 x0) (j0 : Nat) (hj0 : j0 ≠ 0) {r : (Option Reg) × Err} (hm : m_registry_New x0 = some r) :
    Fn Try.prog 39 [vx0] w fun v w' => ∃ O', St nT w O w' O' ∧ ∃ v0 v1 : Value, v = .tuple #[v0, v1] ∧ Obo j0 w' O' v0 r.1 ∧ Vb w' (Fr 0 w' O') v1 r.2 := by
 obtain ⟨O0, hE, hz0⟩ := ent0 (w := w) (O := O)
 have hB : Bm w O0 w O0 := Bm.refl
 replace hx0 := hx0.mono hz0
 obtain ⟨A2, c3, rfl⟩ := hx0.form
 refine fn_enter Try.func39 rfl Try.ntmps39 rfl ?_
 unfold m_registry_New at hm
 refine ewp_seq (ewp_region (o_as rfl rfl (o_as rfl rfl (o_z ?_))))
 refine ewp_seq (ewp_region (o_mv rfl rfl ?_))
 obtain ⟨q4, e5, hm⟩ := bs hm
 refine l_callM (O := O0) (c_pack_New hx0 2 (by decide) e5) rfl rfl fun v10 w6 O7 S8 h9 => ?_
 obtain ⟨v11, v12, rfl, h13, h14⟩ := h9
 obtain ⟨rfl, r15⟩ := h14.err
 refine o_mv rfl rfl (o_ex rfl rfl rfl (o_ex rfl rfl rfl (o_as rfl rfl (o_as rfl rfl (o_z ?_)))))
 refine ewp_seq (ewp_seq (ewp_region (o_mv rfl rfl (o_rnS rfl rfl (fun c16 => ?_) fun c16 => ?_))))
 ·
  replace hm := ip hm c16
  refine o_z ?_
  refine ewp_true rfl (ewp_seq (ewp_region (o_mv rfl rfl (o_as rfl rfl (o_as rfl rfl (o_z ?_))))))
  refine ewp_ret ?_
  obtain rfl := sm hm
  replace hB := hB.st S8
  obtain ⟨O', hS', hz, hl⟩ := hE.leave (fun _ => 0) rfl hB
  exact ret2 rfl (res_tmp rfl) (res_tmp rfl) ⟨O', hS', _, _, rfl, rfl, (vErr r15)⟩
 ·
  replace hm := im hm c16
  refine o_z ?_
  refine ewp_false rfl (ewp_skip (ewp_seq (ewp_region (o_mv rfl rfl (l_mkmapR (K := Int) (V := Int) 3 3 (by decide) O7 rfl fun p17 w18 O19 S20 h21 => ?_)))))
  obtain ⟨o22, e23, hm⟩ := bs hm
  replace h13 := h13.st S20
  rw [e23] at h13
  obtain ⟨p24, rfl⟩ := Ob.ptr h13
  refine o_bd rfl rfl rfl ?_
  refine l_box 4 O19 rfl rfl fun g25 w26 O27 S28 h29 => ?_
  replace h29 : Lc 4 w26 O27 g25 106 [(.pointer (some ⟨p24, 0, none⟩)), (.slice none 0 0), (.map (some p17))] := h29
  refine o_as rfl rfl (o_as rfl rfl (o_z ?_))
  refine ewp_ret ?_
  have h30 : Rw 5 w26 O27 137 (.slice none 0 0) ([] : List REn) := Rw.nil 5 (by decide)
  replace h13 := h13.st S28
  replace h21 := h21.st S28
  obtain ⟨O32, S33, hz35, ha36, h34⟩ := Reg.shut (x := (⟨o22, ([] : List REn), (⟨[]⟩ : MapR 3 Int Int)⟩ : Reg)) (l0 := 4) (l1 := 2) (l2 := 5) (l3 := 3) (by decide) h29 h13 h30 h21
  obtain rfl := sm hm
  replace hB := (((hB.st S8).st S20).st S28).st S33
  obtain ⟨O', hS', hz, hl⟩ := hE.leave (fun q => if q = 4 then j0 else 0) rfl hB
  exact ret2 rfl (res_tmp rfl) (res_tmp rfl) ⟨O', hS', _, _, rfl, (Ob.leave h34 hz (hl 4 (by decide) (by decide)) hj0), (vErr (show inI64 0 from by decide))⟩
noncomputable def m_registry_Registry_find (x0 : Reg) (x1 : List Int) : Option ((List U64) × Int × Int × Err) :=
  bnd (m_pack_Packer_Pack x0.packer x1) fun q20 => if q20.2.n ≠ 0 then (some (([] : List U64), 0, (-1), (⟨2⟩ : Err))) else (bnd (m_pack_Packer_Hash x0.packer q20.1) fun q41 => bnd (rng (ρ := (List U64) × Int × Int × Err) (fun (k66 : Nat) (a67 : Int) (s64 : Unit) => bnd (atI x0.entries a67) fun a100 => bnd (m_slices_Equal_Luint64_uint64 a100.words q20.1) fun q118 => if q118 = true then some (.ret (q20.1, q41, a67, (⟨0⟩ : Err))) else some (.next ())) (mget ([] : List Int) x0.table.l q41) 0 ()) fun res62 => fin res62 fun (s139 : Unit) => some (q20.1, q41, (-1), (⟨0⟩ : Err)))
theorem c_registry_Registry_find {w : World} {O : Lab} {p0 i0 : Nat} {x0 : Reg} (hx0 : Ob i0 w O (.pointer (some ⟨p0, 0, none⟩)) x0) {vx1 : Value} {x1 : List Int} (hx1 : Vb w (Fr 0 w O) vx1 x1) {r : (List U64) × Int × Int × Err} (hm : m_registry_Registry_find x0 x1 = some r) :
    Fn Try.prog 74 [(.pointer (some ⟨p0, 0, none⟩)), vx1] w fun v w' => ∃ O', St (eT i0) w O w' O' ∧ ∃ v0 v1 v2 v3 : Value, Ob i0 w' O' (.pointer (some ⟨p0, 0, none⟩)) x0 ∧ v = .tuple #[v0, v1, v2, v3] ∧ Vb w' (Fr 0 w' O') v0 r.1 ∧ Vb w' (Fr 0 w' O') v1 r.2.1 ∧ Vb w' (Fr 0 w' O') v2 r.2.2.1 ∧ Vb w' (Fr 0 w' O') v3 r.2.2.2 := by
 obtain ⟨O0, hE, hz0, hl2⟩ := ent1 (w := w) (O := O) hx0.2
 have hx0' := Ob.leave hx0 hz0 hl2 (j := 2) (by decide)
 have hB : Bm w O0 w O0 := Bm.refl
 replace hx1 := hx1.mono hz0
 obtain ⟨A3, c4, rfl⟩ := hx1.form
 refine fn_enter Try.func74 rfl Try.ntmps74 rfl ?_
 unfold m_registry_Registry_find at hm
 refine ewp_seq (ewp_region (o_as rfl rfl (o_as rfl rfl (o_as rfl rfl (o_as rfl rfl (o_z ?_))))))
 refine ewp_seq (ewp_region (o_mv rfl rfl (o_nc rfl rfl ?_)))
 obtain ⟨O5, v9, v12, v17, S6, ha8, h7, h10, h13, h18⟩ := Reg.opn hx0' 2 3 4 5 (by decide)
 obtain ⟨p11, rfl⟩ := h10.ptr
 obtain ⟨A14, c15, rfl⟩ := h13.form
 obtain ⟨p19, rfl⟩ := h18.mptr
 refine o_fa rfl rfl (o_ld (hc := Blk.cell (i := 0) (h7.1) rfl) rfl rfl ?_)
 refine o_mv rfl rfl ?_
 obtain ⟨q20, e21, hm⟩ := bs hm
 replace hx1 := hx1.st S6
 refine l_callM (O := O5) (c_pack_Packer_Pack h10 hx1 e21) rfl rfl fun v26 w22 O23 S24 h25 => ?_
 obtain ⟨v28, v29, h27, rfl, h30, h31⟩ := h25
 obtain ⟨A32, c33, rfl⟩ := h30.form
 obtain ⟨rfl, r34⟩ := h31.err
 refine o_mv rfl rfl (o_ex rfl rfl rfl (o_ex rfl rfl rfl (o_as rfl rfl (o_as rfl rfl (o_z ?_)))))
 refine ewp_seq (ewp_seq (ewp_region (o_mv rfl rfl (o_rnS rfl rfl (fun c35 => ?_) fun c35 => ?_))))
 ·
  replace hm := ip hm c35
  refine o_z ?_
  refine ewp_true rfl (ewp_seq (ewp_region (o_miE rfl rfl ?_)))
  refine o_as rfl rfl (o_as rfl rfl (o_as rfl rfl (o_as rfl rfl (o_z ?_))))
  refine ewp_ret ?_
  replace h7 := h7.st S24
  replace h13 := h13.st S24
  replace h18 := h18.st S24
  obtain ⟨O36, S37, hz39, ha40, h38⟩ := Reg.shut (x := x0) (l0 := 2) (l1 := 3) (l2 := 4) (l3 := 5) (by decide) h7 h27 h13 h18
  obtain rfl := sm hm
  replace hB := ((hB.st S6).st S24).st S37
  obtain ⟨O', hS', hz, hl⟩ := hE.leave (fun q => if q = 2 then i0 else 0) rfl hB
  exact ret4 rfl (res_tmp rfl) (res_tmp rfl) (res_tmp rfl) (res_tmp rfl) ⟨O', hS', _, _, _, _, (Ob.leave h38 hz (hl 2 (by decide) (by decide)) hx0.2), rfl, (Vb.mono (Vb.nil _ _) hz), (vInt (show inI64 (0) from by decide)), (vInt (show inI64 (-1) from by decide)), (vErr (by decide))⟩
 ·
  replace hm := im hm c35
  refine o_z ?_
  refine ewp_false rfl (ewp_skip (ewp_seq (ewp_region (o_mv rfl rfl (o_nc rfl rfl (o_fa rfl rfl ?_))))))
  replace h7 := h7.st S24
  refine o_ld (hc := Blk.cell (i := 0) (h7.1) rfl) rfl rfl ?_
  refine o_mv rfl rfl ?_
  obtain ⟨q41, e42, hm⟩ := bs hm
  refine l_callM (O := O23) (c_pack_Packer_Hash h27 h30 e42) rfl rfl fun v47 w43 O44 S45 h46 => ?_
  obtain ⟨h48, h49⟩ := h46
  obtain ⟨rfl, r50⟩ := h49.int
  refine o_as rfl rfl (o_z ?_)
  refine ewp_seq (ewp_seq (ewp_region (o_mv rfl rfl (o_nc rfl rfl (o_fa rfl rfl ?_)))))
  replace h7 := h7.st S45
  refine o_ld (hc := Blk.cell (i := 2) (h7.1) rfl) rfl rfl ?_
  refine o_mv rfl rfl ?_
  replace h18 := (h18.st S24).st S45
  obtain ⟨A53, c54, hl51, h52⟩ := MapR.get h18 q41
  refine o_lk q41 hl51 rfl rfl rfl ?_
  refine o_ln rfl rfl ?_
  have l56 : (mget ([] : List Int) x0.table.l q41).length ≤ 9223372036854775807 := Nat.le_trans h52.len.2.1 h52.len.2.2
  have r55 : inI64 ((mget ([] : List Int) x0.table.l q41).length : Int) := rngNat l56
  refine o_mv rfl rfl (o_z ?_)
  replace h13 := (h13.st S24).st S45
  obtain ⟨O57, S58, hz60, ha61, h59⟩ := Reg.shut (x := x0) (l0 := 2) (l1 := 3) (l2 := 4) (l3 := 5) (by decide) h7 h48 h13 h18
  replace h52 := h52.shutS S58 hz60 ha61 [2] (by decide)
  obtain ⟨res62, hL63, hm⟩ := bs hm
  refine ewp_join (aft res62 (fun (s64 : Unit) (x65 : Unit) => [(8, (.slice A32 q20.1.length c33)), (10, (.int .i64 q41))]) (fun s64 x65 w' => ∃ O' : Lab, Bm w O0 w' O' ∧ Vb w' (Fr 0 w' O') (.slice A32 q20.1.length c33) q20.1 ∧ Ob 2 w' O' (.pointer (some ⟨p0, 0, none⟩)) x0)) ?_ ?_
  ·
   refine ewp_block ?_
   replace hB := (((hB.st S6).st S24).st S45).st S58
   replace h30 := (h30.st S45).st S58
   refine ewp_rng (σ := Unit) (X := Unit) ((mget ([] : List Int) x0.table.l q41).length) hL63 rfl l56 (fun (s64 : Unit) (x65 : Unit) => [(0, (.pointer (some ⟨p0, 0, none⟩))), (8, (.slice A32 q20.1.length c33)), (10, (.int .i64 q41)), (36, (.slice A53 (mget ([] : List Int) x0.table.l q41).length c54))]) _ (fun s64 x65 w' => ∃ O' : Lab, Bm w O0 w' O' ∧ Ob 2 w' O' (.pointer (some ⟨p0, 0, none⟩)) x0 ∧ Vb w' (Fr 0 w' O') (.slice A32 q20.1.length c33) q20.1 ∧ Vb w' (FrS [2] w' O') (.slice A53 (mget ([] : List Int) x0.table.l q41).length c54) (mget ([] : List Int) x0.table.l q41)) _ () ⟨O57, hB, h59, h30, h52⟩ ⟨rfl, rfl, rfl, rfl, rfl, rfl, trivial⟩ (fun _ _ => ⟨rfl, rfl⟩) (fun _ _ => ⟨rfl, rfl, trivial⟩) (fun _ _ _ ⟨O', hB, h59, h30, h52⟩ => ⟨O', hB, h30, h59⟩) ⟨rfl, rfl, rfl⟩ ⟨rfl, rfl⟩ ?_
   rintro k66 a67 s64 x65 w68 cc70 hx71 ⟨O69, hB, h59, h30, h52⟩ hf72 hret73 hbrk74
   have rk66 : inI64 (k66 : Int) := rngK hx71 l56
   refine ewp_seq (ewp_region ?_)
   obtain ⟨b77, o78, ce79, hA80, hl81, hd82, rfl, r84⟩ := h52.elem' hx71
   refine o_iaE (hA := hA80) (hj := rfl) (hlt := hl81) rfl rfl rfl ?_
   refine o_ld (hc := cat0 hd82) rfl rfl ?_
   refine o_as rfl rfl (o_z ?_)
   refine ewp_seq (ewp_region (o_mv rfl rfl (o_nc rfl rfl ?_)))
   obtain ⟨O85, v89, v92, v97, S86, ha88, h87, h90, h93, h98⟩ := Reg.opn h59 2 3 4 5 (by decide)
   obtain ⟨p91, rfl⟩ := h90.ptr
   obtain ⟨A94, c95, rfl⟩ := h93.form
   obtain ⟨p99, rfl⟩ := h98.mptr
   replace h52 := h52.opnS S86 (by decide) ha88 [2, 3, 4, 5] (by decide)
   refine o_fa rfl rfl (o_ld (hc := Blk.cell (i := 1) (h87.1) rfl) rfl rfl ?_)
   refine o_mv rfl rfl ?_
   obtain ⟨a100, e101, hf72⟩ := bs hf72
   obtain ⟨p103, x102⟩ := atI_some' e101
   obtain ⟨b104, o105, ce106, hA107, hl108, hd109, v111, rfl, h112, r115, r116, r117⟩ := h93.elem x102
   obtain ⟨A113, c114, rfl⟩ := h112.form
   refine o_iaE (hA := hA107) (hj := (Int.toNat_of_nonneg p103).symm) (hlt := hl108) rfl rfl rfl ?_
   refine o_fa rfl rfl (o_ld (hc := cat0 hd109) rfl rfl ?_)
   refine o_mv rfl rfl ?_
   obtain ⟨q118, e119, hf72⟩ := bs hf72
   replace h30 := h30.st S86
   refine l_callA (O := O85) (A := All w68) (R := fun w' F v => Vb w' F v q118) (c_slices_Equal_Luint64_uint64 (fun _ h => h) (Vb.mono (F := Fr 0 w68 O85) h112 Fr.lt) (Vb.mono (F := Fr 0 w68 O85) h30 Fr.lt) e119) rfl rfl fun v124 w120 O121 S122 h123 => ?_
   obtain rfl := h123.bool
   replace h52 := h52.stS S122 id (fun _ _ => id)
   cases q118
   case false =>
    replace hf72 := iF hf72
    refine o_z ?_
    refine ewp_false rfl (ewp_skip ?_)
    replace h87 := h87.st S122
    replace h90 := h90.st S122
    replace h93 := h93.st S122
    replace h98 := h98.st S122
    obtain ⟨O125, S126, hz128, ha129, h127⟩ := Reg.shut (x := x0) (l0 := 2) (l1 := 3) (l2 := 4) (l3 := 5) (by decide) h87 h90 h93 h98
    replace h52 := h52.shutS S126 hz128 ha129 [2] (by decide)
    obtain rfl := sm hf72
    refine (?_ : Exists _)
    replace hB := ((hB.st S86).st S122).st S126
    replace h30 := (h30.st S122).st S126
    exact ⟨_, (), rfl, ⟨rfl, rfl, rfl, rfl, rfl, rfl, trivial⟩, _, hB, h127, h30, h52⟩
   replace hf72 := iT hf72
   refine o_z ?_
   refine ewp_true rfl (ewp_seq (ewp_region (o_mv rfl rfl (o_mv rfl rfl (o_mv rfl rfl (o_as rfl rfl (o_as rfl rfl (o_as rfl rfl (o_as rfl rfl (o_z ?_))))))))))
   refine ewp_ret ?_
   replace h87 := h87.st S122
   replace h90 := h90.st S122
   replace h93 := h93.st S122
   replace h98 := h98.st S122
   obtain ⟨O130, S131, hz133, ha134, h132⟩ := Reg.shut (x := x0) (l0 := 2) (l1 := 3) (l2 := 4) (l3 := 5) (by decide) h87 h90 h93 h98
   obtain rfl := sm hf72
   obtain rfl := hret73 _ rfl
   obtain rfl := sm (fin_ret hm)
   replace hB := ((hB.st S86).st S122).st S131
   obtain ⟨O', hS', hz, hl⟩ := hE.leave (fun q => if q = 2 then i0 else 0) rfl hB
   replace h30 := (h30.st S122).st S131
   exact ret4 rfl (res_tmp rfl) (res_tmp rfl) (res_tmp rfl) (res_tmp rfl) ⟨O', hS', _, _, _, _, (Ob.leave h132 hz (hl 2 (by decide) (by decide)) hx0.2), rfl, (Vb.mono h30 hz), (vInt r50), (vInt r84), (vErr (show inI64 0 from by decide))⟩
  replace hB := (((hB.st S6).st S24).st S45).st S58
  replace h30 := (h30.st S45).st S58
  rintro l135 w136 ⟨s139, x140, rfl, hs138, O137, hB, h30, h59⟩
  replace hm := fin_done hm
  refine ewp_sub _ hs138 ?_
  refine ewp_seq (ewp_region (o_mv rfl rfl (o_mv rfl rfl (o_as rfl rfl (o_as rfl rfl (o_as rfl rfl (o_as rfl rfl (o_z ?_))))))))
  refine ewp_ret ?_
  obtain rfl := sm hm
  obtain ⟨O', hS', hz, hl⟩ := hE.leave (fun q => if q = 2 then i0 else 0) rfl hB
  exact ret4 rfl (res_tmp rfl) (res_tmp rfl) (res_tmp rfl) (res_tmp rfl) ⟨O', hS', _, _, _, _, (Ob.leave h59 hz (hl 2 (by decide) (by decide)) hx0.2), rfl, (Vb.mono h30 hz), (vInt r50), (vInt (show inI64 (-1) from by decide)), (vErr (show inI64 0 from by decide))⟩
noncomputable def m_registry_Registry_Add (x0 : Reg) (x1 : List Int) : Option (Int × Bool × Err × Reg) :=
  bnd (m_registry_Registry_find x0 x1) fun q5 => if q5.2.2.2.n ≠ 0 then (some (0, false, (⟨q5.2.2.2.n⟩ : Err), x0)) else (if 0 ≤ q5.2.2.1 then (some (q5.2.2.1, false, (⟨0⟩ : Err), x0)) else (if 65536 ≤ (x0.entries.length : Int) then (some (0, false, (⟨10⟩ : Err), x0)) else (bnd (appI 48 x0.entries [(⟨q5.1, (⟨(-1), (-1), 0⟩ : RLk)⟩ : REn)]) fun u53 => bnd (appI 8 (mget ([] : List Int) x0.table.l q5.2.1) [(x0.entries.length : Int)]) fun u82 => some ((x0.entries.length : Int), true, (⟨0⟩ : Err), (⟨x0.packer, u53, (⟨mput x0.table.l q5.2.1 u82⟩ : MapR 3 Int Int)⟩ : Reg)))))
theorem c_registry_Registry_Add {w : World} {O : Lab} {p0 i0 : Nat} {x0 : Reg} (hx0 : Ob i0 w O (.pointer (some ⟨p0, 0, none⟩)) x0) {vx1 : Value} {x1 : List Int} (hx1 : Vb w (Fr 0 w O) vx1 x1) {r : Int × Bool × Err × Reg} (hm : m_registry_Registry_Add x0 x1 = some r) :
    Fn Try.prog 58 [(.pointer (some ⟨p0, 0, none⟩)), vx1] w fun v w' => ∃ O', St (eT i0) w O w' O' ∧ ∃ v0 v1 v2 : Value, Ob i0 w' O' (.pointer (some ⟨p0, 0, none⟩)) r.2.2.2 ∧ v = .tuple #[v0, v1, v2] ∧ Vb w' (Fr 0 w' O') v0 r.1 ∧ Vb w' (Fr 0 w' O') v1 r.2.1 ∧ Vb w' (Fr 0 w' O') v2 r.2.2.1 := by
 obtain ⟨O0, hE, hz0, hl2⟩ := ent1 (w := w) (O := O) hx0.2
 have hx0' := Ob.leave hx0 hz0 hl2 (j := 2) (by decide)
 have hB : Bm w O0 w O0 := Bm.refl
 replace hx1 := hx1.mono hz0
 obtain ⟨A3, c4, rfl⟩ := hx1.form
 refine fn_enter Try.func58 rfl Try.ntmps58 rfl ?_
 unfold m_registry_Registry_Add at hm
 refine ewp_seq (ewp_region (o_as rfl rfl (o_as rfl rfl (o_as rfl rfl (o_z ?_)))))
 refine ewp_seq (ewp_seq (ewp_region (o_mv rfl rfl (o_pn rfl rfl ?_))))
 refine o_z ?_
 refine ewp_false rfl (ewp_skip (ewp_seq (ewp_region (o_mv rfl rfl (o_mv rfl rfl ?_)))))
 obtain ⟨q5, e6, hm⟩ := bs hm
 refine l_callM (O := O0) (c_registry_Registry_find hx0' hx1 e6) rfl rfl fun v11 w7 O8 S9 h10 => ?_
 obtain ⟨v13, v14, v15, v16, h12, rfl, h17, h18, h19, h20⟩ := h10
 obtain ⟨A21, c22, rfl⟩ := h17.form
 obtain ⟨rfl, r23⟩ := h18.int
 obtain ⟨rfl, r24⟩ := h19.int
 obtain ⟨rfl, r25⟩ := h20.err
 refine o_mv rfl rfl (o_ex rfl rfl rfl (o_ex rfl rfl rfl (o_ex rfl rfl rfl (o_ex rfl rfl rfl (o_as rfl rfl (o_as rfl rfl (o_as rfl rfl (o_as rfl rfl (o_z ?_)))))))))
 refine ewp_seq (ewp_block (ewp_seq (ewp_region (o_mv rfl rfl (o_rnS rfl rfl (fun c26 => ?_) fun c26 => ?_)))))
 ·
  replace hm := ip hm c26
  refine o_as rfl rfl (o_z ?_)
  refine ewp_true rfl (ewp_seq (ewp_region (o_mv rfl rfl (o_as rfl rfl (o_as rfl rfl (o_as rfl rfl (o_z ?_)))))))
  refine ewp_ret ?_
  obtain rfl := sm hm
  replace hB := hB.st S9
  obtain ⟨O', hS', hz, hl⟩ := hE.leave (fun q => if q = 2 then i0 else 0) rfl hB
  exact ret3 rfl (res_tmp rfl) (res_tmp rfl) (res_tmp rfl) ⟨O', hS', _, _, _, (Ob.leave h12 hz (hl 2 (by decide) (by decide)) hx0.2), rfl, (vInt (show inI64 (0) from by decide)), vBool, (vErr r25)⟩
 ·
  replace hm := im hm c26
  refine o_as rfl rfl (o_z ?_)
  refine ewp_false rfl (ewp_seq (ewp_region (o_mv rfl rfl (o_geS rfl rfl rfl (fun c27 => ?_) fun c27 => ?_))))
  ·
   replace hm := ip hm c27
   refine o_as rfl rfl (o_z ?_)
   refine ewp_true rfl (ewp_seq (ewp_region (o_mv rfl rfl (o_as rfl rfl (o_as rfl rfl (o_as rfl rfl (o_z ?_)))))))
   refine ewp_ret ?_
   obtain rfl := sm hm
   replace hB := hB.st S9
   obtain ⟨O', hS', hz, hl⟩ := hE.leave (fun q => if q = 2 then i0 else 0) rfl hB
   exact ret3 rfl (res_tmp rfl) (res_tmp rfl) (res_tmp rfl) ⟨O', hS', _, _, _, (Ob.leave h12 hz (hl 2 (by decide) (by decide)) hx0.2), rfl, (vInt r24), vBool, (vErr (show inI64 0 from by decide))⟩
  ·
   replace hm := im hm c27
   refine o_as rfl rfl (o_z ?_)
   refine ewp_false rfl (ewp_seq (ewp_region (o_mv rfl rfl (o_nc rfl rfl ?_))))
   obtain ⟨O28, v32, v35, v40, S29, ha31, h30, h33, h36, h41⟩ := Reg.opn h12 2 3 4 5 (by decide)
   obtain ⟨p34, rfl⟩ := h33.ptr
   obtain ⟨A37, c38, rfl⟩ := h36.form
   obtain ⟨p42, rfl⟩ := h41.mptr
   refine o_fa rfl rfl (o_ld (hc := Blk.cell (i := 1) (h30.1) rfl) rfl rfl ?_)
   refine o_ln rfl rfl ?_
   have l44 : x0.entries.length ≤ 9223372036854775807 := Nat.le_trans h36.len.2.1 h36.len.2.2
   have r43 : inI64 (x0.entries.length : Int) := rngNat l44
   refine o_geS rfl rfl rfl (fun c45 => ?_) fun c45 => ?_
   ·
    replace hm := ip hm c45
    refine o_as rfl rfl (o_z ?_)
    refine ewp_true rfl (ewp_seq (ewp_region (o_miE rfl rfl ?_)))
    refine o_as rfl rfl (o_as rfl rfl (o_as rfl rfl (o_z ?_)))
    refine ewp_ret ?_
    obtain ⟨O46, S47, hz49, ha50, h48⟩ := Reg.shut (x := x0) (l0 := 2) (l1 := 3) (l2 := 4) (l3 := 5) (by decide) h30 h33 h36 h41
    obtain rfl := sm hm
    replace hB := ((hB.st S9).st S29).st S47
    obtain ⟨O', hS', hz, hl⟩ := hE.leave (fun q => if q = 2 then i0 else 0) rfl hB
    exact ret3 rfl (res_tmp rfl) (res_tmp rfl) (res_tmp rfl) ⟨O', hS', _, _, _, (Ob.leave h48 hz (hl 2 (by decide) (by decide)) hx0.2), rfl, (vInt (show inI64 (0) from by decide)), vBool, (vErr (by decide))⟩
   ·
    replace hm := im hm c45
    refine o_as rfl rfl (o_z ?_)
    refine ewp_false rfl (ewp_skip (ewp_seq (ewp_region (o_mv rfl rfl (o_nc rfl rfl (o_fa rfl rfl (o_ld (hc := Blk.cell (i := 1) (h30.1) rfl) rfl rfl ?_)))))))
    refine o_ln rfl rfl ?_
    have l52 : x0.entries.length ≤ 9223372036854775807 := Nat.le_trans h36.len.2.1 h36.len.2.2
    have r51 : inI64 (x0.entries.length : Int) := rngNat l52
    refine o_as rfl rfl (o_z ?_)
    refine ewp_seq (ewp_region (o_mv rfl rfl (o_mv rfl rfl (o_nc rfl rfl (o_fa rfl rfl (o_ld (hc := Blk.cell (i := 1) (h30.1) rfl) rfl rfl ?_))))))
    refine o_mv rfl rfl (o_bd rfl rfl rfl ?_)
    refine o_bd rfl rfl rfl ?_
    obtain ⟨u53, e54, hm⟩ := bs hm
    obtain ⟨e54, e55, e56⟩ := appI_some e54
    replace h17 := h17.st S29
    refine l_append1 rfl (a := (⟨q5.1, (⟨(-1), (-1), 0⟩ : RLk)⟩ : REn)) h36 (Vb.ofAgg (cs := [(.slice A21 q5.1.length c22), (.int .i64 (-1)), (.int .i64 (-1)), (.int .i64 0)]) (x := (⟨q5.1, (⟨(-1), (-1), 0⟩ : RLk)⟩ : REn)) rfl ⟨_, rfl, h17, (show inI64 (-1) from by decide), (show inI64 (-1) from by decide), (show inI64 (0) from by decide)⟩) (fun _ => rfl) rfl (by decide) (by decide) e55 e56 ⟨rfl, rfl⟩ fun g57 A58 c59 w60 O61 S62 h63 => ?_
    rw [← e54] at h63 ⊢
    refine o_nc rfl rfl (o_fa rfl rfl ?_)
    replace h30 := h30.st S62
    refine l_store h30 rfl rfl rfl (Nat.le_of_ble_eq_true rfl) (by first | exact allOne rfl | simp [Value.cells, Value.oneCell', errV_one]) fun w65 S66 h30 => ?_
    replace h30 : Lc 2 w65 O61 p0 106 [(.pointer (some ⟨p34, 0, none⟩)), (.slice A58 u53.length c59), (.map (some p42))] := h30
    refine o_z ?_
    refine ewp_seq (ewp_drawX [(12, []), (13, [5, 7])] O61 ?_)
    refine x_pre (fuel := 8) [] [(5, true), (6, true), (7, true), (8, true), (9, true), (10, true), (11, true)] (by kernel_rfl) rfl ?_
    refine h_mv rfl rfl rfl (h_nc rfl rfl rfl (h_fa rfl rfl rfl (h_ldC (hc := fun w' ⟨O', hq⟩ => Blk.cell (i := 2) ((h30.st hq (by decide)).1) rfl) rfl rfl rfl ?_)))
    refine h_mv rfl rfl rfl ?_
    replace h41 := (h41.st S62).st S66
    obtain ⟨A69, c70, hl67, h68⟩ := MapR.get h41 q5.2.1
    refine h_lk q5.2.1 (fun w' ⟨O', hq⟩ => hl67.keep (hq.agree (i := 5) (by decide) _ (MapR.at h41))) rfl rfl rfl rfl ?_
    refine h_mv rfl rfl rfl (hwp_nilT ?_)
    refine x_pre (fuel := 3) [5, 7] [(0, true), (1, true), (2, true), (3, true), (4, true)] (by kernel_rfl) rfl ?_
    refine h_mv rfl rfl rfl (h_nc rfl rfl rfl (h_fa rfl rfl rfl (h_ldC (hc := fun w' ⟨O', hq⟩ => Blk.cell (i := 2) ((h30.st hq (by decide)).1) rfl) rfl rfl rfl ?_)))
    refine h_mv rfl rfl rfl (hwp_nilT ?_)
    refine x_one (i := 12) (by kernel_rfl) rfl ?_
    refine l_bslice 6 (by decide) O61 (xs := ([(x0.entries.length : Int)] : List Int)) rfl rfl rfl rfl ⟨(vInt r51), trivial⟩ (by decide) (by decide) rfl fun g71 w72 O73 S74 h75 => ?_
    have hZ := S74.lst [] (fun _ h => h.elim)
    replace hl67 := hl67.keep (S74.agree (i := 5) id _ (MapR.at h41))
    replace h68 := h68.stS S74 id (fun _ _ => id)
    refine x_go [(13, [5, 7])] hZ (by kernel_rfl) ?_
    refine x_one (i := 13) (by kernel_rfl) rfl ?_
    replace h41 := h41.st S74
    obtain ⟨O77, S78, h79, h80⟩ := MapR.take h41 hl67 7 (by decide) (by decide)
    have hZ := S78.lst [5] (fun _ h => by cases h; decide)
    obtain ⟨u82, e83, hm⟩ := bs hm
    obtain ⟨e83, e84, e85⟩ := appI_some e83
    replace h75 := h75.st S78
    refine l_append rfl h80 (h75.rd) rfl rfl (by decide) e84 e85 rfl fun A86 c87 w88 O89 S90 h91 => ?_
    rw [← e83] at h91 ⊢
    replace hZ := hZ.cmp S90 [5, 7] (fun _ h => by cases h; decide) rfl
    refine x_go [] hZ (by kernel_rfl) ?_
    refine x_one (i := 14) (by kernel_rfl) rfl ?_
    replace h79 := h79.st S90
    refine l_mputR h79 h91 (by decide) rfl rfl rfl fun w93 O94 S95 h96 => ?_
    refine x_end (by kernel_rfl) ?_
    refine x_nil (by kernel_rfl) ?_
    refine ewp_seq (ewp_region (o_mv rfl rfl (o_as rfl rfl (o_as rfl rfl (o_as rfl rfl (o_z ?_))))))
    refine ewp_ret ?_
    replace h30 := (((h30.st S74).st S78).st S90).st S95
    replace h33 := (((((h33.st S62).st S66).st S74).st S78).st S90).st S95
    replace h63 := ((((h63.st S66).st S74).st S78).st S90).st S95
    obtain ⟨O97, S98, hz100, ha101, h99⟩ := Reg.shut (x := (⟨x0.packer, u53, (⟨mput x0.table.l q5.2.1 u82⟩ : MapR 3 Int Int)⟩ : Reg)) (l0 := 2) (l1 := 3) (l2 := 4) (l3 := 5) (by decide) h30 h33 h63 h96
    obtain rfl := sm hm
    replace hB := ((((((((hB.st S9).st S29).st S62).st S66).st S74).st S78).st S90).st S95).st S98
    obtain ⟨O', hS', hz, hl⟩ := hE.leave (fun q => if q = 2 then i0 else 0) rfl hB
    exact ret3 rfl (res_tmp rfl) (res_tmp rfl) (res_tmp rfl) ⟨O', hS', _, _, _, (Ob.leave h99 hz (hl 2 (by decide) (by decide)) hx0.2), rfl, (vInt r51), vBool, (vErr (show inI64 0 from by decide))⟩
noncomputable def m_registry_Registry_has (x0 : Reg) (x1 : Int) : Option Bool :=
  bnd (if 0 ≤ x1 then (if x1 < (x0.entries.length : Int) then (some true) else (some false)) else (some false) : Option Bool) fun y3 => some y3
theorem c_registry_Registry_has {w : World} {O : Lab} {p0 i0 : Nat} {x0 : Reg} (hx0 : Ob i0 w O (.pointer (some ⟨p0, 0, none⟩)) x0) {x1 : Int} (rx1 : inI64 x1) {r : Bool} (hm : m_registry_Registry_has x0 x1 = some r) :
    Fn Try.prog 75 [(.pointer (some ⟨p0, 0, none⟩)), (.int .i64 x1)] w fun v w' => ∃ O', St (eT i0) w O w' O' ∧ Ob i0 w' O' (.pointer (some ⟨p0, 0, none⟩)) x0 ∧ Vb w' (Fr 0 w' O') v r := by
 obtain ⟨O0, hE, hz0, hl2⟩ := ent1 (w := w) (O := O) hx0.2
 have hx0' := Ob.leave hx0 hz0 hl2 (j := 2) (by decide)
 have hB : Bm w O0 w O0 := Bm.refl
 refine fn_enter Try.func75 rfl Try.ntmps75 rfl ?_
 unfold m_registry_Registry_has at hm
 refine ewp_seq (ewp_region (o_as rfl rfl (o_z ?_)))
 refine ewp_seq ?_
 obtain ⟨y3, hy4, hm⟩ := bs hm
 refine ewp_join (fun l' w' => ∃ (x6 : Unit) (O' : Lab), subs l' [(4, (.bool y3))] ∧ Bm w O0 w' O' ∧ Ob 2 w' O' (.pointer (some ⟨p0, 0, none⟩)) x0) ?_ ?_
 ·
  refine ewp_region (o_mv rfl rfl (o_geS rfl rfl rfl (fun c7 => ?_) fun c7 => ?_))
  ·
   replace hy4 := ip hy4 c7
   refine o_mv rfl rfl (owp_yes rfl rfl (o_mv rfl rfl (owp_yes rfl rfl (o_mv rfl rfl (owp_yes rfl rfl (o_nc rfl rfl (owp_yes rfl rfl ?_)))))))
   obtain ⟨O8, v12, v15, v20, S9, ha11, h10, h13, h16, h21⟩ := Reg.opn hx0' 2 3 4 5 (by decide)
   obtain ⟨p14, rfl⟩ := h13.ptr
   obtain ⟨A17, c18, rfl⟩ := h16.form
   obtain ⟨p22, rfl⟩ := h21.mptr
   refine o_fa rfl rfl (owp_yes rfl rfl (o_ld (hc := Blk.cell (i := 1) (h10.1) rfl) rfl rfl ?_))
   refine owp_yes rfl rfl (o_ln rfl rfl ?_)
   have l24 : x0.entries.length ≤ 9223372036854775807 := Nat.le_trans h16.len.2.1 h16.len.2.2
   have r23 : inI64 (x0.entries.length : Int) := rngNat l24
   refine owp_yes rfl rfl (o_ltS rfl rfl rfl (fun c25 => ?_) fun c25 => ?_)
   ·
    replace hy4 := ip hy4 c25
    refine o_pt rfl rfl rfl (o_as rfl rfl (o_z ?_))
    obtain ⟨O26, S27, hz29, ha30, h28⟩ := Reg.shut (x := x0) (l0 := 2) (l1 := 3) (l2 := 4) (l3 := 5) (by decide) h10 h13 h16 h21
    obtain rfl := sm hy4
    replace hB := (hB.st S9).st S27
    exact ⟨(), _, ⟨rfl, trivial⟩, hB, h28⟩
   ·
    replace hy4 := im hy4 c25
    refine o_pt rfl rfl rfl (o_as rfl rfl (o_z ?_))
    obtain ⟨O31, S32, hz34, ha35, h33⟩ := Reg.shut (x := x0) (l0 := 2) (l1 := 3) (l2 := 4) (l3 := 5) (by decide) h10 h13 h16 h21
    obtain rfl := sm hy4
    replace hB := (hB.st S9).st S32
    exact ⟨(), _, ⟨rfl, trivial⟩, hB, h33⟩
  ·
   replace hy4 := im hy4 c7
   refine o_mv rfl rfl (owp_no rfl rfl rfl rfl (owp_no rfl rfl rfl rfl (owp_no rfl rfl rfl rfl (owp_no rfl rfl rfl rfl (owp_no rfl rfl rfl rfl (owp_no rfl rfl rfl rfl (owp_no rfl rfl rfl rfl (o_pf rfl rfl rfl (o_as rfl rfl (o_z ?_))))))))))
   obtain rfl := sm hy4
   exact ⟨(), _, ⟨rfl, trivial⟩, hB, hx0'⟩
 rintro l36 w37 ⟨x6, O38, hs39, hB, h24⟩
 refine ewp_sub _ hs39 ?_
 refine ewp_ret ?_
 obtain rfl := sm hm
 obtain ⟨O', hS', hz, hl⟩ := hE.leave (fun q => if q = 2 then i0 else 0) rfl hB
 exact ret1v rfl (res_tmp rfl) ⟨O', hS', (Ob.leave h24 hz (hl 2 (by decide) (by decide)) hx0.2), vBool⟩
noncomputable def m_registry_Registry_State (x0 : Reg) (x1 : Int) : Option ((List Int) × Err) :=
  bnd (m_registry_Registry_has x0 x1) fun q3 => if q3 = true then bnd (atI x0.entries x1) fun a27 => bnd (m_pack_Packer_Unpack x0.packer a27.words) fun q45 => some (q45.1, (⟨q45.2.n⟩ : Err)) else some (([] : List Int), (⟨1⟩ : Err))
theorem c_registry_Registry_State {w : World} {O : Lab} {p0 i0 : Nat} {x0 : Reg} (hx0 : Ob i0 w O (.pointer (some ⟨p0, 0, none⟩)) x0) {x1 : Int} (rx1 : inI64 x1) {r : (List Int) × Err} (hm : m_registry_Registry_State x0 x1 = some r) :
    Fn Try.prog 63 [(.pointer (some ⟨p0, 0, none⟩)), (.int .i64 x1)] w fun v w' => ∃ O', St (eT i0) w O w' O' ∧ ∃ v0 v1 : Value, Ob i0 w' O' (.pointer (some ⟨p0, 0, none⟩)) x0 ∧ v = .tuple #[v0, v1] ∧ Vb w' (Fr 0 w' O') v0 r.1 ∧ Vb w' (Fr 0 w' O') v1 r.2 := by
 obtain ⟨O0, hE, hz0, hl2⟩ := ent1 (w := w) (O := O) hx0.2
 have hx0' := Ob.leave hx0 hz0 hl2 (j := 2) (by decide)
 have hB : Bm w O0 w O0 := Bm.refl
 refine fn_enter Try.func63 rfl Try.ntmps63 rfl ?_
 unfold m_registry_Registry_State at hm
 refine ewp_seq (ewp_region (o_as rfl rfl (o_as rfl rfl (o_z ?_))))
 refine ewp_seq (ewp_block (ewp_seq (ewp_region (o_mv rfl rfl (o_pn rfl rfl ?_)))))
 refine o_as rfl rfl (o_z ?_)
 refine ewp_false rfl (ewp_seq (ewp_region (o_mv rfl rfl (o_mv rfl rfl ?_))))
 obtain ⟨q3, e4, hm⟩ := bs hm
 refine l_callM (O := O0) (c_registry_Registry_has hx0' rx1 e4) rfl rfl fun v9 w5 O6 S7 h8 => ?_
 obtain ⟨h10, h11⟩ := h8
 obtain rfl := h11.bool
 cases q3
 case false =>
  replace hm := iF hm
  refine o_nf rfl rfl (o_as rfl rfl (o_z ?_))
  refine ewp_true rfl (ewp_seq (ewp_region (o_miE rfl rfl ?_)))
  refine o_as rfl rfl (o_as rfl rfl (o_z ?_))
  refine ewp_ret ?_
  obtain rfl := sm hm
  replace hB := hB.st S7
  obtain ⟨O', hS', hz, hl⟩ := hE.leave (fun q => if q = 2 then i0 else 0) rfl hB
  exact ret2 rfl (res_tmp rfl) (res_tmp rfl) ⟨O', hS', _, _, (Ob.leave h10 hz (hl 2 (by decide) (by decide)) hx0.2), rfl, (Vb.mono (Vb.nil _ _) hz), (vErr (by decide))⟩
 replace hm := iT hm
 refine o_nt rfl rfl (o_as rfl rfl (o_z ?_))
 refine ewp_false rfl (ewp_skip (ewp_seq ?_))
 obtain ⟨O12, v16, v19, v24, S13, ha15, h14, h17, h20, h25⟩ := Reg.opn h10 2 3 4 5 (by decide)
 obtain ⟨p18, rfl⟩ := h17.ptr
 obtain ⟨A21, c22, rfl⟩ := h20.form
 obtain ⟨p26, rfl⟩ := h25.mptr
 refine ewp_drawX [(12, [3])] O12 ?_
 refine x_pre (fuel := 5) [] [(0, true), (1, true), (2, true), (3, true), (4, true), (5, true), (6, true), (7, true), (8, true), (9, true), (10, true), (11, true)] (by kernel_rfl) rfl ?_
 refine h_mv rfl rfl rfl (h_nc rfl rfl rfl (h_fa rfl rfl rfl (h_ldC (hc := fun w' ⟨O', hq⟩ => Blk.cell (i := 0) ((h14.st hq (by decide)).1) rfl) rfl rfl rfl ?_)))
 refine h_mv rfl rfl rfl (h_nc rfl rfl rfl (h_fa rfl rfl rfl (h_ldC (hc := fun w' ⟨O', hq⟩ => Blk.cell (i := 1) ((h14.st hq (by decide)).1) rfl) rfl rfl rfl ?_)))
 refine h_mv rfl rfl rfl ?_
 obtain ⟨a27, e28, hm⟩ := bs hm
 obtain ⟨p30, x29⟩ := atI_some' e28
 obtain ⟨b31, o32, ce33, hA34, hF37, hl35, hd36, v38, rfl, h39, r42, r43, r44⟩ := h20.elemF x29
 obtain ⟨A40, c41, rfl⟩ := h39.form
 refine h_iaE (hA := hA34) (hj := (Int.toNat_of_nonneg p30).symm) (hlt := hl35) rfl rfl rfl rfl ?_
 refine h_fa rfl rfl rfl (h_ldC (hc := fun w' ⟨O', hq⟩ => cat0 (cellsAt_agree (hq.agree (i := 4) (by decide)) hF37 hd36)) rfl rfl rfl ?_)
 refine hwp_nilT ?_
 refine x_one (i := 12) (by kernel_rfl) rfl ?_
 obtain ⟨q45, e46, hm⟩ := bs hm
 refine l_callM (O := O12) (c_pack_Packer_Unpack h17 h39 e46) rfl rfl fun v51 w47 O48 S49 h50 => ?_
 obtain ⟨v53, v54, h52, rfl, h55, h56⟩ := h50
 obtain ⟨A57, c58, rfl⟩ := h55.form
 obtain ⟨rfl, r59⟩ := h56.err
 have hZ := S49.lst [3] (fun _ h => by cases h; decide)
 refine x_go [] hZ (by kernel_rfl) ?_
 refine x_pre (fuel := 0) [] [(13, true), (14, true), (15, true), (16, true)] (by kernel_rfl) rfl ?_
 refine h_ex rfl rfl rfl rfl (h_ex rfl rfl rfl rfl (h_as rfl rfl rfl (h_as rfl rfl rfl (hwp_nilT ?_))))
 refine x_nil (by kernel_rfl) ?_
 refine ewp_ret ?_
 replace h14 := h14.st S49
 replace h20 := h20.st S49
 replace h25 := h25.st S49
 obtain ⟨O60, S61, hz63, ha64, h62⟩ := Reg.shut (x := x0) (l0 := 2) (l1 := 3) (l2 := 4) (l3 := 5) (by decide) h14 h52 h20 h25
 obtain rfl := sm hm
 replace hB := (((hB.st S7).st S13).st S49).st S61
 obtain ⟨O', hS', hz, hl⟩ := hE.leave (fun q => if q = 2 then i0 else 0) rfl hB
 replace h55 := h55.st S61
 exact ret2 rfl (res_tmp rfl) (res_tmp rfl) ⟨O', hS', _, _, (Ob.leave h62 hz (hl 2 (by decide) (by decide)) hx0.2), rfl, (Vb.mono h55 hz), (vErr r59)⟩
noncomputable def m_registry_Registry_SetLink (x0 : Reg) (x1 : Int) (x2 : Int) (x3 : Int) (x4 : Int) : Option (Err × Reg) :=
  bnd (bnd (m_registry_Registry_has x0 x1) fun q10 => if q10 = true then if x2 ≠ (-1) then (bnd (m_registry_Registry_has x0 x2) fun q20 => if q20 = true then some false else some true) else (some false) else some true : Option Bool) fun y6 => if y6 = true then (some ((⟨1⟩ : Err), x0)) else (bnd (atI x0.entries x1) fun a49 => some ((⟨0⟩ : Err), (⟨x0.packer, (x0.entries.set (x1 : Int).toNat ({ a49 with link := (⟨x2, x3, x4⟩ : RLk) } : REn)), x0.table⟩ : Reg)))
theorem c_registry_Registry_SetLink {w : World} {O : Lab} {p0 i0 : Nat} {x0 : Reg} (hx0 : Ob i0 w O (.pointer (some ⟨p0, 0, none⟩)) x0) {x1 : Int} (rx1 : inI64 x1) {x2 : Int} (rx2 : inI64 x2) {x3 : Int} (rx3 : inI64 x3) {x4 : Int} (rx4 : inI64 x4) {r : Err × Reg} (hm : m_registry_Registry_SetLink x0 x1 x2 x3 x4 = some r) :
    Fn Try.prog 59 [(.pointer (some ⟨p0, 0, none⟩)), (.int .i64 x1), (.int .i64 x2), (.int .i64 x3), (.int .i64 x4)] w fun v w' => ∃ O', St (eT i0) w O w' O' ∧ Ob i0 w' O' (.pointer (some ⟨p0, 0, none⟩)) r.2 ∧ Vb w' (Fr 0 w' O') v r.1 := by
 obtain ⟨O0, hE, hz0, hl2⟩ := ent1 (w := w) (O := O) hx0.2
 have hx0' := Ob.leave hx0 hz0 hl2 (j := 2) (by decide)
 have hB : Bm w O0 w O0 := Bm.refl
 refine fn_enter Try.func59 rfl Try.ntmps59 rfl ?_
 unfold m_registry_Registry_SetLink at hm
 refine ewp_seq (ewp_region (o_as rfl rfl (o_z ?_)))
 refine ewp_seq (ewp_block (ewp_seq (ewp_region (o_mv rfl rfl (o_pn rfl rfl ?_)))))
 refine o_as rfl rfl (o_z ?_)
 refine ewp_false rfl (ewp_seq ?_)
 obtain ⟨y6, hy7, hm⟩ := bs hm
 refine ewp_join (fun l' w' => ∃ (x9 : Unit) (O' : Lab), subs l' [(0, (.pointer (some ⟨p0, 0, none⟩))), (1, (.int .i64 x1)), (2, (.int .i64 x2)), (3, (.int .i64 x3)), (4, (.int .i64 x4)), (15, (.bool y6))] ∧ Bm w O0 w' O' ∧ Ob 2 w' O' (.pointer (some ⟨p0, 0, none⟩)) x0) ?_ ?_
 ·
  refine ewp_region (o_mv rfl rfl (o_mv rfl rfl ?_))
  obtain ⟨q10, e11, hy7⟩ := bs hy7
  refine l_callM (O := O0) (c_registry_Registry_has hx0' rx1 e11) rfl rfl fun v16 w12 O13 S14 h15 => ?_
  obtain ⟨h17, h18⟩ := h15
  obtain rfl := h18.bool
  cases q10
  case false =>
   replace hy7 := iF hy7
   refine o_nf rfl rfl (o_mv rfl rfl (owp_no rfl rfl rfl rfl (owp_no rfl rfl rfl rfl (owp_no rfl rfl rfl rfl (owp_no rfl rfl rfl rfl (owp_no rfl rfl rfl rfl (owp_no rfl rfl rfl rfl (owp_no rfl rfl rfl rfl (owp_no rfl rfl rfl rfl (o_pt rfl rfl rfl (o_as rfl rfl (o_z ?_))))))))))))
   obtain rfl := sm hy7
   replace hB := hB.st S14
   exact ⟨(), _, ⟨rfl, rfl, rfl, rfl, rfl, rfl, trivial⟩, hB, h17⟩
  replace hy7 := iT hy7
  refine o_nt rfl rfl (o_mv rfl rfl (owp_yes rfl rfl (o_mv rfl rfl (owp_yes rfl rfl (o_neS rfl rfl rfl (fun c19 => ?_) fun c19 => ?_)))))
  ·
   replace hy7 := ip hy7 c19
   refine owp_yes rfl rfl (o_mv rfl rfl (owp_yes rfl rfl (o_mv rfl rfl (owp_yes rfl rfl (o_mv rfl rfl (owp_yes rfl rfl ?_))))))
   obtain ⟨q20, e21, hy7⟩ := bs hy7
   refine l_callM (O := O13) (c_registry_Registry_has h17 rx2 e21) rfl rfl fun v26 w22 O23 S24 h25 => ?_
   obtain ⟨h27, h28⟩ := h25
   obtain rfl := h28.bool
   cases q20
   case false =>
    replace hy7 := iF hy7
    refine owp_yes rfl rfl (o_nf rfl rfl (owp_yes rfl rfl (o_pt rfl rfl rfl (o_pf rfl rfl rfl (o_as rfl rfl (o_z ?_))))))
    obtain rfl := sm hy7
    replace hB := (hB.st S14).st S24
    exact ⟨(), _, ⟨rfl, rfl, rfl, rfl, rfl, rfl, trivial⟩, hB, h27⟩
   replace hy7 := iT hy7
   refine owp_yes rfl rfl (o_nt rfl rfl (owp_yes rfl rfl (o_pt rfl rfl rfl (o_pf rfl rfl rfl (o_as rfl rfl (o_z ?_))))))
   obtain rfl := sm hy7
   replace hB := (hB.st S14).st S24
   exact ⟨(), _, ⟨rfl, rfl, rfl, rfl, rfl, rfl, trivial⟩, hB, h27⟩
  ·
   replace hy7 := im hy7 c19
   refine owp_yes rfl rfl (o_mv rfl rfl (owp_no rfl rfl rfl rfl (owp_no rfl rfl rfl rfl (owp_no rfl rfl rfl rfl (owp_no rfl rfl rfl rfl (owp_yes rfl rfl (o_pf rfl rfl rfl (o_pf rfl rfl rfl (o_as rfl rfl (o_z ?_))))))))))
   obtain rfl := sm hy7
   replace hB := hB.st S14
   exact ⟨(), _, ⟨rfl, rfl, rfl, rfl, rfl, rfl, trivial⟩, hB, h17⟩
 rintro l29 w30 ⟨x9, O31, hs32, hB, h13⟩
 refine ewp_sub _ hs32 ?_
 refine ewp_cond rfl (fun c33 => ?_) (fun c33 => ?_)
 ·
  replace hm := ip hm c33
  refine ewp_seq (ewp_region (o_miE rfl rfl ?_))
  refine o_as rfl rfl (o_z ?_)
  refine ewp_ret ?_
  obtain rfl := sm hm
  obtain ⟨O', hS', hz, hl⟩ := hE.leave (fun q => if q = 2 then i0 else 0) rfl hB
  exact ret1v rfl (res_tmp rfl) ⟨O', hS', (Ob.leave h13 hz (hl 2 (by decide) (by decide)) hx0.2), (vErr (by decide))⟩
 ·
  replace hm := im' hm c33
  refine ewp_skip (ewp_seq (ewp_region (o_mv rfl rfl (o_nc rfl rfl ?_))))
  obtain ⟨O34, v38, v41, v46, S35, ha37, h36, h39, h42, h47⟩ := Reg.opn h13 2 3 4 5 (by decide)
  obtain ⟨p40, rfl⟩ := h39.ptr
  obtain ⟨A43, c44, rfl⟩ := h42.form
  obtain ⟨p48, rfl⟩ := h47.mptr
  refine o_fa rfl rfl (o_ld (hc := Blk.cell (i := 1) (h36.1) rfl) rfl rfl ?_)
  refine o_mv rfl rfl (o_mv rfl rfl (o_mv rfl rfl (o_mv rfl rfl (o_bd rfl rfl rfl ?_))))
  obtain ⟨a49, e50, hm⟩ := bs hm
  obtain ⟨p52, x51⟩ := atI_some' e50
  obtain ⟨b53, o54, ce55, hA56, hl57, hd58, v60, rfl, h61, r64, r65, r66⟩ := h42.elem x51
  obtain ⟨A62, c63, rfl⟩ := h61.form
  refine o_iaE (hA := hA56) (hj := (Int.toNat_of_nonneg p52).symm) (hlt := hl57) rfl rfl rfl ?_
  refine o_fa rfl rfl (l_setPart (a := a49) (a' := ({ a49 with link := (⟨x2, x3, x4⟩ : RLk) } : REn)) (off := 1) h42 hA56 x51 rfl rfl rfl (Nat.le_of_ble_eq_true rfl) (by first | exact allOne rfl | simp [Value.cells, Value.oneCell', errV_one]) (by rintro ce ⟨v69, rfl, h70, r73, r74, r75⟩; exact ⟨_, rfl, h70, rx2, rx3, rx4⟩) fun w67 S68 h42 => ?_)
  refine o_z ?_
  refine ewp_seq (ewp_region (o_as rfl rfl (o_z ?_)))
  refine ewp_ret ?_
  replace h36 := h36.st S68
  replace h39 := h39.st S68
  replace h47 := h47.st S68
  obtain ⟨O76, S77, hz79, ha80, h78⟩ := Reg.shut (x := (⟨x0.packer, (x0.entries.set (x1 : Int).toNat ({ a49 with link := (⟨x2, x3, x4⟩ : RLk) } : REn)), x0.table⟩ : Reg)) (l0 := 2) (l1 := 3) (l2 := 4) (l3 := 5) (by decide) (by have q := h36; rw [← ((by simp : (x0.entries.set (x1 : Int).toNat ({ a49 with link := (⟨x2, x3, x4⟩ : RLk) } : REn)).length = x0.entries.length).trans rfl)] at q; exact q) h39 h42.relen h47
  obtain rfl := sm hm
  replace hB := ((hB.st S35).st S68).st S77
  obtain ⟨O', hS', hz, hl⟩ := hE.leave (fun q => if q = 2 then i0 else 0) rfl hB
  exact ret1v rfl (res_tmp rfl) ⟨O', hS', (Ob.leave h78 hz (hl 2 (by decide) (by decide)) hx0.2), (vErr (show inI64 0 from by decide))⟩
noncomputable def m_slices_Reverse_Lint_int (x0 : List Int) : Option (List Int) :=
  bnd (chkI ((x0.length : Int) - 1)) fun n4 => bnd (lop (ρ := (List Int)) (fun (s9 : (List Int) × Int × Int) => if s9.2.1 < s9.2.2 then (bnd (atI s9.1 s9.2.2) fun a31 => bnd (atI s9.1 s9.2.1) fun a43 => bnd (atI s9.1 s9.2.1) fun a55 => bnd (atI (s9.1.set (s9.2.1 : Int).toNat a31) s9.2.2) fun a69 => bnd (chkI (s9.2.1 + 1)) fun n83 => bnd (chkI (s9.2.2 - 1)) fun n86 => some (.next (((s9.1.set (s9.2.1 : Int).toNat a31).set (s9.2.2 : Int).toNat a43), n83, n86))) else (some (.brk (s9.1, s9.2.1, s9.2.2)))) (x0, 0, n4)) fun res7 => fin res7 fun (s93 : (List Int) × Int × Int) => some s93.1
theorem c_slices_Reverse_Lint_int {w : World} {O : Lab} {A0 : Option Addr} {m0 c0 i0 : Nat} {x0 : List Int} (hx0 : Rw i0 w O 3 (.slice A0 m0 c0) x0) {r : (List Int)} (hm : m_slices_Reverse_Lint_int x0 = some r) :
    Fn Try.prog 80 [(.slice A0 m0 c0)] w fun v w' => ∃ O', St (eT i0) w O w' O' ∧ Rw i0 w' O' 3 (.slice A0 m0 c0) r := by
 obtain ⟨O0, hE, hz0, hl2⟩ := ent1 (w := w) (O := O) hx0.2.2
 obtain rfl : m0 = x0.length := hx0.len.1
 have hx0' := Rw.leave hx0 hz0 hl2 (j := 2) (by decide)
 have hB : Bm w O0 w O0 := Bm.refl
 refine fn_enter Try.func80 rfl Try.ntmps80 rfl ?_
 unfold m_slices_Reverse_Lint_int at hm
 refine ewp_seq (ewp_region (o_mv rfl rfl (o_ln rfl rfl ?_)))
 have l3 : x0.length ≤ 9223372036854775807 := Nat.le_trans hx0'.len.2.1 hx0'.len.2.2
 have r2 : inI64 (x0.length : Int) := rngNat l3
 obtain ⟨n4, e5, hm⟩ := bs hm
 have r6 := (chkI_rng e5)
 refine o_sbE (he := e5) rfl rfl rfl ?_
 refine o_as rfl rfl (o_as rfl rfl (o_z ?_))
 obtain ⟨res7, hL8, hm⟩ := bs hm
 refine ewp_join (aft res7 (fun (s9 : (List Int) × Int × Int) (x10 : Unit) => [(0, (.slice A0 x0.length c0))]) (fun s9 x10 w' => ∃ O' : Lab, Bm w O0 w' O' ∧ Rw 2 w' O' 3 (.slice A0 x0.length c0) s9.1 ∧ inI64 s9.2.1 ∧ inI64 s9.2.2)) ?_ ?_
 ·
  refine ewp_block (ewp_lop (σ := (List Int) × Int × Int) (X := Unit) hL8 (fun (s9 : (List Int) × Int × Int) (x10 : Unit) => [(0, (.slice A0 x0.length c0)), (2, (.int .i64 s9.2.1)), (3, (.int .i64 s9.2.2))]) _ (fun s9 x10 w' => ∃ O' : Lab, Bm w O0 w' O' ∧ Rw 2 w' O' 3 (.slice A0 x0.length c0) s9.1 ∧ inI64 s9.2.1 ∧ inI64 s9.2.2) _ () ⟨O0, hB, hx0', (show inI64 (0) from by decide), r6⟩ ⟨rfl, rfl, rfl, trivial⟩ ?_)
  rintro s9 x10 w13 cc15 ⟨O14, hB, h26, r28, r29⟩ hf17 hret18 hbrk19
  refine ewp_seq (ewp_seq (ewp_region (o_mv rfl rfl (o_mv rfl rfl (o_ltS rfl rfl rfl (fun c30 => ?_) fun c30 => ?_)))))
  ·
   replace hf17 := ip hf17 c30
   refine o_z ?_
   refine ewp_true rfl (ewp_skip (ewp_seq (ewp_block (ewp_drawX [(13, [2])] O14 ?_))))
   refine x_pre (fuel := 5) [] [(0, true), (1, true), (4, true), (5, true), (6, true), (7, true), (8, true), (9, true), (10, true), (11, true), (12, true)] (by kernel_rfl) rfl ?_
   refine h_mv rfl rfl rfl (h_mv rfl rfl rfl (h_mv rfl rfl rfl (h_mv rfl rfl rfl ?_)))
   obtain ⟨a31, e32, hf17⟩ := bs hf17
   obtain ⟨p34, x33⟩ := atI_some' e32
   obtain ⟨b35, o36, ce37, hA38, hF41, hl39, hd40, rfl, r42⟩ := h26.elemF x33
   refine h_iaE (hA := hA38) (hj := (Int.toNat_of_nonneg p34).symm) (hlt := hl39) rfl rfl rfl rfl ?_
   refine h_ldC (hc := fun w' ⟨O', hq⟩ => cat0 (cellsAt_agree (hq.agree (i := 2) (by decide)) hF41 hd40)) rfl rfl rfl ?_
   refine h_mv rfl rfl rfl (h_mv rfl rfl rfl ?_)
   obtain ⟨a43, e44, hf17⟩ := bs hf17
   obtain ⟨p46, x45⟩ := atI_some' e44
   obtain ⟨b47, o48, ce49, hA50, hF53, hl51, hd52, rfl, r54⟩ := h26.elemF x45
   refine h_iaE (hA := hA50) (hj := (Int.toNat_of_nonneg p46).symm) (hlt := hl51) rfl rfl rfl rfl ?_
   refine h_ldC (hc := fun w' ⟨O', hq⟩ => cat0 (cellsAt_agree (hq.agree (i := 2) (by decide)) hF53 hd52)) rfl rfl rfl ?_
   obtain ⟨a55, e56, hf17⟩ := bs hf17
   obtain ⟨p58, x57⟩ := atI_some' e56
   obtain ⟨b59, o60, ce61, hA62, hF65, hl63, hd64, rfl, r66⟩ := h26.elemF x57
   refine h_iaE (hA := hA62) (hj := (Int.toNat_of_nonneg p58).symm) (hlt := hl63) rfl rfl rfl rfl ?_
   refine hwp_nilT ?_
   refine x_pre (fuel := 3) [2] [(2, true), (3, true)] (by kernel_rfl) rfl ?_
   refine h_mv rfl rfl rfl (h_mv rfl rfl rfl (hwp_nilT ?_))
   refine x_one (i := 13) (by kernel_rfl) rfl ?_
   refine l_setE rfl h26 (a := a31) (vInt r42) hA62 rfl rfl (lt_of_get x57) fun w67 S68 h26 => ?_
   have hZ := S68.lst [2] (fun _ h => by cases h; decide)
   refine x_go [] hZ (by kernel_rfl) ?_
   refine x_pre (fuel := 1) [] [(14, true)] (by kernel_rfl) rfl ?_
   obtain ⟨a69, e70, hf17⟩ := bs hf17
   obtain ⟨p72, x71⟩ := atI_some' e70
   obtain ⟨b73, o74, ce75, hA76, hF79, hl77, hd78, rfl, r80⟩ := h26.elemF x71
   refine h_iaE (hA := hA76) (hj := (Int.toNat_of_nonneg p72).symm) (hlt := hl77) rfl rfl rfl rfl ?_
   refine hwp_nilT ?_
   refine x_one (i := 15) (by kernel_rfl) rfl ?_
   refine l_setE rfl h26 (a := a43) (vInt r54) hA76 rfl rfl (lt_of_get x71) fun w81 S82 h26 => ?_
   refine x_end (by kernel_rfl) ?_
   refine x_nil (by kernel_rfl) ?_
   refine ewp_region (o_mv rfl rfl ?_)
   obtain ⟨n83, e84, hf17⟩ := bs hf17
   have r85 := (chkI_rng e84)
   refine o_adE (he := e84) rfl rfl rfl ?_
   refine o_mv rfl rfl ?_
   obtain ⟨n86, e87, hf17⟩ := bs hf17
   have r88 := (chkI_rng e87)
   refine o_sbE (he := e87) rfl rfl rfl ?_
   refine o_as rfl rfl (o_as rfl rfl (o_z ?_))
   obtain rfl := sm hf17
   refine (?_ : Exists _)
   replace hB := (hB.st S68).st S82
   exact ⟨_, (), rfl, ⟨rfl, rfl, rfl, trivial⟩, _, hB, h26, r85, r88⟩
  ·
   replace hf17 := im hf17 c30
   refine o_z ?_
   refine ewp_false rfl (ewp_exit ?_)
   obtain rfl := sm hf17
   refine (?_ : Exists _)
   exact ⟨_, (), hbrk19 _ rfl, ⟨rfl, trivial⟩, _, hB, h26, r28, r29⟩
 rintro l89 w90 ⟨s93, x94, rfl, hs92, O91, hB, h26, r28, r29⟩
 replace hm := fin_done hm
 obtain rfl := sm hm
 obtain ⟨O', hS', hz, hl⟩ := hE.leave (fun q => if q = 2 then i0 else 0) rfl hB
 exact ret0n rfl  ⟨O', hS', (Rw.leave h26 hz (hl 2 (by decide) (by decide)) hx0.2.2)⟩
noncomputable def m_registry_Registry_Path (x0 : Reg) (x1 : Int) : Option ((List Int) × Err) :=
  bnd (m_registry_Registry_has x0 x1) fun q3 => if q3 = true then bnd (lop (ρ := (List Int) × Err) (fun (s14 : Int × (List Int)) => bnd (atI x0.entries s14.1) fun a48 => if a48.link.parent < 0 then (bnd (m_slices_Reverse_Lint_int s14.2) fun q74 => some (.ret (q74, (⟨0⟩ : Err)))) else (bnd (appI 8 s14.2 [a48.link.op]) fun u89 => if (x0.entries.length : Int) < (u89.length : Int) then (some (.ret (([] : List Int), (⟨21⟩ : Err)))) else (some (.next (a48.link.parent, u89))))) (x1, ([] : List Int))) fun res12 => fin res12 fun (_ : Int × (List Int)) => none else some (([] : List Int), (⟨1⟩ : Err))
theorem c_registry_Registry_Path {w : World} {O : Lab} {p0 i0 : Nat} {x0 : Reg} (hx0 : Ob i0 w O (.pointer (some ⟨p0, 0, none⟩)) x0) {x1 : Int} (rx1 : inI64 x1) {r : (List Int) × Err} (hm : m_registry_Registry_Path x0 x1 = some r) :
    Fn Try.prog 65 [(.pointer (some ⟨p0, 0, none⟩)), (.int .i64 x1)] w fun v w' => ∃ O', St (eT i0) w O w' O' ∧ ∃ v0 v1 : Value, Ob i0 w' O' (.pointer (some ⟨p0, 0, none⟩)) x0 ∧ v = .tuple #[v0, v1] ∧ Vb w' (Fr 0 w' O') v0 r.1 ∧ Vb w' (Fr 0 w' O') v1 r.2 := by
 obtain ⟨O0, hE, hz0, hl2⟩ := ent1 (w := w) (O := O) hx0.2
 have hx0' := Ob.leave hx0 hz0 hl2 (j := 2) (by decide)
 have hB : Bm w O0 w O0 := Bm.refl
 refine fn_enter Try.func65 rfl Try.ntmps65 rfl ?_
 unfold m_registry_Registry_Path at hm
 refine ewp_seq (ewp_region (o_as rfl rfl (o_as rfl rfl (o_z ?_))))
 refine ewp_seq (ewp_block (ewp_seq (ewp_region (o_mv rfl rfl (o_pn rfl rfl ?_)))))
 refine o_as rfl rfl (o_z ?_)
 refine ewp_false rfl (ewp_seq (ewp_region (o_mv rfl rfl (o_mv rfl rfl ?_))))
 obtain ⟨q3, e4, hm⟩ := bs hm
 refine l_callM (O := O0) (c_registry_Registry_has hx0' rx1 e4) rfl rfl fun v9 w5 O6 S7 h8 => ?_
 obtain ⟨h10, h11⟩ := h8
 obtain rfl := h11.bool
 cases q3
 case false =>
  replace hm := iF hm
  refine o_nf rfl rfl (o_as rfl rfl (o_z ?_))
  refine ewp_true rfl (ewp_seq (ewp_region (o_miE rfl rfl ?_)))
  refine o_as rfl rfl (o_as rfl rfl (o_z ?_))
  refine ewp_ret ?_
  obtain rfl := sm hm
  replace hB := hB.st S7
  obtain ⟨O', hS', hz, hl⟩ := hE.leave (fun q => if q = 2 then i0 else 0) rfl hB
  exact ret2 rfl (res_tmp rfl) (res_tmp rfl) ⟨O', hS', _, _, (Ob.leave h10 hz (hl 2 (by decide) (by decide)) hx0.2), rfl, (Vb.mono (Vb.nil _ _) hz), (vErr (by decide))⟩
 replace hm := iT hm
 refine o_nt rfl rfl (o_as rfl rfl (o_z ?_))
 refine ewp_false rfl (ewp_skip (ewp_seq (ewp_region (o_as rfl rfl (o_z ?_)))))
 obtain ⟨res12, hL13, hm⟩ := bs hm
 refine ewp_join (aft res12 (fun (s14 : Int × (List Int)) (x15 : (Option Addr × Nat)) => []) (fun s14 x15 w' => False)) ?_ ?_
 ·
  refine ewp_block ?_
  replace hB := hB.st S7
  refine ewp_lop (σ := Int × (List Int)) (X := (Option Addr × Nat)) hL13 (fun (s14 : Int × (List Int)) (x15 : (Option Addr × Nat)) => [(0, (.pointer (some ⟨p0, 0, none⟩))), (1, (.int .i64 s14.1)), (6, (.slice x15.1 s14.2.length x15.2))]) _ (fun s14 x15 w' => ∃ O' : Lab, Bm w O0 w' O' ∧ Ob 2 w' O' (.pointer (some ⟨p0, 0, none⟩)) x0 ∧ Rw 8 w' O' 3 (.slice x15.1 s14.2.length x15.2) s14.2 ∧ inI64 s14.1) _ (none, 0) ⟨O6, hB, h10, (Rw.nil 8 (by decide)), rx1⟩ ⟨rfl, rfl, rfl, trivial⟩ ?_
  rintro s14 x15 w18 cc20 ⟨O19, hB, h10, h31, r30⟩ hf22 hret23 hbrk24
  refine ewp_block (ewp_seq (ewp_region (o_mv rfl rfl (o_nc rfl rfl ?_))))
  obtain ⟨O33, v37, v40, v45, S34, ha36, h35, h38, h41, h46⟩ := Reg.opn h10 2 3 4 5 (by decide)
  obtain ⟨p39, rfl⟩ := h38.ptr
  obtain ⟨A42, c43, rfl⟩ := h41.form
  obtain ⟨p47, rfl⟩ := h46.mptr
  refine o_fa rfl rfl (o_ld (hc := Blk.cell (i := 1) (h35.1) rfl) rfl rfl ?_)
  refine o_mv rfl rfl ?_
  obtain ⟨a48, e49, hf22⟩ := bs hf22
  obtain ⟨p51, x50⟩ := atI_some' e49
  obtain ⟨b52, o53, ce54, hA55, hl56, hd57, v59, rfl, h60, r63, r64, r65⟩ := h41.elem x50
  obtain ⟨A61, c62, rfl⟩ := h60.form
  refine o_iaE (hA := hA55) (hj := (Int.toNat_of_nonneg p51).symm) (hlt := hl56) rfl rfl rfl ?_
  refine o_fa rfl rfl (o_la (hl := rfl) (hc := (cellsAt_part 1 3 hd57)) rfl rfl ?_)
  refine l_alloc 6 O33 rfl fun g66 w67 O68 S69 h70 => ?_
  refine l_store h70 rfl rfl rfl (Nat.le_of_ble_eq_true rfl) (by first | exact allOne rfl | simp [Value.cells, Value.oneCell', errV_one]) fun w71 S72 h70 => ?_
  replace h70 : Lc 6 w71 O68 g66 135 [(.int .i64 a48.link.parent), (.int .i64 a48.link.op), (.int .i64 a48.link.cost)] := h70
  refine o_z ?_
  refine ewp_seq (ewp_seq (ewp_region (o_fa rfl rfl (o_ld (hc := Blk.cell (i := 0) (h70.1) rfl) rfl rfl ?_))))
  refine o_ltS rfl rfl rfl (fun c73 => ?_) fun c73 => ?_
  ·
   replace hf22 := ip hf22 c73
   refine o_z ?_
   refine ewp_true rfl (ewp_seq (ewp_region (o_mv rfl rfl ?_)))
   obtain ⟨q74, e75, hf22⟩ := bs hf22
   replace h31 := ((h31.st S34).st S69).st S72
   refine l_callM (O := O68) (c_slices_Reverse_Lint_int h31 e75) rfl rfl fun v80 w76 O77 S78 h81 => ?_
   refine o_z ?_
   refine ewp_seq (ewp_region (o_mv rfl rfl (o_as rfl rfl (o_as rfl rfl (o_z ?_)))))
   refine ewp_ret ?_
   obtain ⟨O82, S83, h81⟩ := h81.freeze
   replace h35 := (((h35.st S69).st S72).st S78).st S83
   replace h38 := (((h38.st S69).st S72).st S78).st S83
   replace h41 := (((h41.st S69).st S72).st S78).st S83
   replace h46 := (((h46.st S69).st S72).st S78).st S83
   obtain ⟨O84, S85, hz87, ha88, h86⟩ := Reg.shut (x := x0) (l0 := 2) (l1 := 3) (l2 := 4) (l3 := 5) (by decide) h35 h38 h41 h46
   obtain rfl := sm hf22
   obtain rfl := hret23 _ rfl
   obtain rfl := sm (fin_ret hm)
   replace hB := (((((hB.st S34).st S69).st S72).st S78).st S83).st S85
   obtain ⟨O', hS', hz, hl⟩ := hE.leave (fun q => if q = 2 then i0 else 0) rfl hB
   replace h81 := h81.st S85
   exact ret2 rfl (res_tmp rfl) (res_tmp rfl) ⟨O', hS', _, _, (Ob.leave h86 hz (hl 2 (by decide) (by decide)) hx0.2), rfl, (Vb.mono h81 hz), (vErr (show inI64 0 from by decide))⟩
  ·
   replace hf22 := im hf22 c73
   refine o_z ?_
   refine ewp_false rfl (ewp_skip (ewp_seq (ewp_region (o_mv rfl rfl (o_fa rfl rfl (o_ld (hc := Blk.cell (i := 1) (h70.1) rfl) rfl rfl ?_))))))
   obtain ⟨u89, e90, hf22⟩ := bs hf22
   obtain ⟨e90, e91, e92⟩ := appI_some e90
   replace h31 := ((h31.st S34).st S69).st S72
   refine l_append1 rfl (a := a48.link.op) h31 (vInt r64) (fun _ => rfl) rfl (by decide) (by decide) e91 e92 ⟨rfl, rfl⟩ fun g93 A94 c95 w96 O97 S98 h99 => ?_
   rw [← e90] at h99 ⊢
   refine o_as rfl rfl (o_z ?_)
   refine ewp_seq (ewp_seq (ewp_region (o_mv rfl rfl (o_ln rfl rfl ?_))))
   have l102 : u89.length ≤ 9223372036854775807 := Nat.le_trans h99.len.2.1 h99.len.2.2
   have r101 : inI64 (u89.length : Int) := rngNat l102
   refine o_mv rfl rfl (o_nc rfl rfl (o_fa rfl rfl ?_))
   replace h35 := ((h35.st S69).st S72).st S98
   refine o_ld (hc := Blk.cell (i := 1) (h35.1) rfl) rfl rfl ?_
   refine o_ln rfl rfl ?_
   replace h41 := ((h41.st S69).st S72).st S98
   have l104 : x0.entries.length ≤ 9223372036854775807 := Nat.le_trans h41.len.2.1 h41.len.2.2
   have r103 : inI64 (x0.entries.length : Int) := rngNat l104
   refine o_gtS rfl rfl rfl (fun c105 => ?_) fun c105 => ?_
   ·
    replace hf22 := ip hf22 c105
    refine o_z ?_
    refine ewp_true rfl (ewp_seq (ewp_region (o_miE rfl rfl ?_)))
    refine o_as rfl rfl (o_as rfl rfl (o_z ?_))
    refine ewp_ret ?_
    replace h38 := ((h38.st S69).st S72).st S98
    replace h46 := ((h46.st S69).st S72).st S98
    obtain ⟨O106, S107, hz109, ha110, h108⟩ := Reg.shut (x := x0) (l0 := 2) (l1 := 3) (l2 := 4) (l3 := 5) (by decide) h35 h38 h41 h46
    obtain rfl := sm hf22
    obtain rfl := hret23 _ rfl
    obtain rfl := sm (fin_ret hm)
    replace hB := ((((hB.st S34).st S69).st S72).st S98).st S107
    obtain ⟨O', hS', hz, hl⟩ := hE.leave (fun q => if q = 2 then i0 else 0) rfl hB
    exact ret2 rfl (res_tmp rfl) (res_tmp rfl) ⟨O', hS', _, _, (Ob.leave h108 hz (hl 2 (by decide) (by decide)) hx0.2), rfl, (Vb.mono (Vb.nil _ _) hz), (vErr (by decide))⟩
   ·
    replace hf22 := im hf22 c105
    refine o_z ?_
    refine ewp_false rfl (ewp_skip (ewp_region (o_fa rfl rfl ?_)))
    replace h70 := h70.st S98
    refine o_ld (hc := Blk.cell (i := 0) (h70.1) rfl) rfl rfl ?_
    refine o_as rfl rfl (o_z ?_)
    replace h38 := ((h38.st S69).st S72).st S98
    replace h46 := ((h46.st S69).st S72).st S98
    obtain ⟨O111, S112, hz114, ha115, h113⟩ := Reg.shut (x := x0) (l0 := 2) (l1 := 3) (l2 := 4) (l3 := 5) (by decide) h35 h38 h41 h46
    obtain rfl := sm hf22
    refine (?_ : Exists _)
    replace hB := ((((hB.st S34).st S69).st S72).st S98).st S112
    replace h99 := h99.st S112
    exact ⟨_, (A94, c95), rfl, ⟨rfl, rfl, rfl, trivial⟩, _, hB, h113, h99, r63⟩
 rintro l116 w117 ⟨s120, x121, _, _, hE⟩
 exact hE.elim
end
section
open Go Go.RowKit
attribute [local irreducible] ewp owp hwp hwq Ev Evg Fn retPost Res1
attribute [local irreducible] hwx loudX
structure QEn where
  key : Int
  tie : Int
  item : Int
  number : Int
instance : Rp QEn where
  isAgg := true
  size := 4
  R w F cs x := cs = [.int .i64 x.key, .int .i64 x.tie, .int .i64 x.item, .int .i64 x.number] ∧ inI64 x.key ∧ inI64 x.tie ∧ inI64 x.item ∧ inI64 x.number
  len := by rintro w F cs x ⟨rfl, h0, h1, h2, h3⟩; rfl
  one := by rintro w F cs x ⟨rfl, h0, h1, h2, h3⟩ u hu; simp at hu; rcases hu with rfl | rfl | rfl | rfl <;> first | rfl | exact Vb.one rfl (by assumption)
  agree := by rintro w w' F cs x ⟨rfl, h0, h1, h2, h3⟩ ha; exact ⟨rfl, h0, h1, h2, h3⟩
  mono := by rintro w F G cs x ⟨rfl, h0, h1, h2, h3⟩ ha; exact ⟨rfl, h0, h1, h2, h3⟩
structure Que where
  heap : List QEn
  next : Int
instance : Ow Que where
  R w F M v x := ∃ (g : Nat) (L : Lab) (c0 : Value), v = .pointer (some ⟨g, 0, none⟩) ∧ Blk w g 109 [c0, .int .i64 x.next] ∧ M g ∧ L g = 0 ∧ RwM w F (fun k => M k ∧ L k = 1) 140 c0 x.heap ∧ inI64 x.next
  agree := by rintro w w' F M v x ⟨g, L, c0, rfl, hb, hM, hL, h0, h1⟩ a1 a2; exact ⟨g, L, c0, rfl, hb.keep (a2 g hM), hM, hL, h0.agree a1 fun k hk => a2 k hk.1, h1⟩
  mono := by rintro w F M F' M' v x ⟨g, L, c0, rfl, hb, hM, hL, h0, h1⟩ a1 a2 a3; exact ⟨g, L, c0, rfl, hb, a2 g hM, hL, h0.mono a1 (fun k hk => ⟨a2 k hk.1, hk.2⟩) fun k hf hm => a3 k hf hm.1, h1⟩
instance : OwP Que := ⟨by rintro w F M v x ⟨g, L, c0, rfl, _⟩; exact ⟨g, rfl⟩⟩
theorem Que.opn {i : Nat} {w : World} {O : Lab} {p : Nat} {x : Que} (h : Ob i w O (.pointer (some ⟨p, 0, none⟩)) x) (l0 l1 : Nat) (hl : l0 ≠ 0 ∧ l1 ≠ 0) : ∃ (O' : Lab) (c0 : Value), St (eT i) w O w O' ∧ (∀ k, Fr i w O k → ∃ q, q ∈ [l0, l1] ∧ Fr q w O' k) ∧ Lc l0 w O' p 109 [c0, .int .i64 x.next] ∧ Rw l1 w O' 140 c0 x.heap ∧ inI64 x.next := by
  obtain ⟨⟨g, L, c0, hv, hb, hM, hL, h0, h1⟩, hi⟩ := h
  obtain rfl : p = g := by injection hv with hv; injection hv with hv; injection hv
  exact ⟨part O i L [l0, l1], c0, part_st hi, part_all (by simp), ⟨hb, (part_fr (j := 0) rfl p ⟨hM, hL⟩).2⟩, h0.rw (part_fr0 hi) (part_fr (j := 1) rfl) hl.2, h1⟩
theorem Que.shut {w : World} {O : Lab} {p : Nat} {x : Que} {l0 l1 : Nat} {c0 : Value} (hd : ¬ 0 ∈ [l0, l1] ∧ [l0, l1].idxOf l0 = 0 ∧ [l0, l1].idxOf l1 = 1) (hb : Lc l0 w O p 109 [c0, .int .i64 x.next]) (h0 : Rw l1 w O 140 c0 x.heap) (h1 : inI64 x.next) : ∃ O', St (· ∈ [l0, l1]) w O w O' ∧ (∀ k, Fr 0 w O k → Fr 0 w O' k) ∧ (∀ q, q ∈ [l0, l1] → ∀ k, Fr q w O k → Fr l0 w O' k) ∧ Ob l0 w O' (.pointer (some ⟨p, 0, none⟩)) x := by
  have hb1 : l0 ≠ 0 := fun e => hd.1 (by simp [e])
  have hg := whole_fr (i := l0) hd.2.1 (by simp) p ⟨hb.1.lt, hb.2⟩
  exact ⟨whole O l0 [l0, l1], whole_st, whole_fr0 hd.1, whole_all, ⟨p, fun k => [l0, l1].idxOf (O k), c0, rfl, hb.1, hg.1, hg.2, h0.m (whole_fr0 hd.1) (whole_fr hd.2.2 (by simp)) (fun k a b => frNe0 hb1 k a b.1), h1⟩, hb1⟩
noncomputable def m_pqueue_New  : Option (Option Que) :=
  some (some (⟨([] : List QEn), 0⟩ : Que))
theorem c_pqueue_New {w : World} {O : Lab} (j0 : Nat) (hj0 : j0 ≠ 0) {r : (Option Que)} (hm : m_pqueue_New  = some r) :
    Fn Try.prog 40 [] w fun v w' => ∃ O', St nT w O w' O' ∧ Obo j0 w' O' v r := by
 obtain ⟨O0, hE, hz0⟩ := ent0 (w := w) (O := O)
 have hB : Bm w O0 w O0 := Bm.refl
 refine fn_enter Try.func40 rfl Try.ntmps40 rfl ?_
 unfold m_pqueue_New at hm
 refine ewp_seq (ewp_region (o_as rfl rfl (o_z ?_)))
 refine ewp_seq (ewp_region (o_bd rfl rfl rfl ?_))
 refine l_box 2 O0 rfl rfl fun g1 w2 O3 S4 h5 => ?_
 replace h5 : Lc 2 w2 O3 g1 109 [(.slice none 0 0), (.int .i64 0)] := h5
 refine o_as rfl rfl (o_z ?_)
 refine ewp_ret ?_
 have h6 : Rw 3 w2 O3 140 (.slice none 0 0) ([] : List QEn) := Rw.nil 3 (by decide)
 obtain ⟨O8, S9, hz11, ha12, h10⟩ := Que.shut (x := (⟨([] : List QEn), 0⟩ : Que)) (l0 := 2) (l1 := 3) (by decide) h5 h6 (show inI64 0 from by decide)
 obtain rfl := sm hm
 replace hB := (hB.st S4).st S9
 obtain ⟨O', hS', hz, hl⟩ := hE.leave (fun q => if q = 2 then j0 else 0) rfl hB
 exact ret1v rfl (res_tmp rfl) ⟨O', hS', (Ob.leave h10 hz (hl 2 (by decide) (by decide)) hj0)⟩
noncomputable def m_pqueue_before (x0 : QEn) (x1 : QEn) : Option Bool :=
  if x0.key ≠ x1.key then (bnd (if x0.key < x1.key then (some true) else (some false) : Option Bool) fun y24 => some y24) else (if x0.tie ≠ x1.tie then (bnd (if x0.tie < x1.tie then (some true) else (some false) : Option Bool) fun y34 => some y34) else (bnd (if x0.number < x1.number then (some true) else (some false) : Option Bool) fun y43 => some y43))
theorem c_pqueue_before {w : World} {A : Nat → Prop} (hA : ∀ k, A k → k < w.heap.size) {vx0 : Value} {x0 : QEn} (hx0 : Vb w A vx0 x0) {vx1 : Value} {x1 : QEn} (hx1 : Vb w A vx1 x1) {r : Bool} (hm : m_pqueue_before x0 x1 = some r) :
    Fn Try.prog 99 [vx0, vx1] w fun v w' => Ext w w' ∧ Vb w' (upA A w w') v r := by
 obtain ⟨O, hB, hA0⟩ := enter hA
 replace hx0 := hx0.mono hA0
 obtain ⟨cs3, rfl, rfl, r4, r5, r6, r7⟩ := hx0
 replace hx1 := hx1.mono hA0
 obtain ⟨cs8, rfl, rfl, r9, r10, r11, r12⟩ := hx1
 refine fn_enter Try.func99 rfl Try.ntmps99 rfl ?_
 unfold m_pqueue_before at hm
 refine ewp_seq (ewp_region (l_box 2 O rfl rfl fun g13 w14 O15 S16 h17 => ?_))
 replace h17 : Lc 2 w14 O15 g13 140 [(.int .i64 x0.key), (.int .i64 x0.tie), (.int .i64 x0.item), (.int .i64 x0.number)] := h17
 refine l_box 3 O15 rfl rfl fun g18 w19 O20 S21 h22 => ?_
 replace h22 : Lc 3 w19 O20 g18 140 [(.int .i64 x1.key), (.int .i64 x1.tie), (.int .i64 x1.item), (.int .i64 x1.number)] := h22
 refine o_as rfl rfl (o_z ?_)
 refine ewp_seq (ewp_seq (ewp_region (o_fa rfl rfl ?_)))
 replace h17 := h17.st S21
 refine o_ld (hc := Blk.cell (i := 0) (h17.1) rfl) rfl rfl ?_
 refine o_fa rfl rfl (o_ld (hc := Blk.cell (i := 0) (h22.1) rfl) rfl rfl ?_)
 refine o_neS rfl rfl rfl (fun c23 => ?_) fun c23 => ?_
 ·
  replace hm := ip hm c23
  refine o_z ?_
  refine ewp_true rfl (ewp_seq ?_)
  obtain ⟨y24, hy25, hm⟩ := bs hm
  refine ewp_join (fun l' w' => ∃ (x27 : Unit) (O' : Lab), subs l' [(4, (.bool y24))] ∧ Bs w A w' O') ?_ ?_
  ·
   refine ewp_region (o_fa rfl rfl (o_ld (hc := Blk.cell (i := 0) (h17.1) rfl) rfl rfl ?_))
   refine o_fa rfl rfl (o_ld (hc := Blk.cell (i := 0) (h22.1) rfl) rfl rfl ?_)
   refine o_ltS rfl rfl rfl (fun c28 => ?_) fun c28 => ?_
   ·
    replace hy25 := ip hy25 c28
    refine o_as rfl rfl (o_z ?_)
    obtain rfl := sm hy25
    replace hB := (hB.st S16).st S21
    exact ⟨(), _, ⟨rfl, trivial⟩, hB⟩
   ·
    replace hy25 := im hy25 c28
    refine o_as rfl rfl (o_z ?_)
    obtain rfl := sm hy25
    replace hB := (hB.st S16).st S21
    exact ⟨(), _, ⟨rfl, trivial⟩, hB⟩
  replace hB := (hB.st S16).st S21
  rintro l29 w30 ⟨x27, O31, hs32, hB⟩
  refine ewp_sub _ hs32 ?_
  refine ewp_ret ?_
  obtain rfl := sm hm
  exact ret1v rfl (res_tmp rfl) ⟨hB.ext, vBool⟩
 ·
  replace hm := im hm c23
  refine o_z ?_
  refine ewp_false rfl (ewp_skip (ewp_seq (ewp_seq (ewp_region (o_fa rfl rfl (o_ld (hc := Blk.cell (i := 1) (h17.1) rfl) rfl rfl ?_))))))
  refine o_fa rfl rfl (o_ld (hc := Blk.cell (i := 1) (h22.1) rfl) rfl rfl ?_)
  refine o_neS rfl rfl rfl (fun c33 => ?_) fun c33 => ?_
  ·
   replace hm := ip hm c33
   refine o_z ?_
   refine ewp_true rfl (ewp_seq ?_)
   obtain ⟨y34, hy35, hm⟩ := bs hm
   refine ewp_join (fun l' w' => ∃ (x37 : Unit) (O' : Lab), subs l' [(4, (.bool y34))] ∧ Bs w A w' O') ?_ ?_
   ·
    refine ewp_region (o_fa rfl rfl (o_ld (hc := Blk.cell (i := 1) (h17.1) rfl) rfl rfl ?_))
    refine o_fa rfl rfl (o_ld (hc := Blk.cell (i := 1) (h22.1) rfl) rfl rfl ?_)
    refine o_ltS rfl rfl rfl (fun c38 => ?_) fun c38 => ?_
    ·
     replace hy35 := ip hy35 c38
     refine o_as rfl rfl (o_z ?_)
     obtain rfl := sm hy35
     replace hB := (hB.st S16).st S21
     exact ⟨(), _, ⟨rfl, trivial⟩, hB⟩
    ·
     replace hy35 := im hy35 c38
     refine o_as rfl rfl (o_z ?_)
     obtain rfl := sm hy35
     replace hB := (hB.st S16).st S21
     exact ⟨(), _, ⟨rfl, trivial⟩, hB⟩
   replace hB := (hB.st S16).st S21
   rintro l39 w40 ⟨x37, O41, hs42, hB⟩
   refine ewp_sub _ hs42 ?_
   refine ewp_ret ?_
   obtain rfl := sm hm
   exact ret1v rfl (res_tmp rfl) ⟨hB.ext, vBool⟩
  ·
   replace hm := im hm c33
   refine o_z ?_
   refine ewp_false rfl (ewp_skip (ewp_seq ?_))
   obtain ⟨y43, hy44, hm⟩ := bs hm
   refine ewp_join (fun l' w' => ∃ (x46 : Unit) (O' : Lab), subs l' [(4, (.bool y43))] ∧ Bs w A w' O') ?_ ?_
   ·
    refine ewp_region (o_fa rfl rfl (o_ld (hc := Blk.cell (i := 3) (h17.1) rfl) rfl rfl ?_))
    refine o_fa rfl rfl (o_ld (hc := Blk.cell (i := 3) (h22.1) rfl) rfl rfl ?_)
    refine o_ltS rfl rfl rfl (fun c47 => ?_) fun c47 => ?_
    ·
     replace hy44 := ip hy44 c47
     refine o_as rfl rfl (o_z ?_)
     obtain rfl := sm hy44
     replace hB := (hB.st S16).st S21
     exact ⟨(), _, ⟨rfl, trivial⟩, hB⟩
    ·
     replace hy44 := im hy44 c47
     refine o_as rfl rfl (o_z ?_)
     obtain rfl := sm hy44
     replace hB := (hB.st S16).st S21
     exact ⟨(), _, ⟨rfl, trivial⟩, hB⟩
   replace hB := (hB.st S16).st S21
   rintro l48 w49 ⟨x46, O50, hs51, hB⟩
   refine ewp_sub _ hs51 ?_
   refine ewp_ret ?_
   obtain rfl := sm hm
   exact ret1v rfl (res_tmp rfl) ⟨hB.ext, vBool⟩
noncomputable def m_pqueue_Queue_Len (x0 : Que) : Option Int :=
  some (x0.heap.length : Int)
theorem c_pqueue_Queue_Len {w : World} {O : Lab} {p0 i0 : Nat} {x0 : Que} (hx0 : Ob i0 w O (.pointer (some ⟨p0, 0, none⟩)) x0) {r : Int} (hm : m_pqueue_Queue_Len x0 = some r) :
    Fn Try.prog 61 [(.pointer (some ⟨p0, 0, none⟩))] w fun v w' => ∃ O', St (eT i0) w O w' O' ∧ Ob i0 w' O' (.pointer (some ⟨p0, 0, none⟩)) x0 ∧ Vb w' (Fr 0 w' O') v r := by
 obtain ⟨O0, hE, hz0, hl2⟩ := ent1 (w := w) (O := O) hx0.2
 have hx0' := Ob.leave hx0 hz0 hl2 (j := 2) (by decide)
 have hB : Bm w O0 w O0 := Bm.refl
 refine fn_enter Try.func61 rfl Try.ntmps61 rfl ?_
 unfold m_pqueue_Queue_Len at hm
 refine ewp_seq (ewp_region (o_as rfl rfl (o_z ?_)))
 refine ewp_seq (ewp_seq (ewp_region (o_mv rfl rfl (o_pn rfl rfl ?_))))
 refine o_z ?_
 refine ewp_false rfl (ewp_skip (ewp_seq (ewp_region (o_mv rfl rfl (o_nc rfl rfl ?_)))))
 obtain ⟨O2, v6, S3, ha5, h4, h7, r11⟩ := Que.opn hx0' 2 3 (by decide)
 obtain ⟨A8, c9, rfl⟩ := h7.form
 refine o_fa rfl rfl (o_ld (hc := Blk.cell (i := 0) (h4.1) rfl) rfl rfl ?_)
 refine o_ln rfl rfl ?_
 have l13 : x0.heap.length ≤ 9223372036854775807 := Nat.le_trans h7.len.2.1 h7.len.2.2
 have r12 : inI64 (x0.heap.length : Int) := rngNat l13
 refine o_as rfl rfl (o_z ?_)
 refine ewp_ret ?_
 obtain ⟨O14, S15, hz17, ha18, h16⟩ := Que.shut (x := x0) (l0 := 2) (l1 := 3) (by decide) h4 h7 r11
 obtain rfl := sm hm
 replace hB := (hB.st S3).st S15
 obtain ⟨O', hS', hz, hl⟩ := hE.leave (fun q => if q = 2 then i0 else 0) rfl hB
 exact ret1v rfl (res_tmp rfl) ⟨O', hS', (Ob.leave h16 hz (hl 2 (by decide) (by decide)) hx0.2), (vInt r12)⟩
noncomputable def m_pqueue_Queue_Peek (x0 : Que) : Option (Int × Int × Int × Err) :=
  if (x0.heap.length : Int) = 0 then (some (0, 0, 0, (⟨3⟩ : Err))) else (bnd (atI x0.heap 0) fun a20 => some (a20.key, a20.tie, a20.item, (⟨0⟩ : Err)))
theorem c_pqueue_Queue_Peek {w : World} {O : Lab} {p0 i0 : Nat} {x0 : Que} (hx0 : Ob i0 w O (.pointer (some ⟨p0, 0, none⟩)) x0) {r : Int × Int × Int × Err} (hm : m_pqueue_Queue_Peek x0 = some r) :
    Fn Try.prog 77 [(.pointer (some ⟨p0, 0, none⟩))] w fun v w' => ∃ O', St (eT i0) w O w' O' ∧ ∃ v0 v1 v2 v3 : Value, Ob i0 w' O' (.pointer (some ⟨p0, 0, none⟩)) x0 ∧ v = .tuple #[v0, v1, v2, v3] ∧ Vb w' (Fr 0 w' O') v0 r.1 ∧ Vb w' (Fr 0 w' O') v1 r.2.1 ∧ Vb w' (Fr 0 w' O') v2 r.2.2.1 ∧ Vb w' (Fr 0 w' O') v3 r.2.2.2 := by
 obtain ⟨O0, hE, hz0, hl2⟩ := ent1 (w := w) (O := O) hx0.2
 have hx0' := Ob.leave hx0 hz0 hl2 (j := 2) (by decide)
 have hB : Bm w O0 w O0 := Bm.refl
 refine fn_enter Try.func77 rfl Try.ntmps77 rfl ?_
 unfold m_pqueue_Queue_Peek at hm
 refine ewp_seq (ewp_region (o_as rfl rfl (o_as rfl rfl (o_as rfl rfl (o_as rfl rfl (o_z ?_))))))
 refine ewp_seq (ewp_seq (ewp_region (o_mv rfl rfl (o_pn rfl rfl ?_))))
 refine o_mv rfl rfl (owp_yes rfl rfl (o_mv rfl rfl (owp_yes rfl rfl (o_nc rfl rfl (owp_yes rfl rfl ?_)))))
 obtain ⟨O2, v6, S3, ha5, h4, h7, r11⟩ := Que.opn hx0' 2 3 (by decide)
 obtain ⟨A8, c9, rfl⟩ := h7.form
 refine o_fa rfl rfl (owp_yes rfl rfl (o_ld (hc := Blk.cell (i := 0) (h4.1) rfl) rfl rfl ?_))
 refine owp_yes rfl rfl (o_ln rfl rfl ?_)
 have l13 : x0.heap.length ≤ 9223372036854775807 := Nat.le_trans h7.len.2.1 h7.len.2.2
 have r12 : inI64 (x0.heap.length : Int) := rngNat l13
 refine owp_yes rfl rfl (o_eeS rfl rfl rfl (fun c14 => ?_) fun c14 => ?_)
 ·
  replace hm := ip hm c14
  refine o_pf rfl rfl rfl (o_z ?_)
  refine ewp_true rfl (ewp_seq (ewp_region (o_miE rfl rfl ?_)))
  refine o_as rfl rfl (o_as rfl rfl (o_as rfl rfl (o_as rfl rfl (o_z ?_))))
  refine ewp_ret ?_
  obtain ⟨O15, S16, hz18, ha19, h17⟩ := Que.shut (x := x0) (l0 := 2) (l1 := 3) (by decide) h4 h7 r11
  obtain rfl := sm hm
  replace hB := (hB.st S3).st S16
  obtain ⟨O', hS', hz, hl⟩ := hE.leave (fun q => if q = 2 then i0 else 0) rfl hB
  exact ret4 rfl (res_tmp rfl) (res_tmp rfl) (res_tmp rfl) (res_tmp rfl) ⟨O', hS', _, _, _, _, (Ob.leave h17 hz (hl 2 (by decide) (by decide)) hx0.2), rfl, (vInt (show inI64 (0) from by decide)), (vInt (show inI64 (0) from by decide)), (vInt (show inI64 (0) from by decide)), (vErr (by decide))⟩
 ·
  replace hm := im hm c14
  refine o_pf rfl rfl rfl (o_z ?_)
  refine ewp_false rfl (ewp_skip (ewp_seq (ewp_region (o_mv rfl rfl (o_nc rfl rfl (o_fa rfl rfl (o_ld (hc := Blk.cell (i := 0) (h4.1) rfl) rfl rfl ?_)))))))
  obtain ⟨a20, e21, hm⟩ := bs hm
  obtain ⟨p23, x22⟩ := atI_some' e21
  obtain ⟨b24, o25, ce26, hA27, hl28, hd29, rfl, r31, r32, r33, r34⟩ := h7.elem x22
  refine o_iaE (hA := hA27) (hj := (Int.toNat_of_nonneg p23).symm) (hlt := hl28) rfl rfl rfl ?_
  refine o_la (hl := rfl) (hc := hd29) rfl rfl ?_
  refine l_alloc 4 O2 rfl fun g35 w36 O37 S38 h39 => ?_
  refine l_store h39 rfl rfl rfl (Nat.le_of_ble_eq_true rfl) (by first | exact allOne rfl | simp [Value.cells, Value.oneCell', errV_one]) fun w40 S41 h39 => ?_
  replace h39 : Lc 4 w40 O37 g35 140 [(.int .i64 a20.key), (.int .i64 a20.tie), (.int .i64 a20.item), (.int .i64 a20.number)] := h39
  refine o_z ?_
  refine ewp_seq (ewp_draw (· = w40) [(0, true), (1, true), (2, true), (3, true), (4, true), (5, true), (6, true), (7, true), (8, true), (9, true)] (by kernel_rfl) rfl (by kernel_rfl) rfl ?_)
  refine h_fa rfl rfl rfl (h_ldA (hc := Blk.cell (i := 0) (h39.1) rfl) rfl rfl rfl ?_)
  refine h_fa rfl rfl rfl (h_ldA (hc := Blk.cell (i := 1) (h39.1) rfl) rfl rfl rfl ?_)
  refine h_fa rfl rfl rfl (h_ldA (hc := Blk.cell (i := 2) (h39.1) rfl) rfl rfl rfl ?_)
  refine h_as rfl rfl rfl (h_as rfl rfl rfl (h_as rfl rfl rfl (h_as rfl rfl rfl (h_z ?_))))
  refine ewp_ret ?_
  replace h4 := (h4.st S38).st S41
  replace h7 := (h7.st S38).st S41
  obtain ⟨O42, S43, hz45, ha46, h44⟩ := Que.shut (x := x0) (l0 := 2) (l1 := 3) (by decide) h4 h7 r11
  obtain rfl := sm hm
  replace hB := (((hB.st S3).st S38).st S41).st S43
  obtain ⟨O', hS', hz, hl⟩ := hE.leave (fun q => if q = 2 then i0 else 0) rfl hB
  exact ret4 rfl (res_tmp rfl) (res_tmp rfl) (res_tmp rfl) (res_tmp rfl) ⟨O', hS', _, _, _, _, (Ob.leave h44 hz (hl 2 (by decide) (by decide)) hx0.2), rfl, (vInt r31), (vInt r32), (vInt r33), (vErr (show inI64 0 from by decide))⟩
noncomputable def m_pqueue_Queue_up (x0 : Que) (x1 : Int) : Option Que :=
  bnd (lop (ρ := Que) (fun (s5 : Int × Que) => if 0 < s5.1 then (bnd (chkI (s5.1 - 1)) fun n23 => bnd (quoI n23 2) fun n26 => bnd (atI s5.2.heap s5.1) fun a39 => bnd (atI s5.2.heap n26) fun a54 => bnd (m_pqueue_before a39 a54) fun q69 => if q69 = true then bnd (atI s5.2.heap n26) fun a81 => bnd (atI s5.2.heap s5.1) fun a96 => bnd (atI s5.2.heap s5.1) fun a111 => bnd (atI (s5.2.heap.set (s5.1 : Int).toNat a81) n26) fun a128 => some (.next (n26, (⟨((s5.2.heap.set (s5.1 : Int).toNat a81).set (n26 : Int).toNat a96), s5.2.next⟩ : Que))) else some (.ret s5.2)) else (some (.brk (s5.1, s5.2)))) (x1, x0)) fun res3 => fin res3 fun (s154 : Int × Que) => some s154.2
theorem c_pqueue_Queue_up {w : World} {O : Lab} {p0 i0 : Nat} {x0 : Que} (hx0 : Ob i0 w O (.pointer (some ⟨p0, 0, none⟩)) x0) {x1 : Int} (rx1 : inI64 x1) {r : Que} (hm : m_pqueue_Queue_up x0 x1 = some r) :
    Fn Try.prog 76 [(.pointer (some ⟨p0, 0, none⟩)), (.int .i64 x1)] w fun v w' => ∃ O', St (eT i0) w O w' O' ∧ Ob i0 w' O' (.pointer (some ⟨p0, 0, none⟩)) r := by
 obtain ⟨O0, hE, hz0, hl2⟩ := ent1 (w := w) (O := O) hx0.2
 have hx0' := Ob.leave hx0 hz0 hl2 (j := 2) (by decide)
 have hB : Bm w O0 w O0 := Bm.refl
 refine fn_enter Try.func76 rfl Try.ntmps76 rfl ?_
 unfold m_pqueue_Queue_up at hm
 obtain ⟨res3, hL4, hm⟩ := bs hm
 refine ewp_join (aft res3 (fun (s5 : Int × Que) (x6 : Unit) => []) (fun s5 x6 w' => ∃ O' : Lab, Bm w O0 w' O' ∧ Ob 2 w' O' (.pointer (some ⟨p0, 0, none⟩)) s5.2 ∧ inI64 s5.1)) ?_ ?_
 ·
  refine ewp_block (ewp_lop (σ := Int × Que) (X := Unit) hL4 (fun (s5 : Int × Que) (x6 : Unit) => [(0, (.pointer (some ⟨p0, 0, none⟩))), (1, (.int .i64 s5.1))]) _ (fun s5 x6 w' => ∃ O' : Lab, Bm w O0 w' O' ∧ Ob 2 w' O' (.pointer (some ⟨p0, 0, none⟩)) s5.2 ∧ inI64 s5.1) _ () ⟨O0, hB, hx0', rx1⟩ ⟨rfl, rfl, trivial⟩ ?_)
  rintro s5 x6 w9 cc11 ⟨O10, hB, h21, r20⟩ hf13 hret14 hbrk15
  refine ewp_seq (ewp_seq (ewp_region (o_mv rfl rfl (o_gtS rfl rfl rfl (fun c22 => ?_) fun c22 => ?_))))
  ·
   replace hf13 := ip hf13 c22
   refine o_z ?_
   refine ewp_true rfl (ewp_skip (ewp_block (ewp_seq (ewp_region (o_mv rfl rfl ?_)))))
   obtain ⟨n23, e24, hf13⟩ := bs hf13
   have r25 := (chkI_rng e24)
   refine o_sbE (he := e24) rfl rfl rfl ?_
   obtain ⟨n26, e27, hf13⟩ := bs hf13
   have r28 := quoI_in e27 r25
   refine o_quE (he := e27) (hr := r25) rfl rfl rfl ?_
   refine o_as rfl rfl (o_z ?_)
   refine ewp_seq (ewp_seq ?_)
   obtain ⟨O29, v33, S30, ha32, h31, h34, r38⟩ := Que.opn h21 2 3 (by decide)
   obtain ⟨A35, c36, rfl⟩ := h34.form
   refine ewp_drawX [(14, [])] O29 ?_
   refine x_pre (fuel := 2) [] [(0, true), (1, true), (2, true), (3, true), (4, true), (5, true), (6, true), (7, true), (8, true), (9, true), (10, true), (11, true), (12, true), (13, true)] (by kernel_rfl) rfl ?_
   refine h_mv rfl rfl rfl (h_nc rfl rfl rfl (h_fa rfl rfl rfl (h_ldC (hc := fun w' ⟨O', hq⟩ => Blk.cell (i := 0) ((h31.st hq (by decide)).1) rfl) rfl rfl rfl ?_)))
   refine h_mv rfl rfl rfl ?_
   obtain ⟨a39, e40, hf13⟩ := bs hf13
   obtain ⟨p42, x41⟩ := atI_some' e40
   obtain ⟨b43, o44, ce45, hA46, hF49, hl47, hd48, rfl, r50, r51, r52, r53⟩ := h34.elemF x41
   refine h_iaE (hA := hA46) (hj := (Int.toNat_of_nonneg p42).symm) (hlt := hl47) rfl rfl rfl rfl ?_
   refine h_laB (hl := rfl) (hb := fun w' ⟨O', hq⟩ => (cellsAt_agree (hq.agree (i := 3) (by decide)) hF49 hd48)) rfl rfl rfl ?_
   refine h_mv rfl rfl rfl (h_nc rfl rfl rfl (h_fa rfl rfl rfl (h_ldC (hc := fun w' ⟨O', hq⟩ => Blk.cell (i := 0) ((h31.st hq (by decide)).1) rfl) rfl rfl rfl ?_)))
   refine h_mv rfl rfl rfl ?_
   obtain ⟨a54, e55, hf13⟩ := bs hf13
   obtain ⟨p57, x56⟩ := atI_some' e55
   obtain ⟨b58, o59, ce60, hA61, hF64, hl62, hd63, rfl, r65, r66, r67, r68⟩ := h34.elemF x56
   refine h_iaE (hA := hA61) (hj := (Int.toNat_of_nonneg p57).symm) (hlt := hl62) rfl rfl rfl rfl ?_
   refine h_laB (hl := rfl) (hb := fun w' ⟨O', hq⟩ => (cellsAt_agree (hq.agree (i := 3) (by decide)) hF64 hd63)) rfl rfl rfl ?_
   refine hwp_nilT ?_
   refine x_one (i := 14) (by kernel_rfl) rfl ?_
   obtain ⟨q69, e70, hf13⟩ := bs hf13
   refine l_callA (O := O29) (A := All w9) (R := fun w' F v => Vb w' F v q69) (c_pqueue_before (fun _ h => h) (Vb.mono (F := Fr 0 w9 O29) (Vb.ofAgg (cs := [(.int .i64 a39.key), (.int .i64 a39.tie), (.int .i64 a39.item), (.int .i64 a39.number)]) (x := a39) rfl ⟨rfl, r50, r51, r52, r53⟩) Fr.lt) (Vb.mono (F := Fr 0 w9 O29) (Vb.ofAgg (cs := [(.int .i64 a54.key), (.int .i64 a54.tie), (.int .i64 a54.item), (.int .i64 a54.number)]) (x := a54) rfl ⟨rfl, r65, r66, r67, r68⟩) Fr.lt) e70) rfl rfl fun v75 w71 O72 S73 h74 => ?_
   obtain rfl := h74.bool
   have hZ := S73.lst [] (fun _ h => h.elim)
   cases q69
   case false =>
    replace hf13 := iF hf13
    refine x_go [] hZ (by kernel_rfl) ?_
    refine x_pre (fuel := 0) [] [(15, true)] (by kernel_rfl) rfl ?_
    refine h_nf rfl rfl rfl (hwp_nilT ?_)
    refine x_nil (by kernel_rfl) ?_
    refine ewp_true rfl (ewp_ret ?_)
    replace h31 := h31.st S73
    replace h34 := h34.st S73
    obtain ⟨O76, S77, hz79, ha80, h78⟩ := Que.shut (x := s5.2) (l0 := 2) (l1 := 3) (by decide) h31 h34 r38
    obtain rfl := sm hf13
    obtain rfl := hret14 _ rfl
    obtain rfl := sm (fin_ret hm)
    replace hB := ((hB.st S30).st S73).st S77
    obtain ⟨O', hS', hz, hl⟩ := hE.leave (fun q => if q = 2 then i0 else 0) rfl hB
    exact ret0 rfl  ⟨O', hS', (Ob.leave h78 hz (hl 2 (by decide) (by decide)) hx0.2)⟩
   replace hf13 := iT hf13
   refine x_go [] hZ (by kernel_rfl) ?_
   refine x_pre (fuel := 0) [] [(15, true)] (by kernel_rfl) rfl ?_
   refine h_nt rfl rfl rfl (hwp_nilT ?_)
   refine x_nil (by kernel_rfl) ?_
   refine ewp_false rfl (ewp_skip (ewp_seq (ewp_drawX [(25, [3])] O72 ?_)))
   refine x_pre (fuel := 4) [] [(0, true), (1, true), (2, true), (3, true), (4, true), (5, true), (6, true), (7, true), (8, true), (10, true), (11, true), (12, true), (13, true), (14, true), (15, true), (16, true), (17, true), (18, true), (19, true), (20, true), (21, true), (22, true), (23, true), (24, true)] (by kernel_rfl) rfl ?_
   refine h_mv rfl rfl rfl (h_nc rfl rfl rfl (h_fa rfl rfl rfl ?_))
   replace h31 := h31.st S73
   refine h_ldC (hc := fun w' ⟨O', hq⟩ => Blk.cell (i := 0) ((h31.st hq (by decide)).1) rfl) rfl rfl rfl ?_
   refine h_mv rfl rfl rfl (h_mv rfl rfl rfl (h_nc rfl rfl rfl (h_fa rfl rfl rfl (h_ldC (hc := fun w' ⟨O', hq⟩ => Blk.cell (i := 0) ((h31.st hq (by decide)).1) rfl) rfl rfl rfl ?_))))
   refine h_mv rfl rfl rfl (h_nc rfl rfl rfl (h_fa rfl rfl rfl (h_ldC (hc := fun w' ⟨O', hq⟩ => Blk.cell (i := 0) ((h31.st hq (by decide)).1) rfl) rfl rfl rfl ?_)))
   refine h_mv rfl rfl rfl ?_
   obtain ⟨a81, e82, hf13⟩ := bs hf13
   obtain ⟨p84, x83⟩ := atI_some' e82
   replace h34 := h34.st S73
   obtain ⟨b85, o86, ce87, hA88, hF91, hl89, hd90, rfl, r92, r93, r94, r95⟩ := h34.elemF x83
   refine h_iaE (hA := hA88) (hj := (Int.toNat_of_nonneg p84).symm) (hlt := hl89) rfl rfl rfl rfl ?_
   refine h_laB (hl := rfl) (hb := fun w' ⟨O', hq⟩ => (cellsAt_agree (hq.agree (i := 3) (by decide)) hF91 hd90)) rfl rfl rfl ?_
   refine h_mv rfl rfl rfl (h_nc rfl rfl rfl (h_fa rfl rfl rfl (h_ldC (hc := fun w' ⟨O', hq⟩ => Blk.cell (i := 0) ((h31.st hq (by decide)).1) rfl) rfl rfl rfl ?_)))
   refine h_mv rfl rfl rfl ?_
   obtain ⟨a96, e97, hf13⟩ := bs hf13
   obtain ⟨p99, x98⟩ := atI_some' e97
   obtain ⟨b100, o101, ce102, hA103, hF106, hl104, hd105, rfl, r107, r108, r109, r110⟩ := h34.elemF x98
   refine h_iaE (hA := hA103) (hj := (Int.toNat_of_nonneg p99).symm) (hlt := hl104) rfl rfl rfl rfl ?_
   refine h_laB (hl := rfl) (hb := fun w' ⟨O', hq⟩ => (cellsAt_agree (hq.agree (i := 3) (by decide)) hF106 hd105)) rfl rfl rfl ?_
   obtain ⟨a111, e112, hf13⟩ := bs hf13
   obtain ⟨p114, x113⟩ := atI_some' e112
   obtain ⟨b115, o116, ce117, hA118, hF121, hl119, hd120, rfl, r122, r123, r124, r125⟩ := h34.elemF x113
   refine h_iaE (hA := hA118) (hj := (Int.toNat_of_nonneg p114).symm) (hlt := hl119) rfl rfl rfl rfl ?_
   refine hwp_nilT ?_
   refine x_pre (fuel := 3) [3] [(9, true)] (by kernel_rfl) rfl ?_
   refine h_mv rfl rfl rfl (hwp_nilT ?_)
   refine x_one (i := 25) (by kernel_rfl) rfl ?_
   refine l_setE rfl h34 (a := a81) (Vb.ofAgg (cs := [(.int .i64 a81.key), (.int .i64 a81.tie), (.int .i64 a81.item), (.int .i64 a81.number)]) (x := a81) rfl ⟨rfl, r92, r93, r94, r95⟩) hA118 rfl rfl (lt_of_get x113) fun w126 S127 h34 => ?_
   have hZ := S127.lst [3] (fun _ h => by cases h; decide)
   refine x_go [] hZ (by kernel_rfl) ?_
   refine x_pre (fuel := 1) [] [(26, true)] (by kernel_rfl) rfl ?_
   obtain ⟨a128, e129, hf13⟩ := bs hf13
   obtain ⟨p131, x130⟩ := atI_some' e129
   obtain ⟨b132, o133, ce134, hA135, hF138, hl136, hd137, rfl, r139, r140, r141, r142⟩ := h34.elemF x130
   refine h_iaE (hA := hA135) (hj := (Int.toNat_of_nonneg p131).symm) (hlt := hl136) rfl rfl rfl rfl ?_
   refine hwp_nilT ?_
   refine x_one (i := 27) (by kernel_rfl) rfl ?_
   refine l_setE rfl h34 (a := a96) (Vb.ofAgg (cs := [(.int .i64 a96.key), (.int .i64 a96.tie), (.int .i64 a96.item), (.int .i64 a96.number)]) (x := a96) rfl ⟨rfl, r107, r108, r109, r110⟩) hA135 rfl rfl (lt_of_get x130) fun w143 S144 h34 => ?_
   refine x_end (by kernel_rfl) ?_
   refine x_nil (by kernel_rfl) ?_
   refine ewp_region (o_mv rfl rfl (o_as rfl rfl (o_z ?_)))
   replace h31 := (h31.st S127).st S144
   obtain ⟨O145, S146, hz148, ha149, h147⟩ := Que.shut (x := (⟨((s5.2.heap.set (s5.1 : Int).toNat a81).set (n26 : Int).toNat a96), s5.2.next⟩ : Que)) (l0 := 2) (l1 := 3) (by decide) (by have q := h31; rw [← ((by simp : ((s5.2.heap.set (s5.1 : Int).toNat a81).set (n26 : Int).toNat a96).length = (s5.2.heap.set (s5.1 : Int).toNat a81).length).trans ((by simp : (s5.2.heap.set (s5.1 : Int).toNat a81).length = s5.2.heap.length).trans rfl))] at q; exact q) h34.relen r38
   obtain rfl := sm hf13
   refine (?_ : Exists _)
   replace hB := ((((hB.st S30).st S73).st S127).st S144).st S146
   exact ⟨_, (), rfl, ⟨rfl, rfl, trivial⟩, _, hB, h147, r28⟩
  ·
   replace hf13 := im hf13 c22
   refine o_z ?_
   refine ewp_false rfl (ewp_exit ?_)
   obtain rfl := sm hf13
   refine (?_ : Exists _)
   exact ⟨_, (), hbrk15 _ rfl, trivial, _, hB, h21, r20⟩
 rintro l150 w151 ⟨s154, x155, rfl, hs153, O152, hB, h21, r20⟩
 replace hm := fin_done hm
 obtain rfl := sm hm
 obtain ⟨O', hS', hz, hl⟩ := hE.leave (fun q => if q = 2 then i0 else 0) rfl hB
 exact ret0n rfl  ⟨O', hS', (Ob.leave h21 hz (hl 2 (by decide) (by decide)) hx0.2)⟩
noncomputable def m_pqueue_Queue_down (x0 : Que) (x1 : Int) : Option Que :=
  bnd (lop (ρ := Que) (fun (s5 : Int × Que) => bnd (chkI (2 * s5.1)) fun n22 => bnd (chkI (n22 + 1)) fun n25 => if (s5.2.heap.length : Int) ≤ n25 then (some (.ret s5.2)) else (bnd (bnd (bnd (chkI (n25 + 1)) fun n55 => if n55 < (s5.2.heap.length : Int) then (bnd (chkI (n25 + 1)) fun n61 => bnd (atI s5.2.heap n61) fun a64 => bnd (atI s5.2.heap n25) fun a79 => bnd (m_pqueue_before a64 a79) fun q94 => if q94 = true then some true else some false) else (some false) : Option Bool) fun y51 => if y51 = true then (bnd (chkI (n25 + 1)) fun n121 => some n121) else (some n25) : Option Int) fun y46 => bnd (atI s5.2.heap y46) fun a138 => bnd (atI s5.2.heap s5.1) fun a153 => bnd (m_pqueue_before a138 a153) fun q168 => if q168 = true then bnd (atI s5.2.heap y46) fun a180 => bnd (atI s5.2.heap s5.1) fun a195 => bnd (atI s5.2.heap s5.1) fun a210 => bnd (atI (s5.2.heap.set (s5.1 : Int).toNat a180) y46) fun a227 => some (.next (y46, (⟨((s5.2.heap.set (s5.1 : Int).toNat a180).set (y46 : Int).toNat a195), s5.2.next⟩ : Que))) else some (.ret s5.2))) (x1, x0)) fun res3 => fin res3 fun (_ : Int × Que) => none
theorem c_pqueue_Queue_down {w : World} {O : Lab} {p0 i0 : Nat} {x0 : Que} (hx0 : Ob i0 w O (.pointer (some ⟨p0, 0, none⟩)) x0) {x1 : Int} (rx1 : inI64 x1) {r : Que} (hm : m_pqueue_Queue_down x0 x1 = some r) :
    Fn Try.prog 78 [(.pointer (some ⟨p0, 0, none⟩)), (.int .i64 x1)] w fun v w' => ∃ O', St (eT i0) w O w' O' ∧ Ob i0 w' O' (.pointer (some ⟨p0, 0, none⟩)) r := by
 obtain ⟨O0, hE, hz0, hl2⟩ := ent1 (w := w) (O := O) hx0.2
 have hx0' := Ob.leave hx0 hz0 hl2 (j := 2) (by decide)
 have hB : Bm w O0 w O0 := Bm.refl
 refine fn_enter Try.func78 rfl Try.ntmps78 rfl ?_
 unfold m_pqueue_Queue_down at hm
 obtain ⟨res3, hL4, hm⟩ := bs hm
 refine ewp_join (aft res3 (fun (s5 : Int × Que) (x6 : Unit) => []) (fun s5 x6 w' => False)) ?_ ?_
 ·
  refine ewp_block (ewp_lop (σ := Int × Que) (X := Unit) hL4 (fun (s5 : Int × Que) (x6 : Unit) => [(0, (.pointer (some ⟨p0, 0, none⟩))), (1, (.int .i64 s5.1))]) _ (fun s5 x6 w' => ∃ O' : Lab, Bm w O0 w' O' ∧ Ob 2 w' O' (.pointer (some ⟨p0, 0, none⟩)) s5.2 ∧ inI64 s5.1) _ () ⟨O0, hB, hx0', rx1⟩ ⟨rfl, rfl, trivial⟩ ?_)
  rintro s5 x6 w9 cc11 ⟨O10, hB, h21, r20⟩ hf13 hret14 hbrk15
  refine ewp_block (ewp_seq (ewp_region (o_mv rfl rfl ?_)))
  obtain ⟨n22, e23, hf13⟩ := bs hf13
  have r24 := (chkI_rng e23)
  refine o_mlE (he := e23) rfl rfl rfl ?_
  obtain ⟨n25, e26, hf13⟩ := bs hf13
  have r27 := (chkI_rng e26)
  refine o_adE (he := e26) rfl rfl rfl ?_
  refine o_as rfl rfl (o_z ?_)
  refine ewp_seq (ewp_seq (ewp_region (o_mv rfl rfl (o_mv rfl rfl (o_nc rfl rfl ?_)))))
  obtain ⟨O28, v32, S29, ha31, h30, h33, r37⟩ := Que.opn h21 2 3 (by decide)
  obtain ⟨A34, c35, rfl⟩ := h33.form
  refine o_fa rfl rfl (o_ld (hc := Blk.cell (i := 0) (h30.1) rfl) rfl rfl ?_)
  refine o_ln rfl rfl ?_
  have l39 : s5.2.heap.length ≤ 9223372036854775807 := Nat.le_trans h33.len.2.1 h33.len.2.2
  have r38 : inI64 (s5.2.heap.length : Int) := rngNat l39
  refine o_geS rfl rfl rfl (fun c40 => ?_) fun c40 => ?_
  ·
   replace hf13 := ip hf13 c40
   refine o_z ?_
   refine ewp_true rfl (ewp_ret ?_)
   obtain ⟨O41, S42, hz44, ha45, h43⟩ := Que.shut (x := s5.2) (l0 := 2) (l1 := 3) (by decide) h30 h33 r37
   obtain rfl := sm hf13
   obtain rfl := hret14 _ rfl
   obtain rfl := sm (fin_ret hm)
   replace hB := (hB.st S29).st S42
   obtain ⟨O', hS', hz, hl⟩ := hE.leave (fun q => if q = 2 then i0 else 0) rfl hB
   exact ret0 rfl  ⟨O', hS', (Ob.leave h43 hz (hl 2 (by decide) (by decide)) hx0.2)⟩
  ·
   replace hf13 := im hf13 c40
   refine o_z ?_
   refine ewp_false rfl (ewp_skip (ewp_seq ?_))
   obtain ⟨y46, hy47, hf13⟩ := bs hf13
   refine ewp_join (fun l' w' => ∃ (x49 : Unit) (O' : Lab), subs l' [(0, (.pointer (some ⟨p0, 0, none⟩))), (1, (.int .i64 s5.1)), (4, (.int .i64 y46))] ∧ Bm w O0 w' O' ∧ Ob 2 w' O' (.pointer (some ⟨p0, 0, none⟩)) s5.2 ∧ inI64 y46) ?_ ?_
   ·
    refine ewp_seq ?_
    obtain ⟨y51, hy52, hy47⟩ := bs hy47
    refine ewp_join (fun l' w' => ∃ (x54 : Unit) (O' : Lab), subs l' [(0, (.pointer (some ⟨p0, 0, none⟩))), (1, (.int .i64 s5.1)), (4, (.int .i64 n25)), (40, (.bool y51))] ∧ Bm w O0 w' O' ∧ Ob 2 w' O' (.pointer (some ⟨p0, 0, none⟩)) s5.2) ?_ ?_
    ·
     refine ewp_drawX [(24, [])] O28 ?_
     refine x_pre (fuel := 2) [] [(0, true), (1, true), (2, true), (3, true), (4, true), (5, true), (6, true), (7, true), (8, true), (9, true), (10, true), (11, true), (12, true), (13, true), (14, true), (15, true), (16, true), (17, true), (18, true), (19, true), (20, true), (21, true), (22, true), (23, true)] (by kernel_rfl) rfl ?_
     refine h_mv rfl rfl rfl ?_
     obtain ⟨n55, e56, hy52⟩ := bs hy52
     have r57 := (chkI_rng e56)
     refine h_adE (he := e56) rfl rfl rfl rfl ?_
     refine h_mv rfl rfl rfl (h_nc rfl rfl rfl (h_fa rfl rfl rfl (h_ldC (hc := fun w' ⟨O', hq⟩ => Blk.cell (i := 0) ((h30.st hq (by decide)).1) rfl) rfl rfl rfl ?_)))
     refine h_ln rfl rfl rfl ?_
     have l59 : s5.2.heap.length ≤ 9223372036854775807 := Nat.le_trans h33.len.2.1 h33.len.2.2
     have r58 : inI64 (s5.2.heap.length : Int) := rngNat l59
     refine h_ltS rfl rfl rfl rfl (fun c60 => ?_) fun c60 => ?_
     ·
      replace hy52 := ip hy52 c60
      refine h_mv rfl rfl rfl (hwp_o rfl (hwq_yes rfl rfl (g_mv rfl rfl (hwp_o rfl (hwq_yes rfl rfl (g_nc rfl rfl (hwp_o rfl (hwq_yes rfl rfl (g_fa rfl rfl (hwp_o rfl (hwq_yes rfl rfl (g_ldC (hc := fun w' ⟨O', hq⟩ => Blk.cell (i := 0) ((h30.st hq (by decide)).1) rfl) rfl rfl ?_))))))))))))
      refine hwp_o rfl (hwq_yes rfl rfl (g_mv rfl rfl (hwp_o rfl (hwq_yes rfl rfl ?_))))
      obtain ⟨n61, e62, hy52⟩ := bs hy52
      have r63 := (chkI_rng e62)
      refine g_adE (he := e62) rfl rfl rfl ?_
      refine hwp_o rfl (hwq_yes rfl rfl ?_)
      obtain ⟨a64, e65, hy52⟩ := bs hy52
      obtain ⟨p67, x66⟩ := atI_some' e65
      obtain ⟨b68, o69, ce70, hA71, hF74, hl72, hd73, rfl, r75, r76, r77, r78⟩ := h33.elemF x66
      refine g_iaE (hA := hA71) (hj := (Int.toNat_of_nonneg p67).symm) (hlt := hl72) rfl rfl rfl ?_
      refine hwp_o rfl (hwq_yes rfl rfl (g_laB (hl := rfl) (hb := fun w' ⟨O', hq⟩ => (cellsAt_agree (hq.agree (i := 3) (by decide)) hF74 hd73)) rfl rfl ?_))
      refine hwp_o rfl (hwq_yes rfl rfl (g_mv rfl rfl (hwp_o rfl (hwq_yes rfl rfl (g_nc rfl rfl (hwp_o rfl (hwq_yes rfl rfl (g_fa rfl rfl (hwp_o rfl (hwq_yes rfl rfl (g_ldC (hc := fun w' ⟨O', hq⟩ => Blk.cell (i := 0) ((h30.st hq (by decide)).1) rfl) rfl rfl ?_)))))))))))
      refine hwp_o rfl (hwq_yes rfl rfl (g_mv rfl rfl (hwp_o rfl (hwq_yes rfl rfl ?_))))
      obtain ⟨a79, e80, hy52⟩ := bs hy52
      obtain ⟨p82, x81⟩ := atI_some' e80
      obtain ⟨b83, o84, ce85, hA86, hF89, hl87, hd88, rfl, r90, r91, r92, r93⟩ := h33.elemF x81
      refine g_iaE (hA := hA86) (hj := (Int.toNat_of_nonneg p82).symm) (hlt := hl87) rfl rfl rfl ?_
      refine hwp_o rfl (hwq_yes rfl rfl (g_laB (hl := rfl) (hb := fun w' ⟨O', hq⟩ => (cellsAt_agree (hq.agree (i := 3) (by decide)) hF89 hd88)) rfl rfl ?_))
      refine hwp_nilT ?_
      refine x_one (i := 24) (by kernel_rfl) rfl ?_
      refine owp_yes rfl rfl ?_
      obtain ⟨q94, e95, hy52⟩ := bs hy52
      refine l_callA (O := O28) (A := All w9) (R := fun w' F v => Vb w' F v q94) (c_pqueue_before (fun _ h => h) (Vb.mono (F := Fr 0 w9 O28) (Vb.ofAgg (cs := [(.int .i64 a64.key), (.int .i64 a64.tie), (.int .i64 a64.item), (.int .i64 a64.number)]) (x := a64) rfl ⟨rfl, r75, r76, r77, r78⟩) Fr.lt) (Vb.mono (F := Fr 0 w9 O28) (Vb.ofAgg (cs := [(.int .i64 a79.key), (.int .i64 a79.tie), (.int .i64 a79.item), (.int .i64 a79.number)]) (x := a79) rfl ⟨rfl, r90, r91, r92, r93⟩) Fr.lt) e95) rfl rfl fun v100 w96 O97 S98 h99 => ?_
      obtain rfl := h99.bool
      have hZ := S98.lst [] (fun _ h => h.elim)
      cases q94
      case false =>
       replace hy52 := iF hy52
       refine x_go [] hZ (by kernel_rfl) ?_
       refine x_pre (fuel := 0) [] [(25, true)] (by kernel_rfl) rfl ?_
       refine h_pt rfl rfl rfl rfl (hwp_nilT ?_)
       refine x_nil (by kernel_rfl) ?_
       replace h30 := h30.st S98
       replace h33 := h33.st S98
       obtain ⟨O101, S102, hz104, ha105, h103⟩ := Que.shut (x := s5.2) (l0 := 2) (l1 := 3) (by decide) h30 h33 r37
       obtain rfl := sm hy52
       replace hB := ((hB.st S29).st S98).st S102
       exact ⟨(), _, ⟨rfl, rfl, rfl, rfl, trivial⟩, hB, h103⟩
      replace hy52 := iT hy52
      refine x_go [] hZ (by kernel_rfl) ?_
      refine x_pre (fuel := 0) [] [(25, true)] (by kernel_rfl) rfl ?_
      refine h_pt rfl rfl rfl rfl (hwp_nilT ?_)
      refine x_nil (by kernel_rfl) ?_
      replace h30 := h30.st S98
      replace h33 := h33.st S98
      obtain ⟨O106, S107, hz109, ha110, h108⟩ := Que.shut (x := s5.2) (l0 := 2) (l1 := 3) (by decide) h30 h33 r37
      obtain rfl := sm hy52
      replace hB := ((hB.st S29).st S98).st S107
      exact ⟨(), _, ⟨rfl, rfl, rfl, rfl, trivial⟩, hB, h108⟩
     ·
      replace hy52 := im hy52 c60
      refine h_mv rfl rfl rfl (h_no rfl rfl rfl rfl rfl (h_no rfl rfl rfl rfl rfl (h_no rfl rfl rfl rfl rfl (h_no rfl rfl rfl rfl rfl (h_no rfl rfl rfl rfl rfl (h_no rfl rfl rfl rfl rfl (h_no rfl rfl rfl rfl rfl (h_no rfl rfl rfl rfl rfl (h_no rfl rfl rfl rfl rfl (h_no rfl rfl rfl rfl rfl (h_no rfl rfl rfl rfl rfl (h_no rfl rfl rfl rfl rfl (h_no rfl rfl rfl rfl rfl (h_no rfl rfl rfl rfl rfl ?_))))))))))))))
      refine h_no rfl rfl rfl rfl rfl (hwp_nilT ?_)
      refine x_one (i := 24) (by kernel_rfl) rfl ?_
      refine owp_no rfl rfl rfl rfl (x_go [] ((St.refl nT _ _).lst [] (fun _ h => h.elim)) (by kernel_rfl) ?_)
      refine x_pre (fuel := 0) [] [(25, true)] (by kernel_rfl) rfl ?_
      refine h_pf rfl rfl rfl rfl (hwp_nilT ?_)
      refine x_nil (by kernel_rfl) ?_
      obtain ⟨O111, S112, hz114, ha115, h113⟩ := Que.shut (x := s5.2) (l0 := 2) (l1 := 3) (by decide) h30 h33 r37
      obtain rfl := sm hy52
      replace hB := (hB.st S29).st S112
      exact ⟨(), _, ⟨rfl, rfl, rfl, rfl, trivial⟩, hB, h113⟩
    replace hB := hB.st S29
    rintro l116 w117 ⟨x54, O118, hs119, hB, h99⟩
    refine ewp_sub _ hs119 ?_
    refine ewp_cond rfl (fun c120 => ?_) (fun c120 => ?_)
    ·
     replace hy47 := ip hy47 c120
     refine ewp_region (o_mv rfl rfl ?_)
     obtain ⟨n121, e122, hy47⟩ := bs hy47
     have r123 := (chkI_rng e122)
     refine o_adE (he := e122) rfl rfl rfl ?_
     refine o_as rfl rfl (o_z ?_)
     obtain rfl := sm hy47
     exact ⟨(), _, ⟨rfl, rfl, rfl, trivial⟩, hB, h99, r123⟩
    ·
     replace hy47 := im' hy47 c120
     refine ewp_skip ?_
     obtain rfl := sm hy47
     exact ⟨(), _, ⟨rfl, rfl, rfl, trivial⟩, hB, h99, r27⟩
   replace hB := hB.st S29
   rintro l124 w125 ⟨x49, O126, hs127, hB, h94, r50⟩
   refine ewp_sub _ hs127 ?_
   refine ewp_seq (ewp_seq ?_)
   obtain ⟨O128, v132, S129, ha131, h130, h133, r137⟩ := Que.opn h94 2 3 (by decide)
   obtain ⟨A134, c135, rfl⟩ := h133.form
   refine ewp_drawX [(14, [])] O128 ?_
   refine x_pre (fuel := 2) [] [(0, true), (1, true), (2, true), (3, true), (4, true), (5, true), (6, true), (7, true), (8, true), (9, true), (10, true), (11, true), (12, true), (13, true)] (by kernel_rfl) rfl ?_
   refine h_mv rfl rfl rfl (h_nc rfl rfl rfl (h_fa rfl rfl rfl (h_ldC (hc := fun w' ⟨O', hq⟩ => Blk.cell (i := 0) ((h130.st hq (by decide)).1) rfl) rfl rfl rfl ?_)))
   refine h_mv rfl rfl rfl ?_
   obtain ⟨a138, e139, hf13⟩ := bs hf13
   obtain ⟨p141, x140⟩ := atI_some' e139
   obtain ⟨b142, o143, ce144, hA145, hF148, hl146, hd147, rfl, r149, r150, r151, r152⟩ := h133.elemF x140
   refine h_iaE (hA := hA145) (hj := (Int.toNat_of_nonneg p141).symm) (hlt := hl146) rfl rfl rfl rfl ?_
   refine h_laB (hl := rfl) (hb := fun w' ⟨O', hq⟩ => (cellsAt_agree (hq.agree (i := 3) (by decide)) hF148 hd147)) rfl rfl rfl ?_
   refine h_mv rfl rfl rfl (h_nc rfl rfl rfl (h_fa rfl rfl rfl (h_ldC (hc := fun w' ⟨O', hq⟩ => Blk.cell (i := 0) ((h130.st hq (by decide)).1) rfl) rfl rfl rfl ?_)))
   refine h_mv rfl rfl rfl ?_
   obtain ⟨a153, e154, hf13⟩ := bs hf13
   obtain ⟨p156, x155⟩ := atI_some' e154
   obtain ⟨b157, o158, ce159, hA160, hF163, hl161, hd162, rfl, r164, r165, r166, r167⟩ := h133.elemF x155
   refine h_iaE (hA := hA160) (hj := (Int.toNat_of_nonneg p156).symm) (hlt := hl161) rfl rfl rfl rfl ?_
   refine h_laB (hl := rfl) (hb := fun w' ⟨O', hq⟩ => (cellsAt_agree (hq.agree (i := 3) (by decide)) hF163 hd162)) rfl rfl rfl ?_
   refine hwp_nilT ?_
   refine x_one (i := 14) (by kernel_rfl) rfl ?_
   obtain ⟨q168, e169, hf13⟩ := bs hf13
   refine l_callA (O := O128) (A := All w125) (R := fun w' F v => Vb w' F v q168) (c_pqueue_before (fun _ h => h) (Vb.mono (F := Fr 0 w125 O128) (Vb.ofAgg (cs := [(.int .i64 a138.key), (.int .i64 a138.tie), (.int .i64 a138.item), (.int .i64 a138.number)]) (x := a138) rfl ⟨rfl, r149, r150, r151, r152⟩) Fr.lt) (Vb.mono (F := Fr 0 w125 O128) (Vb.ofAgg (cs := [(.int .i64 a153.key), (.int .i64 a153.tie), (.int .i64 a153.item), (.int .i64 a153.number)]) (x := a153) rfl ⟨rfl, r164, r165, r166, r167⟩) Fr.lt) e169) rfl rfl fun v174 w170 O171 S172 h173 => ?_
   obtain rfl := h173.bool
   have hZ := S172.lst [] (fun _ h => h.elim)
   cases q168
   case false =>
    replace hf13 := iF hf13
    refine x_go [] hZ (by kernel_rfl) ?_
    refine x_pre (fuel := 0) [] [(15, true)] (by kernel_rfl) rfl ?_
    refine h_nf rfl rfl rfl (hwp_nilT ?_)
    refine x_nil (by kernel_rfl) ?_
    refine ewp_true rfl (ewp_ret ?_)
    replace h130 := h130.st S172
    replace h133 := h133.st S172
    obtain ⟨O175, S176, hz178, ha179, h177⟩ := Que.shut (x := s5.2) (l0 := 2) (l1 := 3) (by decide) h130 h133 r137
    obtain rfl := sm hf13
    obtain rfl := hret14 _ rfl
    obtain rfl := sm (fin_ret hm)
    replace hB := ((hB.st S129).st S172).st S176
    obtain ⟨O', hS', hz, hl⟩ := hE.leave (fun q => if q = 2 then i0 else 0) rfl hB
    exact ret0 rfl  ⟨O', hS', (Ob.leave h177 hz (hl 2 (by decide) (by decide)) hx0.2)⟩
   replace hf13 := iT hf13
   refine x_go [] hZ (by kernel_rfl) ?_
   refine x_pre (fuel := 0) [] [(15, true)] (by kernel_rfl) rfl ?_
   refine h_nt rfl rfl rfl (hwp_nilT ?_)
   refine x_nil (by kernel_rfl) ?_
   refine ewp_false rfl (ewp_skip (ewp_seq (ewp_drawX [(25, [3])] O171 ?_)))
   refine x_pre (fuel := 4) [] [(0, true), (1, true), (2, true), (3, true), (4, true), (5, true), (6, true), (7, true), (8, true), (10, true), (11, true), (12, true), (13, true), (14, true), (15, true), (16, true), (17, true), (18, true), (19, true), (20, true), (21, true), (22, true), (23, true), (24, true)] (by kernel_rfl) rfl ?_
   refine h_mv rfl rfl rfl (h_nc rfl rfl rfl (h_fa rfl rfl rfl ?_))
   replace h130 := h130.st S172
   refine h_ldC (hc := fun w' ⟨O', hq⟩ => Blk.cell (i := 0) ((h130.st hq (by decide)).1) rfl) rfl rfl rfl ?_
   refine h_mv rfl rfl rfl (h_mv rfl rfl rfl (h_nc rfl rfl rfl (h_fa rfl rfl rfl (h_ldC (hc := fun w' ⟨O', hq⟩ => Blk.cell (i := 0) ((h130.st hq (by decide)).1) rfl) rfl rfl rfl ?_))))
   refine h_mv rfl rfl rfl (h_nc rfl rfl rfl (h_fa rfl rfl rfl (h_ldC (hc := fun w' ⟨O', hq⟩ => Blk.cell (i := 0) ((h130.st hq (by decide)).1) rfl) rfl rfl rfl ?_)))
   refine h_mv rfl rfl rfl ?_
   obtain ⟨a180, e181, hf13⟩ := bs hf13
   obtain ⟨p183, x182⟩ := atI_some' e181
   replace h133 := h133.st S172
   obtain ⟨b184, o185, ce186, hA187, hF190, hl188, hd189, rfl, r191, r192, r193, r194⟩ := h133.elemF x182
   refine h_iaE (hA := hA187) (hj := (Int.toNat_of_nonneg p183).symm) (hlt := hl188) rfl rfl rfl rfl ?_
   refine h_laB (hl := rfl) (hb := fun w' ⟨O', hq⟩ => (cellsAt_agree (hq.agree (i := 3) (by decide)) hF190 hd189)) rfl rfl rfl ?_
   refine h_mv rfl rfl rfl (h_nc rfl rfl rfl (h_fa rfl rfl rfl (h_ldC (hc := fun w' ⟨O', hq⟩ => Blk.cell (i := 0) ((h130.st hq (by decide)).1) rfl) rfl rfl rfl ?_)))
   refine h_mv rfl rfl rfl ?_
   obtain ⟨a195, e196, hf13⟩ := bs hf13
   obtain ⟨p198, x197⟩ := atI_some' e196
   obtain ⟨b199, o200, ce201, hA202, hF205, hl203, hd204, rfl, r206, r207, r208, r209⟩ := h133.elemF x197
   refine h_iaE (hA := hA202) (hj := (Int.toNat_of_nonneg p198).symm) (hlt := hl203) rfl rfl rfl rfl ?_
   refine h_laB (hl := rfl) (hb := fun w' ⟨O', hq⟩ => (cellsAt_agree (hq.agree (i := 3) (by decide)) hF205 hd204)) rfl rfl rfl ?_
   obtain ⟨a210, e211, hf13⟩ := bs hf13
   obtain ⟨p213, x212⟩ := atI_some' e211
   obtain ⟨b214, o215, ce216, hA217, hF220, hl218, hd219, rfl, r221, r222, r223, r224⟩ := h133.elemF x212
   refine h_iaE (hA := hA217) (hj := (Int.toNat_of_nonneg p213).symm) (hlt := hl218) rfl rfl rfl rfl ?_
   refine hwp_nilT ?_
   refine x_pre (fuel := 3) [3] [(9, true)] (by kernel_rfl) rfl ?_
   refine h_mv rfl rfl rfl (hwp_nilT ?_)
   refine x_one (i := 25) (by kernel_rfl) rfl ?_
   refine l_setE rfl h133 (a := a180) (Vb.ofAgg (cs := [(.int .i64 a180.key), (.int .i64 a180.tie), (.int .i64 a180.item), (.int .i64 a180.number)]) (x := a180) rfl ⟨rfl, r191, r192, r193, r194⟩) hA217 rfl rfl (lt_of_get x212) fun w225 S226 h133 => ?_
   have hZ := S226.lst [3] (fun _ h => by cases h; decide)
   refine x_go [] hZ (by kernel_rfl) ?_
   refine x_pre (fuel := 1) [] [(26, true)] (by kernel_rfl) rfl ?_
   obtain ⟨a227, e228, hf13⟩ := bs hf13
   obtain ⟨p230, x229⟩ := atI_some' e228
   obtain ⟨b231, o232, ce233, hA234, hF237, hl235, hd236, rfl, r238, r239, r240, r241⟩ := h133.elemF x229
   refine h_iaE (hA := hA234) (hj := (Int.toNat_of_nonneg p230).symm) (hlt := hl235) rfl rfl rfl rfl ?_
   refine hwp_nilT ?_
   refine x_one (i := 27) (by kernel_rfl) rfl ?_
   refine l_setE rfl h133 (a := a195) (Vb.ofAgg (cs := [(.int .i64 a195.key), (.int .i64 a195.tie), (.int .i64 a195.item), (.int .i64 a195.number)]) (x := a195) rfl ⟨rfl, r206, r207, r208, r209⟩) hA234 rfl rfl (lt_of_get x229) fun w242 S243 h133 => ?_
   refine x_end (by kernel_rfl) ?_
   refine x_nil (by kernel_rfl) ?_
   refine ewp_region (o_mv rfl rfl (o_as rfl rfl (o_z ?_)))
   replace h130 := (h130.st S226).st S243
   obtain ⟨O244, S245, hz247, ha248, h246⟩ := Que.shut (x := (⟨((s5.2.heap.set (s5.1 : Int).toNat a180).set (y46 : Int).toNat a195), s5.2.next⟩ : Que)) (l0 := 2) (l1 := 3) (by decide) (by have q := h130; rw [← ((by simp : ((s5.2.heap.set (s5.1 : Int).toNat a180).set (y46 : Int).toNat a195).length = (s5.2.heap.set (s5.1 : Int).toNat a180).length).trans ((by simp : (s5.2.heap.set (s5.1 : Int).toNat a180).length = s5.2.heap.length).trans rfl))] at q; exact q) h133.relen r137
   obtain rfl := sm hf13
   refine (?_ : Exists _)
   replace hB := ((((hB.st S129).st S172).st S226).st S243).st S245
   exact ⟨_, (), rfl, ⟨rfl, rfl, trivial⟩, _, hB, h246, r50⟩
 rintro l249 w250 ⟨s253, x254, _, _, hE⟩
 exact hE.elim
noncomputable def m_pqueue_Queue_Push (x0 : Que) (x1 : Int) (x2 : Int) (x3 : Int) : Option (Err × Que) :=
  if 65536 ≤ (x0.heap.length : Int) then (some ((⟨10⟩ : Err), x0)) else (bnd (appI 32 x0.heap [(⟨x1, x2, x3, x0.next⟩ : QEn)]) fun u29 => bnd (chkI (x0.next + 1)) fun n42 => bnd (chkI ((u29.length : Int) - 1)) fun n49 => bnd (m_pqueue_Queue_up (⟨u29, n42⟩ : Que) n49) fun q57 => some ((⟨0⟩ : Err), q57))
theorem c_pqueue_Queue_Push {w : World} {O : Lab} {p0 i0 : Nat} {x0 : Que} (hx0 : Ob i0 w O (.pointer (some ⟨p0, 0, none⟩)) x0) {x1 : Int} (rx1 : inI64 x1) {x2 : Int} (rx2 : inI64 x2) {x3 : Int} (rx3 : inI64 x3) {r : Err × Que} (hm : m_pqueue_Queue_Push x0 x1 x2 x3 = some r) :
    Fn Try.prog 60 [(.pointer (some ⟨p0, 0, none⟩)), (.int .i64 x1), (.int .i64 x2), (.int .i64 x3)] w fun v w' => ∃ O', St (eT i0) w O w' O' ∧ Ob i0 w' O' (.pointer (some ⟨p0, 0, none⟩)) r.2 ∧ Vb w' (Fr 0 w' O') v r.1 := by
 obtain ⟨O0, hE, hz0, hl2⟩ := ent1 (w := w) (O := O) hx0.2
 have hx0' := Ob.leave hx0 hz0 hl2 (j := 2) (by decide)
 have hB : Bm w O0 w O0 := Bm.refl
 refine fn_enter Try.func60 rfl Try.ntmps60 rfl ?_
 unfold m_pqueue_Queue_Push at hm
 refine ewp_seq (ewp_region (o_as rfl rfl (o_z ?_)))
 refine ewp_seq (ewp_seq (ewp_region (o_mv rfl rfl (o_pn rfl rfl ?_))))
 refine o_z ?_
 refine ewp_false rfl (ewp_skip (ewp_seq (ewp_seq (ewp_region (o_mv rfl rfl (o_nc rfl rfl ?_))))))
 obtain ⟨O5, v9, S6, ha8, h7, h10, r14⟩ := Que.opn hx0' 2 3 (by decide)
 obtain ⟨A11, c12, rfl⟩ := h10.form
 refine o_fa rfl rfl (o_ld (hc := Blk.cell (i := 0) (h7.1) rfl) rfl rfl ?_)
 refine o_ln rfl rfl ?_
 have l16 : x0.heap.length ≤ 9223372036854775807 := Nat.le_trans h10.len.2.1 h10.len.2.2
 have r15 : inI64 (x0.heap.length : Int) := rngNat l16
 refine o_geS rfl rfl rfl (fun c17 => ?_) fun c17 => ?_
 ·
  replace hm := ip hm c17
  refine o_z ?_
  refine ewp_true rfl (ewp_seq (ewp_region (o_miE rfl rfl ?_)))
  refine o_as rfl rfl (o_z ?_)
  refine ewp_ret ?_
  obtain ⟨O18, S19, hz21, ha22, h20⟩ := Que.shut (x := x0) (l0 := 2) (l1 := 3) (by decide) h7 h10 r14
  obtain rfl := sm hm
  replace hB := (hB.st S6).st S19
  obtain ⟨O', hS', hz, hl⟩ := hE.leave (fun q => if q = 2 then i0 else 0) rfl hB
  exact ret1v rfl (res_tmp rfl) ⟨O', hS', (Ob.leave h20 hz (hl 2 (by decide) (by decide)) hx0.2), (vErr (by decide))⟩
 ·
  replace hm := im hm c17
  refine o_z ?_
  refine ewp_false rfl (ewp_skip (ewp_seq (ewp_drawX [(13, []), (14, [3])] O5 ?_)))
  refine x_pre (fuel := 6) [] [(1, true), (2, true), (3, true), (4, true), (5, true), (6, true), (7, true), (8, true), (9, true), (10, true), (11, true), (12, true)] (by kernel_rfl) rfl ?_
  refine h_mv rfl rfl rfl (h_nc rfl rfl rfl (h_fa rfl rfl rfl (h_ldC (hc := fun w' ⟨O', hq⟩ => Blk.cell (i := 0) ((h7.st hq (by decide)).1) rfl) rfl rfl rfl ?_)))
  refine h_mv rfl rfl rfl (h_mv rfl rfl rfl (h_mv rfl rfl rfl (h_mv rfl rfl rfl (h_nc rfl rfl rfl (h_fa rfl rfl rfl (h_ldC (hc := fun w' ⟨O', hq⟩ => Blk.cell (i := 1) ((h7.st hq (by decide)).1) rfl) rfl rfl rfl ?_))))))
  refine h_bd rfl rfl rfl rfl ?_
  refine hwp_nilT ?_
  refine x_pre (fuel := 5) [3] [(0, true)] (by kernel_rfl) rfl ?_
  refine h_mv rfl rfl rfl (hwp_nilT ?_)
  refine x_one (i := 13) (by kernel_rfl) rfl ?_
  refine l_bslice 4 (by decide) O5 (xs := ([(⟨x1, x2, x3, x0.next⟩ : QEn)] : List QEn)) rfl rfl rfl rfl ⟨(Vb.ofAgg (cs := [(.int .i64 x1), (.int .i64 x2), (.int .i64 x3), (.int .i64 x0.next)]) (x := (⟨x1, x2, x3, x0.next⟩ : QEn)) rfl ⟨rfl, rx1, rx2, rx3, r14⟩), trivial⟩ (by decide) (by decide) rfl fun g23 w24 O25 S26 h27 => ?_
  have hZ := S26.lst [] (fun _ h => h.elim)
  refine x_go [(14, [3])] hZ (by kernel_rfl) ?_
  refine x_one (i := 14) (by kernel_rfl) rfl ?_
  obtain ⟨u29, e30, hm⟩ := bs hm
  obtain ⟨e30, e31, e32⟩ := appI_some e30
  replace h10 := h10.st S26
  refine l_append rfl h10 (h27.rd) rfl rfl (by decide) e31 e32 rfl fun A33 c34 w35 O36 S37 h38 => ?_
  rw [← e30] at h38 ⊢
  have hZ := S37.lst [3] (fun _ h => by cases h; decide)
  refine x_go [] hZ (by kernel_rfl) ?_
  refine x_pre (fuel := 1) [] [(15, true), (16, true)] (by kernel_rfl) rfl ?_
  refine h_nc rfl rfl rfl (h_fa rfl rfl rfl (hwp_nilT ?_))
  refine x_one (i := 17) (by kernel_rfl) rfl ?_
  replace h7 := (h7.st S26).st S37
  refine l_store h7 rfl rfl rfl (Nat.le_of_ble_eq_true rfl) (by first | exact allOne rfl | simp [Value.cells, Value.oneCell', errV_one]) fun w40 S41 h7 => ?_
  replace h7 : Lc 2 w40 O36 p0 109 [(.slice A33 u29.length c34), (.int .i64 x0.next)] := h7
  refine x_end (by kernel_rfl) ?_
  refine x_nil (by kernel_rfl) ?_
  refine ewp_seq (ewp_region (o_mv rfl rfl (o_nc rfl rfl (o_fa rfl rfl (o_ld (hc := Blk.cell (i := 1) (h7.1) rfl) rfl rfl ?_)))))
  obtain ⟨n42, e43, hm⟩ := bs hm
  have r44 := (chkI_rng e43)
  refine o_adE (he := e43) rfl rfl rfl ?_
  refine o_nc rfl rfl (o_fa rfl rfl (l_store h7 rfl rfl rfl (Nat.le_of_ble_eq_true rfl) (by first | exact allOne rfl | simp [Value.cells, Value.oneCell', errV_one]) fun w45 S46 h7 => ?_))
  replace h7 : Lc 2 w45 O36 p0 109 [(.slice A33 u29.length c34), (.int .i64 n42)] := h7
  refine o_z ?_
  refine ewp_seq (ewp_region (o_mv rfl rfl (o_mv rfl rfl (o_nc rfl rfl (o_fa rfl rfl (o_ld (hc := Blk.cell (i := 0) (h7.1) rfl) rfl rfl ?_))))))
  refine o_ln rfl rfl ?_
  replace h38 := (h38.st S41).st S46
  have l48 : u29.length ≤ 9223372036854775807 := Nat.le_trans h38.len.2.1 h38.len.2.2
  have r47 : inI64 (u29.length : Int) := rngNat l48
  obtain ⟨n49, e50, hm⟩ := bs hm
  have r51 := (chkI_rng e50)
  refine o_sbE (he := e50) rfl rfl rfl ?_
  obtain ⟨O52, S53, hz55, ha56, h54⟩ := Que.shut (x := (⟨u29, n42⟩ : Que)) (l0 := 2) (l1 := 3) (by decide) h7 h38 r44
  obtain ⟨q57, e58, hm⟩ := bs hm
  refine l_callM (O := O52) (c_pqueue_Queue_up h54 r51 e58) rfl rfl fun v63 w59 O60 S61 h64 => ?_
  refine o_z ?_
  refine ewp_seq (ewp_region (o_as rfl rfl (o_z ?_)))
  refine ewp_ret ?_
  obtain rfl := sm hm
  replace hB := ((((((hB.st S6).st S26).st S37).st S41).st S46).st S53).st S61
  obtain ⟨O', hS', hz, hl⟩ := hE.leave (fun q => if q = 2 then i0 else 0) rfl hB
  exact ret1v rfl (res_tmp rfl) ⟨O', hS', (Ob.leave h64 hz (hl 2 (by decide) (by decide)) hx0.2), (vErr (show inI64 0 from by decide))⟩
noncomputable def m_pqueue_Queue_Pop (x0 : Que) : Option (Int × Int × Int × Err × Que) :=
  bnd (m_pqueue_Queue_Peek x0) fun q2 => if q2.2.2.2.n ≠ 0 then (some (0, 0, 0, (⟨q2.2.2.2.n⟩ : Err), x0)) else (bnd (chkI ((x0.heap.length : Int) - 1)) fun n35 => bnd (atI x0.heap n35) fun a38 => bnd (atI x0.heap 0) fun a53 => bnd (cutI (x0.heap.set (0 : Int).toNat a38) 0 n35) fun u70 => bnd (m_pqueue_Queue_down (⟨u70, x0.next⟩ : Que) 0) fun q82 => some (q2.1, q2.2.1, q2.2.2.1, (⟨0⟩ : Err), q82))
theorem c_pqueue_Queue_Pop {w : World} {O : Lab} {p0 i0 : Nat} {x0 : Que} (hx0 : Ob i0 w O (.pointer (some ⟨p0, 0, none⟩)) x0) {r : Int × Int × Int × Err × Que} (hm : m_pqueue_Queue_Pop x0 = some r) :
    Fn Try.prog 62 [(.pointer (some ⟨p0, 0, none⟩))] w fun v w' => ∃ O', St (eT i0) w O w' O' ∧ ∃ v0 v1 v2 v3 : Value, Ob i0 w' O' (.pointer (some ⟨p0, 0, none⟩)) r.2.2.2.2 ∧ v = .tuple #[v0, v1, v2, v3] ∧ Vb w' (Fr 0 w' O') v0 r.1 ∧ Vb w' (Fr 0 w' O') v1 r.2.1 ∧ Vb w' (Fr 0 w' O') v2 r.2.2.1 ∧ Vb w' (Fr 0 w' O') v3 r.2.2.2.1 := by
 obtain ⟨O0, hE, hz0, hl2⟩ := ent1 (w := w) (O := O) hx0.2
 have hx0' := Ob.leave hx0 hz0 hl2 (j := 2) (by decide)
 have hB : Bm w O0 w O0 := Bm.refl
 refine fn_enter Try.func62 rfl Try.ntmps62 rfl ?_
 unfold m_pqueue_Queue_Pop at hm
 refine ewp_seq (ewp_region (o_as rfl rfl (o_as rfl rfl (o_as rfl rfl (o_as rfl rfl (o_z ?_))))))
 refine ewp_seq (ewp_region (o_mv rfl rfl ?_))
 obtain ⟨q2, e3, hm⟩ := bs hm
 refine l_callM (O := O0) (c_pqueue_Queue_Peek hx0' e3) rfl rfl fun v8 w4 O5 S6 h7 => ?_
 obtain ⟨v10, v11, v12, v13, h9, rfl, h14, h15, h16, h17⟩ := h7
 obtain ⟨rfl, r18⟩ := h14.int
 obtain ⟨rfl, r19⟩ := h15.int
 obtain ⟨rfl, r20⟩ := h16.int
 obtain ⟨rfl, r21⟩ := h17.err
 refine o_mv rfl rfl (o_ex rfl rfl rfl (o_ex rfl rfl rfl (o_ex rfl rfl rfl (o_ex rfl rfl rfl (o_as rfl rfl (o_as rfl rfl (o_as rfl rfl (o_as rfl rfl (o_z ?_)))))))))
 refine ewp_seq (ewp_seq (ewp_region (o_mv rfl rfl (o_rnS rfl rfl (fun c22 => ?_) fun c22 => ?_))))
 ·
  replace hm := ip hm c22
  refine o_z ?_
  refine ewp_true rfl (ewp_seq (ewp_region (o_mv rfl rfl (o_as rfl rfl (o_as rfl rfl (o_as rfl rfl (o_as rfl rfl (o_z ?_))))))))
  refine ewp_ret ?_
  obtain rfl := sm hm
  replace hB := hB.st S6
  obtain ⟨O', hS', hz, hl⟩ := hE.leave (fun q => if q = 2 then i0 else 0) rfl hB
  exact ret4 rfl (res_tmp rfl) (res_tmp rfl) (res_tmp rfl) (res_tmp rfl) ⟨O', hS', _, _, _, _, (Ob.leave h9 hz (hl 2 (by decide) (by decide)) hx0.2), rfl, (vInt (show inI64 (0) from by decide)), (vInt (show inI64 (0) from by decide)), (vInt (show inI64 (0) from by decide)), (vErr r21)⟩
 ·
  replace hm := im hm c22
  refine o_z ?_
  refine ewp_false rfl (ewp_skip (ewp_seq (ewp_region (o_mv rfl rfl (o_nc rfl rfl ?_)))))
  obtain ⟨O23, v27, S24, ha26, h25, h28, r32⟩ := Que.opn h9 2 3 (by decide)
  obtain ⟨A29, c30, rfl⟩ := h28.form
  refine o_fa rfl rfl (o_ld (hc := Blk.cell (i := 0) (h25.1) rfl) rfl rfl ?_)
  refine o_ln rfl rfl ?_
  have l34 : x0.heap.length ≤ 9223372036854775807 := Nat.le_trans h28.len.2.1 h28.len.2.2
  have r33 : inI64 (x0.heap.length : Int) := rngNat l34
  obtain ⟨n35, e36, hm⟩ := bs hm
  have r37 := (chkI_rng e36)
  refine o_sbE (he := e36) rfl rfl rfl ?_
  refine o_as rfl rfl (o_z ?_)
  refine ewp_seq (ewp_drawX [] O23 ?_)
  refine x_pre (fuel := 1) [] [(0, true), (1, true), (2, true), (3, true), (4, true), (5, true), (6, true), (7, true), (8, true), (9, true), (10, true), (11, true)] (by kernel_rfl) rfl ?_
  refine h_mv rfl rfl rfl (h_nc rfl rfl rfl (h_fa rfl rfl rfl (h_ldC (hc := fun w' ⟨O', hq⟩ => Blk.cell (i := 0) ((h25.st hq (by decide)).1) rfl) rfl rfl rfl ?_)))
  refine h_mv rfl rfl rfl (h_nc rfl rfl rfl (h_fa rfl rfl rfl (h_ldC (hc := fun w' ⟨O', hq⟩ => Blk.cell (i := 0) ((h25.st hq (by decide)).1) rfl) rfl rfl rfl ?_)))
  refine h_mv rfl rfl rfl ?_
  obtain ⟨a38, e39, hm⟩ := bs hm
  obtain ⟨p41, x40⟩ := atI_some' e39
  obtain ⟨b42, o43, ce44, hA45, hF48, hl46, hd47, rfl, r49, r50, r51, r52⟩ := h28.elemF x40
  refine h_iaE (hA := hA45) (hj := (Int.toNat_of_nonneg p41).symm) (hlt := hl46) rfl rfl rfl rfl ?_
  refine h_laB (hl := rfl) (hb := fun w' ⟨O', hq⟩ => (cellsAt_agree (hq.agree (i := 3) (by decide)) hF48 hd47)) rfl rfl rfl ?_
  obtain ⟨a53, e54, hm⟩ := bs hm
  obtain ⟨p56, x55⟩ := atI_some' e54
  obtain ⟨b57, o58, ce59, hA60, hF63, hl61, hd62, rfl, r64, r65, r66, r67⟩ := h28.elemF x55
  refine h_iaE (hA := hA60) (hj := (Int.toNat_of_nonneg p56).symm) (hlt := hl61) rfl rfl rfl rfl ?_
  refine hwp_nilT ?_
  refine x_one (i := 12) (by kernel_rfl) rfl ?_
  refine l_setE rfl h28 (a := a38) (Vb.ofAgg (cs := [(.int .i64 a38.key), (.int .i64 a38.tie), (.int .i64 a38.item), (.int .i64 a38.number)]) (x := a38) rfl ⟨rfl, r49, r50, r51, r52⟩) hA60 rfl rfl (lt_of_get x55) fun w68 S69 h28 => ?_
  refine x_end (by kernel_rfl) ?_
  refine x_nil (by kernel_rfl) ?_
  refine ewp_seq (ewp_region (o_mv rfl rfl (o_mv rfl rfl (o_nc rfl rfl (o_fa rfl rfl ?_)))))
  replace h25 := h25.st S69
  refine o_ld (hc := Blk.cell (i := 0) (h25.1) rfl) rfl rfl ?_
  refine o_mv rfl rfl ?_
  obtain ⟨u70, e71, hm⟩ := bs hm
  obtain ⟨h72, e73⟩ := cutRw h28 e71
  refine o_cutH (hc := e73) rfl rfl rfl ?_
  refine o_nc rfl rfl (o_fa rfl rfl (l_store h25 rfl rfl rfl (Nat.le_of_ble_eq_true rfl) (by first | exact allOne rfl | simp [Value.cells, Value.oneCell', errV_one]) fun w75 S76 h25 => ?_))
  replace h25 : Lc 2 w75 O23 p0 109 [(.slice A29 u70.length c30), (.int .i64 x0.next)] := h25
  refine o_z ?_
  refine ewp_seq (ewp_region (o_mv rfl rfl ?_))
  replace h72 := h72.st S76
  obtain ⟨O77, S78, hz80, ha81, h79⟩ := Que.shut (x := (⟨u70, x0.next⟩ : Que)) (l0 := 2) (l1 := 3) (by decide) h25 h72 r32
  obtain ⟨q82, e83, hm⟩ := bs hm
  refine l_callM (O := O77) (c_pqueue_Queue_down h79 (show inI64 (0) from by decide) e83) rfl rfl fun v88 w84 O85 S86 h89 => ?_
  refine o_z ?_
  refine ewp_seq (ewp_region (o_mv rfl rfl (o_mv rfl rfl (o_mv rfl rfl (o_as rfl rfl (o_as rfl rfl (o_as rfl rfl (o_as rfl rfl (o_z ?_)))))))))
  refine ewp_ret ?_
  obtain rfl := sm hm
  replace hB := (((((hB.st S6).st S24).st S69).st S76).st S78).st S86
  obtain ⟨O', hS', hz, hl⟩ := hE.leave (fun q => if q = 2 then i0 else 0) rfl hB
  exact ret4 rfl (res_tmp rfl) (res_tmp rfl) (res_tmp rfl) (res_tmp rfl) ⟨O', hS', _, _, _, _, (Ob.leave h89 hz (hl 2 (by decide) (by decide)) hx0.2), rfl, (vInt r18), (vInt r19), (vInt r20), (vErr (show inI64 0 from by decide))⟩
end
end Go.Proofs.Ytgnmjmcjadpmhaa

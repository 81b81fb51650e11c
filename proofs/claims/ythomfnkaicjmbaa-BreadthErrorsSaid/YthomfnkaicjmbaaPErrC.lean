/- Own text: what the proof of breadthErrors_holds uses, part 3: rules, models and their proofs, plain laws. -/
import Derived.Test.YthomfnkaicjmbaaPErrB
namespace Go.Proofs.Ythomfnkaicjmbaa
open Go Go.RowKit
section
open Go Go.RowKit
attribute [local irreducible] ewp owp hwp hwq hws Ev Evg Fn retPost loud loudS Res1
attribute [local irreducible] hwx loudX
def m_slices_Clone_Luint64_uint64 (xs : List U64) : Option (List U64) := if xs.length * 8 ≤ 140737488355328 ∧ xs.length ≤ 9223372036854775807 then some xs else none
theorem c_slices_Clone_Luint64_uint64 {w : World} {A : Nat → Prop} (hA : ∀ k, A k → k < w.heap.size) {v0 : Value} {x0 : List U64} (h0 : Vb w A v0 x0) {r : List U64} (hm : m_slices_Clone_Luint64_uint64 x0 = some r) :
    Fn Try.prog 75 [v0] w fun v w' => Ext w w' ∧ RowR w w' (upA A w w') 150 v r := by
  obtain ⟨⟨hl, hl2⟩, rfl⟩ := ite_some hm
  obtain ⟨O, hB, hA0⟩ := enter hA
  replace h0 := h0.mono hA0
  obtain ⟨Ad, c, rfl⟩ := h0.form
  refine fn_enter Try.func75 rfl Try.ntmps75 rfl ?_
  cases Ad with
  | none =>
    have hx : x0 = [] := by
      cases x0 with
      | nil => rfl
      | cons x xs => obtain ⟨_, _, _, h, _⟩ := h0.elem (k := 0) (x := x) rfl; cases h
    subst hx
    ((repeat (first | refine ewp_seq ?_ | refine ewp_block ?_ | refine ewp_region ?_ | refine ewp_skip ?_ | refine ewp_exit ?_ | refine ewp_ret ?_ | refine ewp_true rfl ?_ | refine ewp_false rfl ?_)) <;> (refine o_as rfl rfl ?_ <;> (first | refine owp_nilT ?_ | refine owp_nilB ?_ | refine owp_nilBB ?_ | refine owp_nil ?_)) <;> (repeat (first | refine ewp_seq ?_ | refine ewp_block ?_ | refine ewp_region ?_ | refine ewp_skip ?_ | refine ewp_exit ?_ | refine ewp_ret ?_ | refine ewp_true rfl ?_ | refine ewp_false rfl ?_)) <;> (refine o_mv rfl rfl ?_ <;> refine o_sn rfl rfl ?_ <;> (first | refine owp_nilT ?_ | refine owp_nilB ?_ | refine owp_nilBB ?_ | refine owp_nil ?_)) <;> (repeat (first | refine ewp_seq ?_ | refine ewp_block ?_ | refine ewp_region ?_ | refine ewp_skip ?_ | refine ewp_exit ?_ | refine ewp_ret ?_ | refine ewp_true rfl ?_ | refine ewp_false rfl ?_)) <;> (refine o_as rfl rfl ?_ <;> (first | refine owp_nilT ?_ | refine owp_nilB ?_ | refine owp_nilBB ?_ | refine owp_nil ?_)) <;> (repeat (first | refine ewp_seq ?_ | refine ewp_block ?_ | refine ewp_region ?_ | refine ewp_skip ?_ | refine ewp_exit ?_ | refine ewp_ret ?_ | refine ewp_true rfl ?_ | refine ewp_false rfl ?_)))
    exact ret1 rfl rfl ⟨Below.refl _ _, RowR.nil⟩
  | some ad =>
    ((repeat (first | refine ewp_seq ?_ | refine ewp_block ?_ | refine ewp_region ?_ | refine ewp_skip ?_ | refine ewp_exit ?_ | refine ewp_ret ?_ | refine ewp_true rfl ?_ | refine ewp_false rfl ?_)) <;> (refine o_as rfl rfl ?_ <;> (first | refine owp_nilT ?_ | refine owp_nilB ?_ | refine owp_nilBB ?_ | refine owp_nil ?_)) <;> (repeat (first | refine ewp_seq ?_ | refine ewp_block ?_ | refine ewp_region ?_ | refine ewp_skip ?_ | refine ewp_exit ?_ | refine ewp_ret ?_ | refine ewp_true rfl ?_ | refine ewp_false rfl ?_)) <;> (refine o_mv rfl rfl ?_ <;> refine o_sn rfl rfl ?_ <;> (first | refine owp_nilT ?_ | refine owp_nilB ?_ | refine owp_nilBB ?_ | refine owp_nil ?_)) <;> (repeat (first | refine ewp_seq ?_ | refine ewp_block ?_ | refine ewp_region ?_ | refine ewp_skip ?_ | refine ewp_exit ?_ | refine ewp_ret ?_ | refine ewp_true rfl ?_ | refine ewp_false rfl ?_)))
    refine l_bslice 2 (by decide) O (xs := ([] : List U64)) rfl rfl rfl rfl trivial (by decide) (by decide) rfl fun g w1 O1 S1 h1 => ?_
    replace hB := hB.st S1 (fun h => h) (fun h => h)
    replace h0 := h0.st S1 (fun h => h)
    (refine o_mv rfl rfl ?_)
    refine l_append rfl h1 h0.rd rfl rfl (by decide) (by simpa using hl) (by simpa using hl2) rfl fun A2 c2 w2 O2 S2 h2 => ?_
    replace hB := hB.st S2 (by decide) (by decide)
    rw [List.nil_append] at h2 ⊢
    (refine o_as rfl rfl ?_ <;> (first | refine owp_nilT ?_ | refine owp_nilB ?_ | refine owp_nilBB ?_ | refine owp_nil ?_))
    repeat (first | refine ewp_seq ?_ | refine ewp_block ?_ | refine ewp_region ?_ | refine ewp_skip ?_ | refine ewp_exit ?_ | refine ewp_ret ?_ | refine ewp_true rfl ?_ | refine ewp_false rfl ?_)
    exact ret1 rfl rfl ⟨hB.ext, h2.out hB (by decide)⟩
structure PFd where
  word : Int
  bit : Int
  width : Int
  size : Int
instance : Rp PFd where
  isAgg := true
  size := 4
  R w F cs x := cs = [.int .i64 x.word, .int .i64 x.bit, .int .i64 x.width, .int .i64 x.size] ∧ inI64 x.word ∧ inI64 x.bit ∧ inI64 x.width ∧ inI64 x.size
  len := by rintro w F cs x ⟨rfl, h0, h1, h2, h3⟩; rfl
  one := by rintro w F cs x ⟨rfl, h0, h1, h2, h3⟩ u hu; simp at hu; rcases hu with rfl | rfl | rfl | rfl <;> first | rfl | exact Vb.one rfl (by assumption)
  agree := by rintro w w' F cs x ⟨rfl, h0, h1, h2, h3⟩ ha; exact ⟨rfl, h0, h1, h2, h3⟩
  mono := by rintro w F G cs x ⟨rfl, h0, h1, h2, h3⟩ ha; exact ⟨rfl, h0, h1, h2, h3⟩
structure Pkr where
  fields : List PFd
  words : Int
instance : Ow Pkr where
  R w F M v x := ∃ (g : Nat) (L : Lab) (c0 : Value), v = .pointer (some ⟨g, 0, none⟩) ∧ Blk w g 148 [c0, .int .i64 x.words] ∧ M g ∧ L g = 0 ∧ RwM w F (fun k => M k ∧ L k = 1) 152 c0 x.fields ∧ inI64 x.words
  agree := by rintro w w' F M v x ⟨g, L, c0, rfl, hb, hM, hL, h0, h1⟩ a1 a2; exact ⟨g, L, c0, rfl, hb.keep (a2 g hM), hM, hL, h0.agree a1 fun k hk => a2 k hk.1, h1⟩
  mono := by rintro w F M F' M' v x ⟨g, L, c0, rfl, hb, hM, hL, h0, h1⟩ a1 a2 a3; exact ⟨g, L, c0, rfl, hb, a2 g hM, hL, h0.mono a1 (fun k hk => ⟨a2 k hk.1, hk.2⟩) fun k hf hm => a3 k hf hm.1, h1⟩
instance : OwP Pkr := ⟨by rintro w F M v x ⟨g, L, c0, rfl, _⟩; exact ⟨g, rfl⟩⟩
theorem Pkr.opn {i : Nat} {w : World} {O : Lab} {p : Nat} {x : Pkr} (h : Ob i w O (.pointer (some ⟨p, 0, none⟩)) x) (l0 l1 : Nat) (hl : l0 ≠ 0 ∧ l1 ≠ 0) : ∃ (O' : Lab) (c0 : Value), St (eT i) w O w O' ∧ (∀ k, Fr i w O k → ∃ q, q ∈ [l0, l1] ∧ Fr q w O' k) ∧ Lc l0 w O' p 148 [c0, .int .i64 x.words] ∧ Rw l1 w O' 152 c0 x.fields ∧ inI64 x.words := by
  obtain ⟨⟨g, L, c0, hv, hb, hM, hL, h0, h1⟩, hi⟩ := h
  obtain rfl : p = g := by injection hv with hv; injection hv with hv; injection hv
  exact ⟨part O i L [l0, l1], c0, part_st hi, part_all (by simp), ⟨hb, (part_fr (j := 0) rfl p ⟨hM, hL⟩).2⟩, h0.rw (part_fr0 hi) (part_fr (j := 1) rfl) hl.2, h1⟩
theorem Pkr.shut {w : World} {O : Lab} {p : Nat} {x : Pkr} {l0 l1 : Nat} {c0 : Value} (hd : ¬ 0 ∈ [l0, l1] ∧ [l0, l1].idxOf l0 = 0 ∧ [l0, l1].idxOf l1 = 1) (hb : Lc l0 w O p 148 [c0, .int .i64 x.words]) (h0 : Rw l1 w O 152 c0 x.fields) (h1 : inI64 x.words) : ∃ O', St (· ∈ [l0, l1]) w O w O' ∧ (∀ k, Fr 0 w O k → Fr 0 w O' k) ∧ (∀ q, q ∈ [l0, l1] → ∀ k, Fr q w O k → Fr l0 w O' k) ∧ Ob l0 w O' (.pointer (some ⟨p, 0, none⟩)) x := by
  have hb1 : l0 ≠ 0 := fun e => hd.1 (by simp [e])
  have hg := whole_fr (i := l0) hd.2.1 (by simp) p ⟨hb.1.lt, hb.2⟩
  exact ⟨whole O l0 [l0, l1], whole_st, whole_fr0 hd.1, whole_all, ⟨p, fun k => [l0, l1].idxOf (O k), c0, rfl, hb.1, hg.1, hg.2, h0.m (whole_fr0 hd.1) (whole_fr hd.2.2 (by simp)) (fun k a b => frNe0 hb1 k a b.1), h1⟩, hb1⟩
noncomputable def m_pack_New (x0 : List Int) : Option ((Option Pkr) × Err) :=
  if 64 < (x0.length : Int) then (some (none, (⟨5⟩ : Err))) else (bnd (rng (ρ := (Option Pkr) × Err) (fun (k25 : Nat) (a26 : Int) (s23 : Int × Pkr) => bnd (if a26 < 1 then (some true) else (if 64 < a26 then (some true) else (some false)) : Option Bool) fun y48 => if y48 = true then (some (.ret (none, (⟨1⟩ : Err)))) else (bnd (lop (ρ := Ctl (Int × Pkr) ((Option Pkr) × Err)) (fun (s61 : Int) => bnd (shlI 1 s61) fun n76 => if n76 < a26 then (bnd (chkI (s61 + 1)) fun n80 => some (.next n80)) else (some (.brk s61))) 0) fun res59 => fin res59 fun (s87 : Int) => bnd (bnd (chkI (s23.1 + s87)) fun n95 => if 64 < n95 then (bnd (chkI (s23.2.words + 1)) fun n109 => some (0, (⟨s23.2.fields, n109⟩ : Pkr))) else (some (s23.1, s23.2)) : Option (Int × Pkr)) fun y89 => bnd (chkI (y89.2.words - 1)) fun n133 => bnd (appI 32 y89.2.fields [(⟨n133, y89.1, s87, a26⟩ : PFd)]) fun u142 => bnd (chkI (y89.1 + s87)) fun n155 => some (.next (n155, (⟨u142, y89.2.words⟩ : Pkr))))) x0 0 (0, (⟨([] : List PFd), 1⟩ : Pkr))) fun res21 => fin res21 fun (s167 : Int × Pkr) => some ((some s167.2), (⟨0⟩ : Err)))
theorem c_pack_New {w : World} {O : Lab} {vx0 : Value} {x0 : List Int} (hx0 : Vb w (Fr 0 w O) vx0 x0) (j0 : Nat) (hj0 : j0 ≠ 0) {r : (Option Pkr) × Err} (hm : m_pack_New x0 = some r) :
    Fn Try.prog 74 [vx0] w fun v w' => ∃ O', St nT w O w' O' ∧ ∃ v0 v1 : Value, v = .tuple #[v0, v1] ∧ Obo j0 w' O' v0 r.1 ∧ Vb w' (Fr 0 w' O') v1 r.2 := by
 obtain ⟨O0, hE, hz0⟩ := ent0 (w := w) (O := O)
 have hB : Bm w O0 w O0 := Bm.refl
 replace hx0 := hx0.mono hz0
 obtain ⟨A2, c3, rfl⟩ := hx0.form
 refine fn_enter Try.func74 rfl Try.ntmps74 rfl ?_
 unfold m_pack_New at hm
 refine ewp_seq (ewp_region (o_as rfl rfl (o_as rfl rfl (o_z ?_))))
 refine ewp_seq (ewp_seq (ewp_region (o_mv rfl rfl (o_ln rfl rfl ?_))))
 have l5 : x0.length ≤ 9223372036854775807 := Nat.le_trans hx0.len.2.1 hx0.len.2.2
 have r4 : inI64 (x0.length : Int) := rngNat l5
 refine o_gtS rfl rfl rfl (fun c6 => ?_) fun c6 => ?_
 ·
  replace hm := ip hm c6
  refine o_z ?_
  refine ewp_true rfl (ewp_seq (ewp_region (o_miE rfl rfl ?_)))
  refine o_as rfl rfl (o_as rfl rfl (o_z ?_))
  refine ewp_ret ?_
  obtain rfl := sm hm
  obtain ⟨O', hS', hz, hl⟩ := hE.leave (fun _ => 0) rfl hB
  exact ret2 rfl (res_tmp rfl) (res_tmp rfl) ⟨O', hS', _, _, rfl, rfl, (vErr (by decide))⟩
 ·
  replace hm := im hm c6
  refine o_z ?_
  refine ewp_false rfl (ewp_skip (ewp_seq (ewp_region (o_bd rfl rfl rfl ?_))))
  refine l_box 2 O0 rfl rfl fun g7 w8 O9 S10 h11 => ?_
  replace h11 : Lc 2 w8 O9 g7 148 [(.slice none 0 0), (.int .i64 1)] := h11
  refine o_as rfl rfl (o_z ?_)
  refine ewp_seq (ewp_region (o_as rfl rfl (o_z ?_)))
  refine ewp_seq (ewp_seq (ewp_region (o_mv rfl rfl (o_ln rfl rfl ?_))))
  replace hx0 := hx0.st S10
  have l13 : x0.length ≤ 9223372036854775807 := Nat.le_trans hx0.len.2.1 hx0.len.2.2
  have r12 : inI64 (x0.length : Int) := rngNat l13
  refine o_mv rfl rfl (o_z ?_)
  have h14 : Rw 3 w8 O9 152 (.slice none 0 0) ([] : List PFd) := Rw.nil 3 (by decide)
  obtain ⟨O16, S17, hz19, ha20, h18⟩ := Pkr.shut (x := (⟨([] : List PFd), 1⟩ : Pkr)) (l0 := 2) (l1 := 3) (by decide) h11 h14 (show inI64 (1) from by decide)
  obtain ⟨res21, hL22, hm⟩ := bs hm
  refine ewp_join (aft res21 (fun (s23 : Int × Pkr) (x24 : Unit) => [(4, (.pointer (some ⟨g7, 0, none⟩)))]) (fun s23 x24 w' => ∃ O' : Lab, Bm w O0 w' O' ∧ Ob 2 w' O' (.pointer (some ⟨g7, 0, none⟩)) s23.2 ∧ inI64 s23.1)) ?_ ?_
  ·
   refine ewp_block ?_
   replace hB := (hB.st S10).st S17
   replace hx0 := hx0.st S17
   refine ewp_rng (σ := Int × Pkr) (X := Unit) (x0.length) hL22 rfl l13 (fun (s23 : Int × Pkr) (x24 : Unit) => [(4, (.pointer (some ⟨g7, 0, none⟩))), (5, (.int .i64 s23.1)), (15, (.slice A2 x0.length c3))]) _ (fun s23 x24 w' => ∃ O' : Lab, Bm w O0 w' O' ∧ Ob 2 w' O' (.pointer (some ⟨g7, 0, none⟩)) s23.2 ∧ Vb w' (Fr 0 w' O') (.slice A2 x0.length c3) x0 ∧ inI64 s23.1) _ () ⟨O16, hB, h18, hx0, (show inI64 (0) from by decide)⟩ ⟨rfl, rfl, rfl, rfl, rfl, trivial⟩ (fun _ _ => ⟨rfl, rfl⟩) (fun _ _ => ⟨rfl, trivial⟩) (fun _ _ _ ⟨O', hB, h39, hx0, r38⟩ => ⟨O', hB, h39, r38⟩) ⟨rfl, rfl, rfl⟩ ⟨rfl, rfl⟩ ?_
   rintro k25 a26 s23 x24 w27 cc29 hx30 ⟨O28, hB, h39, hx0, r38⟩ hf31 hret32 hbrk33
   have rk25 : inI64 (k25 : Int) := rngK hx30 l13
   refine ewp_seq (ewp_region ?_)
   obtain ⟨b40, o41, ce42, hA43, hl44, hd45, rfl, r47⟩ := hx0.elem' hx30
   refine o_iaE (hA := hA43) (hj := rfl) (hlt := hl44) rfl rfl rfl ?_
   refine o_ld (hc := cat0 hd45) rfl rfl ?_
   refine o_as rfl rfl (o_z ?_)
   refine ewp_seq (ewp_seq ?_)
   obtain ⟨y48, hy49, hf31⟩ := bs hf31
   refine ewp_join (fun l' w' => ∃ (x51 : Unit) (O' : Lab), subs l' [(4, (.pointer (some ⟨g7, 0, none⟩))), (5, (.int .i64 s23.1)), (7, (.int .i64 a26)), (15, (.slice A2 x0.length c3)), (16, (.int .i64 (x0.length : Int))), (17, (.int .i64 (k25 : Int))), (26, (.bool y48))] ∧ Bm w O0 w' O' ∧ Ob 2 w' O' (.pointer (some ⟨g7, 0, none⟩)) s23.2 ∧ Vb w' (Fr 0 w' O') (.slice A2 x0.length c3) x0) ?_ ?_
   ·
    refine ewp_region (o_mv rfl rfl (o_ltS rfl rfl rfl (fun c52 => ?_) fun c52 => ?_))
    ·
     replace hy49 := ip hy49 c52
     refine o_mv rfl rfl (owp_no rfl rfl rfl rfl (owp_no rfl rfl rfl rfl (o_pt rfl rfl rfl (o_z ?_))))
     obtain rfl := sm hy49
     exact ⟨(), _, ⟨rfl, rfl, rfl, rfl, rfl, rfl, rfl, trivial⟩, hB, h39, hx0⟩
    ·
     replace hy49 := im hy49 c52
     refine o_mv rfl rfl (owp_yes rfl rfl (o_mv rfl rfl (owp_yes rfl rfl (o_gtS rfl rfl rfl (fun c53 => ?_) fun c53 => ?_))))
     ·
      replace hy49 := ip hy49 c53
      refine o_pf rfl rfl rfl (o_z ?_)
      obtain rfl := sm hy49
      exact ⟨(), _, ⟨rfl, rfl, rfl, rfl, rfl, rfl, rfl, trivial⟩, hB, h39, hx0⟩
     ·
      replace hy49 := im hy49 c53
      refine o_pf rfl rfl rfl (o_z ?_)
      obtain rfl := sm hy49
      exact ⟨(), _, ⟨rfl, rfl, rfl, rfl, rfl, rfl, rfl, trivial⟩, hB, h39, hx0⟩
   rintro l54 w55 ⟨x51, O56, hs57, hB, h39, hx0⟩
   refine ewp_sub _ hs57 ?_
   refine ewp_cond rfl (fun c58 => ?_) (fun c58 => ?_)
   ·
    replace hf31 := ip hf31 c58
    refine ewp_seq (ewp_region (o_miE rfl rfl ?_))
    refine o_as rfl rfl (o_as rfl rfl (o_z ?_))
    refine ewp_ret ?_
    obtain rfl := sm hf31
    obtain rfl := hret32 _ rfl
    obtain rfl := sm (fin_ret hm)
    obtain ⟨O', hS', hz, hl⟩ := hE.leave (fun _ => 0) rfl hB
    exact ret2 rfl (res_tmp rfl) (res_tmp rfl) ⟨O', hS', _, _, rfl, rfl, (vErr (by decide))⟩
   ·
    replace hf31 := im' hf31 c58
    refine ewp_skip (ewp_seq (ewp_region (o_as rfl rfl (o_z ?_))))
    refine ewp_seq ?_
    obtain ⟨res59, hL60, hf31⟩ := bs hf31
    refine ewp_join (aft res59 (fun (s61 : Int) (x62 : Unit) => [(4, (.pointer (some ⟨g7, 0, none⟩))), (5, (.int .i64 s23.1)), (7, (.int .i64 a26)), (8, (.int .i64 s61)), (15, (.slice A2 x0.length c3)), (16, (.int .i64 (x0.length : Int))), (17, (.int .i64 (k25 : Int)))]) (fun s61 x62 w' => ∃ O' : Lab, Bm w O0 w' O' ∧ Ob 2 w' O' (.pointer (some ⟨g7, 0, none⟩)) s23.2 ∧ Vb w' (Fr 0 w' O') (.slice A2 x0.length c3) x0 ∧ inI64 s61)) ?_ ?_
    ·
     refine ewp_block (ewp_lop (σ := Int) (X := Unit) hL60 (fun (s61 : Int) (x62 : Unit) => [(4, (.pointer (some ⟨g7, 0, none⟩))), (5, (.int .i64 s23.1)), (7, (.int .i64 a26)), (8, (.int .i64 s61)), (15, (.slice A2 x0.length c3)), (16, (.int .i64 (x0.length : Int))), (17, (.int .i64 (k25 : Int)))]) _ (fun s61 x62 w' => ∃ O' : Lab, Bm w O0 w' O' ∧ Ob 2 w' O' (.pointer (some ⟨g7, 0, none⟩)) s23.2 ∧ Vb w' (Fr 0 w' O') (.slice A2 x0.length c3) x0 ∧ inI64 s61) _ () ⟨O56, hB, h39, hx0, (show inI64 (0) from by decide)⟩ ⟨rfl, rfl, rfl, rfl, rfl, rfl, rfl, trivial⟩ ?_)
     rintro s61 x62 w65 cc67 ⟨O66, hB, h39, hx0, r75⟩ hf69 hret70 hbrk71
     refine ewp_seq (ewp_seq (ewp_region (o_mv rfl rfl ?_)))
     obtain ⟨n76, e77, hf69⟩ := bs hf69
     have r78 := shlI_rng e77
     refine o_ish (he := e77) rfl rfl rfl ?_
     refine o_mv rfl rfl (o_ltS rfl rfl rfl (fun c79 => ?_) fun c79 => ?_)
     ·
      replace hf69 := ip hf69 c79
      refine o_z ?_
      refine ewp_true rfl (ewp_skip (ewp_block (ewp_region (o_mv rfl rfl ?_))))
      obtain ⟨n80, e81, hf69⟩ := bs hf69
      have r82 := (chkI_rng e81)
      refine o_adE (he := e81) rfl rfl rfl ?_
      refine o_as rfl rfl (o_z ?_)
      obtain rfl := sm hf69
      refine (?_ : Exists _)
      exact ⟨_, (), rfl, ⟨rfl, rfl, rfl, rfl, rfl, rfl, rfl, trivial⟩, _, hB, h39, hx0, r82⟩
     ·
      replace hf69 := im hf69 c79
      refine o_z ?_
      refine ewp_false rfl (ewp_exit ?_)
      obtain rfl := sm hf69
      refine (?_ : Exists _)
      exact ⟨_, (), hbrk71 _ rfl, ⟨rfl, rfl, rfl, rfl, rfl, rfl, rfl, trivial⟩, _, hB, h39, hx0, r75⟩
    rintro l83 w84 ⟨s87, x88, rfl, hs86, O85, hB, h39, hx0, r75⟩
    replace hf31 := fin_done hf31
    refine ewp_sub _ hs86 ?_
    refine ewp_seq ?_
    obtain ⟨y89, hy90, hf31⟩ := bs hf31
    refine ewp_join (fun l' w' => ∃ (x92 : Unit) (O' : Lab), subs l' [(4, (.pointer (some ⟨g7, 0, none⟩))), (5, (.int .i64 y89.1)), (7, (.int .i64 a26)), (8, (.int .i64 s87)), (15, (.slice A2 x0.length c3)), (16, (.int .i64 (x0.length : Int))), (17, (.int .i64 (k25 : Int)))] ∧ Bm w O0 w' O' ∧ Ob 2 w' O' (.pointer (some ⟨g7, 0, none⟩)) y89.2 ∧ Vb w' (Fr 0 w' O') (.slice A2 x0.length c3) x0 ∧ inI64 y89.1) ?_ ?_
    ·
     refine ewp_seq (ewp_region (o_mv rfl rfl (o_mv rfl rfl ?_)))
     obtain ⟨n95, e96, hy90⟩ := bs hy90
     have r97 := (chkI_rng e96)
     refine o_adE (he := e96) rfl rfl rfl ?_
     refine o_gtS rfl rfl rfl (fun c98 => ?_) fun c98 => ?_
     ·
      replace hy90 := ip hy90 c98
      refine o_z ?_
      refine ewp_true rfl (ewp_seq (ewp_region (o_mv rfl rfl (o_nc rfl rfl ?_))))
      obtain ⟨O99, v103, S100, ha102, h101, h104, r108⟩ := Pkr.opn h39 2 4 (by decide)
      obtain ⟨A105, c106, rfl⟩ := h104.form
      refine o_fa rfl rfl (o_ld (hc := Blk.cell (i := 1) (h101.1) rfl) rfl rfl ?_)
      obtain ⟨n109, e110, hy90⟩ := bs hy90
      have r111 := (chkI_rng e110)
      refine o_adE (he := e110) rfl rfl rfl ?_
      refine o_nc rfl rfl (o_fa rfl rfl (l_store h101 rfl rfl rfl (Nat.le_of_ble_eq_true rfl) (by first | exact allOne rfl | simp [Value.cells, Value.oneCell', errV_one]) fun w112 S113 h101 => ?_))
      replace h101 : Lc 2 w112 O99 g7 148 [(.slice A105 s23.2.fields.length c106), (.int .i64 n109)] := h101
      refine o_z ?_
      refine ewp_region (o_as rfl rfl (o_z ?_))
      replace h104 := h104.st S113
      obtain ⟨O114, S115, hz117, ha118, h116⟩ := Pkr.shut (x := (⟨s23.2.fields, n109⟩ : Pkr)) (l0 := 2) (l1 := 4) (by decide) h101 h104 r111
      obtain rfl := sm hy90
      replace hB := ((hB.st S100).st S113).st S115
      replace hx0 := ((hx0.st S100).st S113).st S115
      exact ⟨(), _, ⟨rfl, rfl, rfl, rfl, rfl, rfl, rfl, trivial⟩, hB, h116, hx0, (show inI64 (0) from by decide)⟩
     ·
      replace hy90 := im hy90 c98
      refine o_z ?_
      refine ewp_false rfl (ewp_skip ?_)
      obtain rfl := sm hy90
      exact ⟨(), _, ⟨rfl, rfl, rfl, rfl, rfl, rfl, rfl, trivial⟩, hB, h39, hx0, r38⟩
    rintro l119 w120 ⟨x92, O121, hs122, hB, h94, hx0, r93⟩
    refine ewp_sub _ hs122 ?_
    refine ewp_seq ?_
    obtain ⟨O123, v127, S124, ha126, h125, h128, r132⟩ := Pkr.opn h94 2 4 (by decide)
    obtain ⟨A129, c130, rfl⟩ := h128.form
    refine ewp_drawX [(14, []), (15, [4])] O123 ?_
    refine x_pre (fuel := 6) [] [(1, true), (2, true), (3, true), (4, true), (5, true), (6, true), (7, true), (8, true), (9, true), (10, true), (11, true), (12, true), (13, true)] (by kernel_rfl) rfl ?_
    refine h_mv rfl rfl rfl (h_nc rfl rfl rfl (h_fa rfl rfl rfl (h_ldC (hc := fun w' ⟨O', hq⟩ => Blk.cell (i := 0) ((h125.st hq (by decide)).1) rfl) rfl rfl rfl ?_)))
    refine h_mv rfl rfl rfl (h_nc rfl rfl rfl (h_fa rfl rfl rfl (h_ldC (hc := fun w' ⟨O', hq⟩ => Blk.cell (i := 1) ((h125.st hq (by decide)).1) rfl) rfl rfl rfl ?_)))
    obtain ⟨n133, e134, hf31⟩ := bs hf31
    have r135 := (chkI_rng e134)
    refine h_sbE (he := e134) rfl rfl rfl rfl ?_
    refine h_mv rfl rfl rfl (h_mv rfl rfl rfl (h_mv rfl rfl rfl (h_bd rfl rfl rfl rfl ?_)))
    refine hwp_nilT ?_
    refine x_pre (fuel := 5) [4] [(0, true)] (by kernel_rfl) rfl ?_
    refine h_mv rfl rfl rfl (hwp_nilT ?_)
    refine x_one (i := 14) (by kernel_rfl) rfl ?_
    refine l_bslice 5 (by decide) O123 (xs := ([(⟨n133, y89.1, s87, a26⟩ : PFd)] : List PFd)) rfl rfl rfl rfl ⟨(Vb.ofAgg (cs := [(.int .i64 n133), (.int .i64 y89.1), (.int .i64 s87), (.int .i64 a26)]) (x := (⟨n133, y89.1, s87, a26⟩ : PFd)) rfl ⟨rfl, r135, r93, r75, r47⟩), trivial⟩ (by decide) (by decide) rfl fun g136 w137 O138 S139 h140 => ?_
    have hZ := S139.lst [] (fun _ h => h.elim)
    refine x_go [(15, [4])] hZ (by kernel_rfl) ?_
    refine x_one (i := 15) (by kernel_rfl) rfl ?_
    obtain ⟨u142, e143, hf31⟩ := bs hf31
    obtain ⟨e143, e144, e145⟩ := appI_some e143
    replace h128 := h128.st S139
    refine l_append rfl h128 (h140.rd) rfl rfl (by decide) e144 e145 rfl fun A146 c147 w148 O149 S150 h151 => ?_
    rw [← e143] at h151 ⊢
    have hZ := S150.lst [4] (fun _ h => by cases h; decide)
    refine x_go [] hZ (by kernel_rfl) ?_
    refine x_pre (fuel := 1) [] [(16, true), (17, true)] (by kernel_rfl) rfl ?_
    refine h_nc rfl rfl rfl (h_fa rfl rfl rfl (hwp_nilT ?_))
    refine x_one (i := 18) (by kernel_rfl) rfl ?_
    replace h125 := (h125.st S139).st S150
    refine l_store h125 rfl rfl rfl (Nat.le_of_ble_eq_true rfl) (by first | exact allOne rfl | simp [Value.cells, Value.oneCell', errV_one]) fun w153 S154 h125 => ?_
    replace h125 : Lc 2 w153 O149 g7 148 [(.slice A146 u142.length c147), (.int .i64 y89.2.words)] := h125
    refine x_end (by kernel_rfl) ?_
    refine x_nil (by kernel_rfl) ?_
    refine ewp_region (o_mv rfl rfl (o_mv rfl rfl ?_))
    obtain ⟨n155, e156, hf31⟩ := bs hf31
    have r157 := (chkI_rng e156)
    refine o_adE (he := e156) rfl rfl rfl ?_
    refine o_as rfl rfl (o_z ?_)
    replace h151 := h151.st S154
    obtain ⟨O158, S159, hz161, ha162, h160⟩ := Pkr.shut (x := (⟨u142, y89.2.words⟩ : Pkr)) (l0 := 2) (l1 := 4) (by decide) h125 h151 r132
    obtain rfl := sm hf31
    refine (?_ : Exists _)
    replace hB := ((((hB.st S124).st S139).st S150).st S154).st S159
    replace hx0 := ((((hx0.st S124).st S139).st S150).st S154).st S159
    exact ⟨_, (), rfl, ⟨rfl, rfl, rfl, rfl, rfl, trivial⟩, _, hB, h160, hx0, r157⟩
  replace hB := (hB.st S10).st S17
  rintro l163 w164 ⟨s167, x168, rfl, hs166, O165, hB, h39, r38⟩
  replace hm := fin_done hm
  refine ewp_sub _ hs166 ?_
  refine ewp_seq (ewp_region (o_mv rfl rfl (o_as rfl rfl (o_as rfl rfl (o_z ?_)))))
  refine ewp_ret ?_
  obtain rfl := sm hm
  obtain ⟨O', hS', hz, hl⟩ := hE.leave (fun q => if q = 2 then j0 else 0) rfl hB
  exact ret2 rfl (res_tmp rfl) (res_tmp rfl) ⟨O', hS', _, _, rfl, (Ob.leave h39 hz (hl 2 (by decide) (by decide)) hj0), (vErr (show inI64 0 from by decide))⟩
noncomputable def m_pack_field_mask (x0 : PFd) : Option U64 :=
  bnd (shlU (1 : U64) x0.width) fun n12 => bnd (shlU (n12 - (1 : U64)) x0.bit) fun n14 => some n14
theorem c_pack_field_mask {w : World} {A : Nat → Prop} (hA : ∀ k, A k → k < w.heap.size) {vx0 : Value} {x0 : PFd} (hx0 : Vb w A vx0 x0) {r : U64} (hm : m_pack_field_mask x0 = some r) :
    Fn Try.prog 77 [vx0] w fun v w' => Ext w w' ∧ Vb w' (upA A w w') v r := by
 obtain ⟨O, hB, hA0⟩ := enter hA
 replace hx0 := hx0.mono hA0
 obtain ⟨cs2, rfl, rfl, r3, r4, r5, r6⟩ := hx0
 refine fn_enter Try.func77 rfl Try.ntmps77 rfl ?_
 unfold m_pack_field_mask at hm
 refine ewp_seq (ewp_region (l_box 2 O rfl rfl fun g7 w8 O9 S10 h11 => ?_))
 replace h11 : Lc 2 w8 O9 g7 152 [(.int .i64 x0.word), (.int .i64 x0.bit), (.int .i64 x0.width), (.int .i64 x0.size)] := h11
 refine o_as rfl rfl (o_z ?_)
 refine ewp_seq (ewp_draw (· = w8) [(0, true), (1, true), (2, true), (3, true), (4, true), (5, true), (6, true), (7, true)] (by kernel_rfl) rfl (by kernel_rfl) rfl ?_)
 refine h_fa rfl rfl rfl (h_ldA (hc := Blk.cell (i := 2) (h11.1) rfl) rfl rfl rfl ?_)
 obtain ⟨n12, e13, hm⟩ := bs hm
 refine h_ush (a := (1 : U64)) (he := e13) rfl rfl rfl rfl ?_
 refine h_usb (a := n12) (b := (1 : U64)) rfl rfl rfl rfl ?_
 refine h_fa rfl rfl rfl (h_ldA (hc := Blk.cell (i := 1) (h11.1) rfl) rfl rfl rfl ?_)
 obtain ⟨n14, e15, hm⟩ := bs hm
 refine h_ush (a := (n12 - (1 : U64))) (he := e15) rfl rfl rfl rfl ?_
 refine h_as rfl rfl rfl (h_z ?_)
 refine ewp_ret ?_
 obtain rfl := sm hm
 replace hB := hB.st S10
 exact ret1v rfl (res_tmp rfl) ⟨hB.ext, vU64⟩
noncomputable def m_pack_field_get (x0 : PFd) (x1 : List U64) : Option Int :=
  bnd (atI x1 x0.word) fun a15 => bnd (m_pack_field_mask x0) fun q26 => bnd (shrU (a15 &&& q26) x0.bit) fun n33 => some n33.toInt
theorem c_pack_field_get {w : World} {A : Nat → Prop} (hA : ∀ k, A k → k < w.heap.size) {vx0 : Value} {x0 : PFd} (hx0 : Vb w A vx0 x0) {vx1 : Value} {x1 : List U64} (hx1 : Vb w A vx1 x1) {r : Int} (hm : m_pack_field_get x0 x1 = some r) :
    Fn Try.prog 76 [vx0, vx1] w fun v w' => Ext w w' ∧ Vb w' (upA A w w') v r := by
 obtain ⟨O, hB, hA0⟩ := enter hA
 replace hx0 := hx0.mono hA0
 obtain ⟨cs3, rfl, rfl, r4, r5, r6, r7⟩ := hx0
 replace hx1 := hx1.mono hA0
 obtain ⟨A8, c9, rfl⟩ := hx1.form
 refine fn_enter Try.func76 rfl Try.ntmps76 rfl ?_
 unfold m_pack_field_get at hm
 refine ewp_seq (ewp_region (l_box 2 O rfl rfl fun g10 w11 O12 S13 h14 => ?_))
 replace h14 : Lc 2 w11 O12 g10 152 [(.int .i64 x0.word), (.int .i64 x0.bit), (.int .i64 x0.width), (.int .i64 x0.size)] := h14
 refine o_as rfl rfl (o_z ?_)
 refine ewp_seq (ewp_drawX [(6, [])] O12 ?_)
 refine x_pre (fuel := 5) [] [(0, true), (1, true), (2, true), (3, true), (4, true), (5, true), (8, true), (9, true)] (by kernel_rfl) rfl ?_
 refine h_mv rfl rfl rfl (h_fa rfl rfl rfl (h_ldC (hc := fun w' ⟨O', hq⟩ => Blk.cell (i := 0) ((h14.st hq (by decide)).1) rfl) rfl rfl rfl ?_))
 obtain ⟨a15, e16, hm⟩ := bs hm
 obtain ⟨p18, x17⟩ := atI_some' e16
 replace hx1 := hx1.st S13
 obtain ⟨b19, o20, ce21, hA22, hF25, hl23, hd24, rfl⟩ := hx1.elem x17
 refine h_iaE (hA := hA22) (hj := (Int.toNat_of_nonneg p18).symm) (hlt := hl23) rfl rfl rfl rfl ?_
 refine h_ldC (hc := fun w' ⟨O', hq⟩ => cat0 (cellsAt_agree (hq.agree (i := 0) (by decide)) hF25 hd24)) rfl rfl rfl ?_
 refine h_laB (hl := rfl) (hb := fun w' ⟨O', hq⟩ => ((h14.st hq (by decide)).1).cellsAt) rfl rfl rfl ?_
 refine h_fa rfl rfl rfl (h_ldC (hc := fun w' ⟨O', hq⟩ => Blk.cell (i := 1) ((h14.st hq (by decide)).1) rfl) rfl rfl rfl ?_)
 refine hwp_nilT ?_
 refine x_one (i := 6) (by kernel_rfl) rfl ?_
 obtain ⟨q26, e27, hm⟩ := bs hm
 refine l_callA (O := O12) (A := All w11) (R := fun w' F v => Vb w' F v q26) (c_pack_field_mask (fun _ h => h) (Vb.mono (F := Fr 0 w11 O12) (Vb.ofAgg (cs := [(.int .i64 x0.word), (.int .i64 x0.bit), (.int .i64 x0.width), (.int .i64 x0.size)]) (x := x0) rfl ⟨rfl, r4, r5, r6, r7⟩) Fr.lt) e27) rfl rfl fun v32 w28 O29 S30 h31 => ?_
 obtain rfl := h31.u64
 have hZ := S30.lst [] (fun _ h => h.elim)
 refine x_go [] hZ (by kernel_rfl) ?_
 refine x_pre (fuel := 0) [] [(7, true), (10, true), (11, true), (12, true)] (by kernel_rfl) rfl ?_
 refine h_uan (a := a15) (b := q26) rfl rfl rfl rfl ?_
 obtain ⟨n33, e34, hm⟩ := bs hm
 refine h_usr (a := (a15 &&& q26)) (he := e34) rfl rfl rfl rfl ?_
 refine h_cvI (a := n33) rfl rfl rfl ?_
 refine h_as rfl rfl rfl (hwp_nilT ?_)
 refine x_nil (by kernel_rfl) ?_
 refine ewp_ret ?_
 obtain rfl := sm hm
 replace hB := (hB.st S13).st S30
 exact ret1v rfl (res_tmp rfl) ⟨hB.ext, (vInt (toIntR _))⟩
noncomputable def m_pack_Packer_Pack (x0 : Pkr) (x1 : List Int) : Option ((List U64) × Err) :=
  if (x1.length : Int) ≠ (x0.fields.length : Int) then (some (([] : List U64), (⟨2⟩ : Err))) else (bnd (mkI 8 ((0 : U64) : U64) x0.words) fun u25 => bnd (rng (ρ := (List U64) × Err) (fun (k50 : Nat) (a51 : PFd) (s48 : (List U64)) => bnd (bnd (x1[k50]?) fun a87 => if a87 < 0 then (some true) else (bnd (x1[k50]?) fun a98 => if a51.size ≤ a98 then (some true) else (some false)) : Option Bool) fun y83 => if y83 = true then (some (.ret (([] : List U64), (⟨2⟩ : Err)))) else (bnd (atI s48 a51.word) fun a114 => bnd (x1[k50]?) fun a125 => bnd (shlU (BitVec.ofInt 64 a125) a51.bit) fun n135 => bnd (atI s48 a51.word) fun a137 => some (.next (s48.set (a51.word : Int).toNat (a114 ||| n135))))) x0.fields 0 u25) fun res46 => fin res46 fun (s154 : (List U64)) => some (s154, (⟨0⟩ : Err)))
theorem c_pack_Packer_Pack {w : World} {O : Lab} {p0 i0 : Nat} {x0 : Pkr} (hx0 : Ob i0 w O (.pointer (some ⟨p0, 0, none⟩)) x0) {vx1 : Value} {x1 : List Int} (hx1 : Vb w (Fr 0 w O) vx1 x1) {r : (List U64) × Err} (hm : m_pack_Packer_Pack x0 x1 = some r) :
    Fn Try.prog 80 [(.pointer (some ⟨p0, 0, none⟩)), vx1] w fun v w' => ∃ O', St (eT i0) w O w' O' ∧ ∃ v0 v1 : Value, Ob i0 w' O' (.pointer (some ⟨p0, 0, none⟩)) x0 ∧ v = .tuple #[v0, v1] ∧ Vb w' (Fr 0 w' O') v0 r.1 ∧ Vb w' (Fr 0 w' O') v1 r.2 := by
 obtain ⟨O0, hE, hz0, hl2⟩ := ent1 (w := w) (O := O) hx0.2
 have hx0' := Ob.leave hx0 hz0 hl2 (j := 2) (by decide)
 have hB : Bm w O0 w O0 := Bm.refl
 replace hx1 := hx1.mono hz0
 obtain ⟨A3, c4, rfl⟩ := hx1.form
 refine fn_enter Try.func80 rfl Try.ntmps80 rfl ?_
 unfold m_pack_Packer_Pack at hm
 refine ewp_seq (ewp_region (o_as rfl rfl (o_as rfl rfl (o_z ?_))))
 refine ewp_seq (ewp_seq (ewp_region (o_mv rfl rfl (o_pn rfl rfl ?_))))
 refine o_z ?_
 refine ewp_false rfl (ewp_skip (ewp_seq (ewp_seq (ewp_region (o_mv rfl rfl (o_ln rfl rfl ?_))))))
 have l6 : x1.length ≤ 9223372036854775807 := Nat.le_trans hx1.len.2.1 hx1.len.2.2
 have r5 : inI64 (x1.length : Int) := rngNat l6
 refine o_mv rfl rfl (o_nc rfl rfl ?_)
 obtain ⟨O7, v11, S8, ha10, h9, h12, r16⟩ := Pkr.opn hx0' 2 3 (by decide)
 obtain ⟨A13, c14, rfl⟩ := h12.form
 refine o_fa rfl rfl (o_ld (hc := Blk.cell (i := 0) (h9.1) rfl) rfl rfl ?_)
 refine o_ln rfl rfl ?_
 have l18 : x0.fields.length ≤ 9223372036854775807 := Nat.le_trans h12.len.2.1 h12.len.2.2
 have r17 : inI64 (x0.fields.length : Int) := rngNat l18
 refine o_neS rfl rfl rfl (fun c19 => ?_) fun c19 => ?_
 ·
  replace hm := ip hm c19
  refine o_z ?_
  refine ewp_true rfl (ewp_seq (ewp_region (o_miE rfl rfl ?_)))
  refine o_as rfl rfl (o_as rfl rfl (o_z ?_))
  refine ewp_ret ?_
  obtain ⟨O20, S21, hz23, ha24, h22⟩ := Pkr.shut (x := x0) (l0 := 2) (l1 := 3) (by decide) h9 h12 r16
  obtain rfl := sm hm
  replace hB := (hB.st S8).st S21
  obtain ⟨O', hS', hz, hl⟩ := hE.leave (fun q => if q = 2 then i0 else 0) rfl hB
  exact ret2 rfl (res_tmp rfl) (res_tmp rfl) ⟨O', hS', _, _, (Ob.leave h22 hz (hl 2 (by decide) (by decide)) hx0.2), rfl, (Vb.mono (Vb.nil _ _) hz), (vErr (by decide))⟩
 ·
  replace hm := im hm c19
  refine o_z ?_
  refine ewp_false rfl (ewp_skip (ewp_seq (ewp_region (o_mv rfl rfl (o_nc rfl rfl (o_fa rfl rfl (o_ld (hc := Blk.cell (i := 1) (h9.1) rfl) rfl rfl ?_)))))))
  obtain ⟨u25, e26, hm⟩ := bs hm
  obtain ⟨m27, e28, e29, e30, e31⟩ := mkI_some e26
  refine l_make 4 (by decide) O7 (z0 := ((0 : U64) : U64)) rfl rfl rfl rfl rfl e28 vU64 e29 e30 rfl fun g32 w33 O34 S35 h36 => ?_
  rw [← e31] at h36 ⊢
  refine o_as rfl rfl (o_z ?_)
  refine ewp_seq (ewp_seq (ewp_region (o_mv rfl rfl (o_nc rfl rfl (o_fa rfl rfl ?_)))))
  replace h9 := h9.st S35
  refine o_ld (hc := Blk.cell (i := 0) (h9.1) rfl) rfl rfl ?_
  refine o_ln rfl rfl ?_
  replace h12 := h12.st S35
  have l39 : x0.fields.length ≤ 9223372036854775807 := Nat.le_trans h12.len.2.1 h12.len.2.2
  have r38 : inI64 (x0.fields.length : Int) := rngNat l39
  refine o_mv rfl rfl (o_z ?_)
  obtain ⟨O40, S41, hz43, ha44, h42⟩ := Pkr.shut (x := x0) (l0 := 2) (l1 := 3) (by decide) h9 h12 r16
  have h45 := (h12.lend [3] (by decide)).shutS S41 hz43 ha44 [2] (by decide)
  obtain ⟨res46, hL47, hm⟩ := bs hm
  refine ewp_join (aft res46 (fun (s48 : (List U64)) (x49 : Unit) => [(6, (.slice (some ⟨g32, 0, none⟩) u25.length m27))]) (fun s48 x49 w' => ∃ O' : Lab, Bm w O0 w' O' ∧ Rw 4 w' O' 150 (.slice (some ⟨g32, 0, none⟩) u25.length m27) s48 ∧ Ob 2 w' O' (.pointer (some ⟨p0, 0, none⟩)) x0)) ?_ ?_
  ·
   refine ewp_block ?_
   replace hB := ((hB.st S8).st S35).st S41
   replace hx1 := ((hx1.st S8).st S35).st S41
   replace h36 := h36.st S41
   refine ewp_rng (σ := (List U64)) (X := Unit) (x0.fields.length) hL47 rfl l39 (fun (s48 : (List U64)) (x49 : Unit) => [(1, (.slice A3 x1.length c4)), (6, (.slice (some ⟨g32, 0, none⟩) u25.length m27)), (29, (.slice A13 x0.fields.length c14))]) _ (fun s48 x49 w' => ∃ O' : Lab, Bm w O0 w' O' ∧ Vb w' (Fr 0 w' O') (.slice A3 x1.length c4) x1 ∧ Rw 4 w' O' 150 (.slice (some ⟨g32, 0, none⟩) u25.length m27) s48 ∧ Vb w' (FrS [2] w' O') (.slice A13 x0.fields.length c14) x0.fields ∧ Ob 2 w' O' (.pointer (some ⟨p0, 0, none⟩)) x0) _ () ⟨O40, hB, hx1, h36, h45, h42⟩ ⟨rfl, rfl, rfl, rfl, rfl, trivial⟩ (fun _ _ => ⟨rfl, rfl⟩) (fun _ _ => ⟨rfl, trivial⟩) (fun _ _ _ ⟨O', hB, hx1, h63, h45, h42⟩ => ⟨O', hB, h63, h42⟩) ⟨rfl, rfl, rfl⟩ ⟨rfl, rfl⟩ ?_
   rintro k50 a51 s48 x49 w52 cc54 hx55 ⟨O53, hB, hx1, h63, h45, h42⟩ hf56 hret57 hbrk58
   have rk50 : inI64 (k50 : Int) := rngK hx55 l39
   refine ewp_seq (ewp_region (o_mv rfl rfl ?_))
   obtain ⟨b65, o66, ce67, hA68, hl69, hd70, rfl, r72, r73, r74, r75⟩ := h45.elem' hx55
   refine o_iaE (hA := hA68) (hj := rfl) (hlt := hl69) rfl rfl rfl ?_
   refine o_la (hl := rfl) (hc := hd70) rfl rfl ?_
   refine l_alloc 5 O53 rfl fun g76 w77 O78 S79 h80 => ?_
   replace h45 := h45.stS S79 id (fun _ _ => id)
   refine o_as rfl rfl (l_store h80 rfl rfl rfl (Nat.le_of_ble_eq_true rfl) (by first | exact allOne rfl | simp [Value.cells, Value.oneCell', errV_one]) fun w81 S82 h80 => ?_)
   replace h80 : Lc 5 w81 O78 g76 152 [(.int .i64 a51.word), (.int .i64 a51.bit), (.int .i64 a51.width), (.int .i64 a51.size)] := h80
   replace h45 := h45.stS S82 (by decide) (by decide)
   refine o_z ?_
   refine ewp_seq (ewp_seq ?_)
   obtain ⟨y83, hy84, hf56⟩ := bs hf56
   refine ewp_join (fun l' w' => ∃ (x86 : Unit) (O' : Lab), subs l' [(1, (.slice A3 x1.length c4)), (6, (.slice (some ⟨g32, 0, none⟩) u25.length m27)), (7, (.int .i64 (k50 : Int))), (8, (.pointer (some ⟨g76, 0, none⟩))), (29, (.slice A13 x0.fields.length c14)), (30, (.int .i64 (x0.fields.length : Int))), (31, (.int .i64 (k50 : Int))), (49, (.bool y83))] ∧ Bm w O0 w' O' ∧ Vb w' (Fr 0 w' O') (.slice A3 x1.length c4) x1 ∧ Rw 4 w' O' 150 (.slice (some ⟨g32, 0, none⟩) u25.length m27) s48 ∧ Lc 5 w' O' g76 152 [(.int .i64 a51.word), (.int .i64 a51.bit), (.int .i64 a51.width), (.int .i64 a51.size)] ∧ Vb w' (FrS [2] w' O') (.slice A13 x0.fields.length c14) x0.fields ∧ Ob 2 w' O' (.pointer (some ⟨p0, 0, none⟩)) x0) ?_ ?_
   ·
    refine ewp_draw (· = w81) [(0, true), (1, true), (2, true), (3, true), (4, true), (5, true), (6, true), (7, true), (8, true), (9, true), (10, true), (11, true), (12, true), (13, true)] (by kernel_rfl) rfl (by kernel_rfl) rfl ?_
    refine h_mv rfl rfl rfl (h_mv rfl rfl rfl ?_)
    obtain ⟨a87, e88, hy84⟩ := bs hy84
    replace hx1 := (hx1.st S79).st S82
    obtain ⟨b89, o90, ce91, hA92, hl93, hd94, rfl, r96⟩ := hx1.elem' e88
    refine h_iaE (hA := hA92) (hj := rfl) (hlt := hl93) rfl rfl rfl rfl ?_
    refine h_ldA (hc := cat0 hd94) rfl rfl rfl ?_
    refine h_ltS rfl rfl rfl rfl (fun c97 => ?_) fun c97 => ?_
    ·
     replace hy84 := ip hy84 c97
     refine h_mv rfl rfl rfl (h_no rfl rfl rfl rfl rfl (h_no rfl rfl rfl rfl rfl (h_no rfl rfl rfl rfl rfl (h_no rfl rfl rfl rfl rfl (h_no rfl rfl rfl rfl rfl (h_no rfl rfl rfl rfl rfl (h_no rfl rfl rfl rfl rfl (h_pt rfl rfl rfl rfl (h_z ?_)))))))))
     obtain rfl := sm hy84
     replace hB := (hB.st S79).st S82
     replace h42 := (h42.st S79).st S82
     replace h63 := (h63.st S79).st S82
     exact ⟨(), _, ⟨rfl, rfl, rfl, rfl, rfl, rfl, rfl, rfl, trivial⟩, hB, hx1, h63, h80, h45, h42⟩
    ·
     replace hy84 := im hy84 c97
     refine h_mv rfl rfl rfl (hwp_o rfl (hwq_yes rfl rfl (g_mv rfl rfl (hwp_o rfl (hwq_yes rfl rfl (g_mv rfl rfl (hwp_o rfl (hwq_yes rfl rfl ?_))))))))
     obtain ⟨a98, e99, hy84⟩ := bs hy84
     obtain ⟨b100, o101, ce102, hA103, hl104, hd105, rfl, r107⟩ := hx1.elem' e99
     refine g_iaE (hA := hA103) (hj := rfl) (hlt := hl104) rfl rfl rfl ?_
     refine hwp_o rfl (hwq_yes rfl rfl (g_ldA (hc := cat0 hd105) rfl rfl ?_))
     refine hwp_o rfl (hwq_yes rfl rfl (g_fa rfl rfl (hwp_o rfl (hwq_yes rfl rfl (g_ldA (hc := Blk.cell (i := 3) (h80.1) rfl) rfl rfl ?_)))))
     refine hwp_o rfl (hwq_yes rfl rfl (hwq_split (fun _ _ => ev_geq rfl rfl) rfl (fun c108 => ?_) (fun c108 => ?_)))
     ·
      replace hy84 := ip hy84 c108
      refine h_pf rfl rfl rfl rfl (h_z ?_)
      obtain rfl := sm hy84
      replace hB := (hB.st S79).st S82
      replace h42 := (h42.st S79).st S82
      replace h63 := (h63.st S79).st S82
      exact ⟨(), _, ⟨rfl, rfl, rfl, rfl, rfl, rfl, rfl, rfl, trivial⟩, hB, hx1, h63, h80, h45, h42⟩
     ·
      replace hy84 := im hy84 c108
      refine h_pf rfl rfl rfl rfl (h_z ?_)
      obtain rfl := sm hy84
      replace hB := (hB.st S79).st S82
      replace h42 := (h42.st S79).st S82
      replace h63 := (h63.st S79).st S82
      exact ⟨(), _, ⟨rfl, rfl, rfl, rfl, rfl, rfl, rfl, rfl, trivial⟩, hB, hx1, h63, h80, h45, h42⟩
   replace hB := (hB.st S79).st S82
   replace hx1 := (hx1.st S79).st S82
   replace h42 := (h42.st S79).st S82
   replace h63 := (h63.st S79).st S82
   rintro l109 w110 ⟨x86, O111, hs112, hB, hx1, h63, h80, h45, h42⟩
   refine ewp_sub _ hs112 ?_
   refine ewp_cond rfl (fun c113 => ?_) (fun c113 => ?_)
   ·
    replace hf56 := ip hf56 c113
    refine ewp_seq (ewp_region (o_miE rfl rfl ?_))
    refine o_as rfl rfl (o_as rfl rfl (o_z ?_))
    refine ewp_ret ?_
    obtain rfl := sm hf56
    obtain rfl := hret57 _ rfl
    obtain rfl := sm (fin_ret hm)
    obtain ⟨O', hS', hz, hl⟩ := hE.leave (fun q => if q = 2 then i0 else 0) rfl hB
    exact ret2 rfl (res_tmp rfl) (res_tmp rfl) ⟨O', hS', _, _, (Ob.leave h42 hz (hl 2 (by decide) (by decide)) hx0.2), rfl, (Vb.mono (Vb.nil _ _) hz), (vErr (by decide))⟩
   ·
    replace hf56 := im' hf56 c113
    refine ewp_skip (ewp_drawX [] O111 ?_)
    refine x_pre (fuel := 1) [] [(0, true), (1, true), (2, true), (3, true), (4, true), (5, true), (6, true), (7, true), (8, true), (9, true), (10, true), (11, true), (12, true), (13, true), (14, true)] (by kernel_rfl) rfl ?_
    refine h_mv rfl rfl rfl (h_fa rfl rfl rfl (h_ldC (hc := fun w' ⟨O', hq⟩ => Blk.cell (i := 0) ((h80.st hq (by decide)).1) rfl) rfl rfl rfl ?_))
    obtain ⟨a114, e115, hf56⟩ := bs hf56
    obtain ⟨p117, x116⟩ := atI_some' e115
    obtain ⟨b118, o119, ce120, hA121, hF124, hl122, hd123, rfl⟩ := h63.elemF x116
    refine h_iaE (hA := hA121) (hj := (Int.toNat_of_nonneg p117).symm) (hlt := hl122) rfl rfl rfl rfl ?_
    refine h_ldC (hc := fun w' ⟨O', hq⟩ => cat0 (cellsAt_agree (hq.agree (i := 4) (by decide)) hF124 hd123)) rfl rfl rfl ?_
    refine h_mv rfl rfl rfl (h_mv rfl rfl rfl ?_)
    obtain ⟨a125, e126, hf56⟩ := bs hf56
    obtain ⟨b127, o128, ce129, hA130, hF133, hl131, hd132, rfl, r134⟩ := hx1.elem e126
    refine h_iaE (hA := hA130) (hj := rfl) (hlt := hl131) rfl rfl rfl rfl ?_
    refine h_ldC (hc := fun w' ⟨O', hq⟩ => cat0 (cellsAt_agree (hq.agree (i := 0) (by decide)) hF133 hd132)) rfl rfl rfl ?_
    refine h_cvU rfl rfl rfl ?_
    refine h_fa rfl rfl rfl (h_ldC (hc := fun w' ⟨O', hq⟩ => Blk.cell (i := 1) ((h80.st hq (by decide)).1) rfl) rfl rfl rfl ?_)
    obtain ⟨n135, e136, hf56⟩ := bs hf56
    refine h_ush (a := (BitVec.ofInt 64 a125)) (he := e136) rfl rfl rfl rfl ?_
    refine h_uor (a := a114) (b := n135) rfl rfl rfl rfl ?_
    obtain ⟨a137, e138, hf56⟩ := bs hf56
    obtain ⟨p140, x139⟩ := atI_some' e138
    obtain ⟨b141, o142, ce143, hA144, hF147, hl145, hd146, rfl⟩ := h63.elemF x139
    refine h_iaE (hA := hA144) (hj := (Int.toNat_of_nonneg p140).symm) (hlt := hl145) rfl rfl rfl rfl ?_
    refine hwp_nilT ?_
    refine x_one (i := 15) (by kernel_rfl) rfl ?_
    refine l_setE rfl h63 (a := (a114 ||| n135)) vU64 hA144 rfl rfl (lt_of_get x139) fun w148 S149 h63 => ?_
    replace h45 := h45.stS S149 (by decide) (by decide)
    refine x_end (by kernel_rfl) ?_
    refine x_nil (by kernel_rfl) ?_
    obtain rfl := sm hf56
    refine (?_ : Exists _)
    replace hB := hB.st S149
    replace hx1 := hx1.st S149
    replace h42 := h42.st S149
    exact ⟨_, (), rfl, ⟨rfl, rfl, rfl, rfl, rfl, trivial⟩, _, hB, hx1, h63, h45, h42⟩
  replace hB := ((hB.st S8).st S35).st S41
  rintro l150 w151 ⟨s154, x155, rfl, hs153, O152, hB, h63, h42⟩
  replace hm := fin_done hm
  refine ewp_sub _ hs153 ?_
  refine ewp_seq (ewp_region (o_mv rfl rfl (o_as rfl rfl (o_as rfl rfl (o_z ?_)))))
  refine ewp_ret ?_
  obtain ⟨O156, S157, h63⟩ := h63.freeze
  obtain rfl := sm hm
  replace hB := hB.st S157
  obtain ⟨O', hS', hz, hl⟩ := hE.leave (fun q => if q = 2 then i0 else 0) rfl hB
  replace h42 := h42.st S157
  exact ret2 rfl (res_tmp rfl) (res_tmp rfl) ⟨O', hS', _, _, (Ob.leave h42 hz (hl 2 (by decide) (by decide)) hx0.2), rfl, (Vb.mono h63 hz), (vErr (show inI64 0 from by decide))⟩
noncomputable def m_pack_Packer_Unpack (x0 : Pkr) (x1 : List U64) : Option ((List Int) × Err) :=
  if (x1.length : Int) ≠ x0.words then (some (([] : List Int), (⟨2⟩ : Err))) else (bnd (mkI 8 (0 : Int) (x0.fields.length : Int)) fun u25 => bnd (m_slices_Clone_Luint64_uint64 x1) fun q38 => bnd (rng (ρ := (List Int) × Err) (fun (k60 : Nat) (a61 : PFd) (s58 : (List Int) × (List U64)) => bnd (m_pack_field_get a61 x1) fun q97 => bnd (s58.1[k60]?) fun a105 => bnd ((s58.1.set k60 q97)[k60]?) fun a117 => if a61.size ≤ a117 then (some (.ret (([] : List Int), (⟨2⟩ : Err)))) else (bnd (atI s58.2 a61.word) fun a128 => bnd (m_pack_field_mask a61) fun q139 => bnd (atI s58.2 a61.word) fun a146 => some (.next ((s58.1.set k60 q97), (s58.2.set (a61.word : Int).toNat (a128 &&& ~~~q139)))))) x0.fields 0 (u25, q38)) fun res56 => fin res56 fun (s163 : (List Int) × (List U64)) => bnd (rng (ρ := (List Int) × Err) (fun (k171 : Nat) (a172 : U64) (s169 : Unit) => bnd (s163.2[k171]?) fun a182 => if (a182.toNat : Int) ≠ ((0 : U64).toNat : Int) then (some (.ret (([] : List Int), (⟨2⟩ : Err)))) else (some (.next ()))) q38 0 ()) fun res167 => fin res167 fun (s196 : Unit) => some (s163.1, (⟨0⟩ : Err)))
theorem c_pack_Packer_Unpack {w : World} {O : Lab} {p0 i0 : Nat} {x0 : Pkr} (hx0 : Ob i0 w O (.pointer (some ⟨p0, 0, none⟩)) x0) {vx1 : Value} {x1 : List U64} (hx1 : Vb w (Fr 0 w O) vx1 x1) {r : (List Int) × Err} (hm : m_pack_Packer_Unpack x0 x1 = some r) :
    Fn Try.prog 62 [(.pointer (some ⟨p0, 0, none⟩)), vx1] w fun v w' => ∃ O', St (eT i0) w O w' O' ∧ ∃ v0 v1 : Value, Ob i0 w' O' (.pointer (some ⟨p0, 0, none⟩)) x0 ∧ v = .tuple #[v0, v1] ∧ Vb w' (Fr 0 w' O') v0 r.1 ∧ Vb w' (Fr 0 w' O') v1 r.2 := by
 obtain ⟨O0, hE, hz0, hl2⟩ := ent1 (w := w) (O := O) hx0.2
 have hx0' := Ob.leave hx0 hz0 hl2 (j := 2) (by decide)
 have hB : Bm w O0 w O0 := Bm.refl
 replace hx1 := hx1.mono hz0
 obtain ⟨A3, c4, rfl⟩ := hx1.form
 refine fn_enter Try.func62 rfl Try.ntmps62 rfl ?_
 unfold m_pack_Packer_Unpack at hm
 refine ewp_seq (ewp_region (o_as rfl rfl (o_as rfl rfl (o_z ?_))))
 refine ewp_seq (ewp_seq (ewp_region (o_mv rfl rfl (o_pn rfl rfl ?_))))
 refine o_z ?_
 refine ewp_false rfl (ewp_skip (ewp_seq (ewp_seq (ewp_region (o_mv rfl rfl (o_ln rfl rfl ?_))))))
 have l6 : x1.length ≤ 9223372036854775807 := Nat.le_trans hx1.len.2.1 hx1.len.2.2
 have r5 : inI64 (x1.length : Int) := rngNat l6
 refine o_mv rfl rfl (o_nc rfl rfl ?_)
 obtain ⟨O7, v11, S8, ha10, h9, h12, r16⟩ := Pkr.opn hx0' 2 3 (by decide)
 obtain ⟨A13, c14, rfl⟩ := h12.form
 refine o_fa rfl rfl (o_ld (hc := Blk.cell (i := 1) (h9.1) rfl) rfl rfl ?_)
 refine o_neS rfl rfl rfl (fun c17 => ?_) fun c17 => ?_
 ·
  replace hm := ip hm c17
  refine o_z ?_
  refine ewp_true rfl (ewp_seq (ewp_region (o_miE rfl rfl ?_)))
  refine o_as rfl rfl (o_as rfl rfl (o_z ?_))
  refine ewp_ret ?_
  obtain ⟨O18, S19, hz21, ha22, h20⟩ := Pkr.shut (x := x0) (l0 := 2) (l1 := 3) (by decide) h9 h12 r16
  obtain rfl := sm hm
  replace hB := (hB.st S8).st S19
  obtain ⟨O', hS', hz, hl⟩ := hE.leave (fun q => if q = 2 then i0 else 0) rfl hB
  exact ret2 rfl (res_tmp rfl) (res_tmp rfl) ⟨O', hS', _, _, (Ob.leave h20 hz (hl 2 (by decide) (by decide)) hx0.2), rfl, (Vb.mono (Vb.nil _ _) hz), (vErr (by decide))⟩
 ·
  replace hm := im hm c17
  refine o_z ?_
  refine ewp_false rfl (ewp_skip (ewp_seq (ewp_region (o_mv rfl rfl (o_nc rfl rfl (o_fa rfl rfl (o_ld (hc := Blk.cell (i := 0) (h9.1) rfl) rfl rfl ?_)))))))
  refine o_ln rfl rfl ?_
  have l24 : x0.fields.length ≤ 9223372036854775807 := Nat.le_trans h12.len.2.1 h12.len.2.2
  have r23 : inI64 (x0.fields.length : Int) := rngNat l24
  obtain ⟨u25, e26, hm⟩ := bs hm
  obtain ⟨m27, e28, e29, e30, e31⟩ := mkI_some e26
  refine l_make 4 (by decide) O7 (z0 := (0 : Int)) rfl rfl rfl rfl rfl e28 (vInt (show inI64 0 from by decide)) e29 e30 rfl fun g32 w33 O34 S35 h36 => ?_
  rw [← e31] at h36 ⊢
  refine o_as rfl rfl (o_z ?_)
  refine ewp_seq (ewp_region (o_mv rfl rfl ?_))
  obtain ⟨q38, e39, hm⟩ := bs hm
  replace hx1 := (hx1.st S8).st S35
  refine l_callRow 5 (by decide) (O := O34) (c_slices_Clone_Luint64_uint64 Fr.lt hx1 e39) rfl rfl fun A45 c46 w40 O41 S42 h43 => ?_
  refine o_as rfl rfl (o_z ?_)
  refine ewp_seq (ewp_seq (ewp_region (o_mv rfl rfl (o_nc rfl rfl (o_fa rfl rfl ?_)))))
  replace h9 := (h9.st S35).st S42
  refine o_ld (hc := Blk.cell (i := 0) (h9.1) rfl) rfl rfl ?_
  refine o_ln rfl rfl ?_
  replace h12 := (h12.st S35).st S42
  have l49 : x0.fields.length ≤ 9223372036854775807 := Nat.le_trans h12.len.2.1 h12.len.2.2
  have r48 : inI64 (x0.fields.length : Int) := rngNat l49
  refine o_mv rfl rfl (o_z ?_)
  obtain ⟨O50, S51, hz53, ha54, h52⟩ := Pkr.shut (x := x0) (l0 := 2) (l1 := 3) (by decide) h9 h12 r16
  have h55 := (h12.lend [3] (by decide)).shutS S51 hz53 ha54 [2] (by decide)
  obtain ⟨res56, hL57, hm⟩ := bs hm
  refine ewp_join (aft res56 (fun (s58 : (List Int) × (List U64)) (x59 : Unit) => [(6, (.slice (some ⟨g32, 0, none⟩) u25.length m27)), (7, (.slice A45 q38.length c46))]) (fun s58 x59 w' => ∃ O' : Lab, Bm w O0 w' O' ∧ Rw 4 w' O' 3 (.slice (some ⟨g32, 0, none⟩) u25.length m27) s58.1 ∧ Rw 5 w' O' 150 (.slice A45 q38.length c46) s58.2 ∧ Ob 2 w' O' (.pointer (some ⟨p0, 0, none⟩)) x0)) ?_ ?_
  ·
   refine ewp_block ?_
   replace hB := (((hB.st S8).st S35).st S42).st S51
   replace hx1 := (hx1.st S42).st S51
   replace h36 := (h36.st S42).st S51
   replace h43 := h43.st S51
   refine ewp_rng (σ := (List Int) × (List U64)) (X := Unit) (x0.fields.length) hL57 rfl l49 (fun (s58 : (List Int) × (List U64)) (x59 : Unit) => [(1, (.slice A3 x1.length c4)), (6, (.slice (some ⟨g32, 0, none⟩) u25.length m27)), (7, (.slice A45 q38.length c46)), (34, (.slice A13 x0.fields.length c14))]) _ (fun s58 x59 w' => ∃ O' : Lab, Bm w O0 w' O' ∧ Vb w' (Fr 0 w' O') (.slice A3 x1.length c4) x1 ∧ Rw 4 w' O' 3 (.slice (some ⟨g32, 0, none⟩) u25.length m27) s58.1 ∧ Rw 5 w' O' 150 (.slice A45 q38.length c46) s58.2 ∧ Vb w' (FrS [2] w' O') (.slice A13 x0.fields.length c14) x0.fields ∧ Ob 2 w' O' (.pointer (some ⟨p0, 0, none⟩)) x0) _ () ⟨O50, hB, hx1, h36, h43, h55, h52⟩ ⟨rfl, rfl, rfl, rfl, rfl, rfl, trivial⟩ (fun _ _ => ⟨rfl, rfl⟩) (fun _ _ => ⟨rfl, rfl, trivial⟩) (fun _ _ _ ⟨O', hB, hx1, h75, h77, h55, h52⟩ => ⟨O', hB, h75, h77, h52⟩) ⟨rfl, rfl, rfl⟩ ⟨rfl, rfl⟩ ?_
   rintro k60 a61 s58 x59 w62 cc64 hx65 ⟨O63, hB, hx1, h75, h77, h55, h52⟩ hf66 hret67 hbrk68
   have rk60 : inI64 (k60 : Int) := rngK hx65 l49
   refine ewp_seq (ewp_region (o_mv rfl rfl ?_))
   obtain ⟨b79, o80, ce81, hA82, hl83, hd84, rfl, r86, r87, r88, r89⟩ := h55.elem' hx65
   refine o_iaE (hA := hA82) (hj := rfl) (hlt := hl83) rfl rfl rfl ?_
   refine o_la (hl := rfl) (hc := hd84) rfl rfl ?_
   refine l_alloc 6 O63 rfl fun g90 w91 O92 S93 h94 => ?_
   replace h55 := h55.stS S93 id (fun _ _ => id)
   refine o_as rfl rfl (l_store h94 rfl rfl rfl (Nat.le_of_ble_eq_true rfl) (by first | exact allOne rfl | simp [Value.cells, Value.oneCell', errV_one]) fun w95 S96 h94 => ?_)
   replace h94 : Lc 6 w95 O92 g90 152 [(.int .i64 a61.word), (.int .i64 a61.bit), (.int .i64 a61.width), (.int .i64 a61.size)] := h94
   replace h55 := h55.stS S96 (by decide) (by decide)
   refine o_z ?_
   refine ewp_seq (ewp_region (o_mv rfl rfl (o_mv rfl rfl (o_la (hl := rfl) (hc := (h94.1).cellsAt) rfl rfl ?_))))
   refine o_mv rfl rfl ?_
   obtain ⟨q97, e98, hf66⟩ := bs hf66
   replace hx1 := (hx1.st S93).st S96
   refine l_callA (O := O92) (A := All w95) (R := fun w' F v => Vb w' F v q97) (c_pack_field_get (fun _ h => h) (Vb.mono (F := Fr 0 w95 O92) (Vb.ofAgg (cs := [(.int .i64 a61.word), (.int .i64 a61.bit), (.int .i64 a61.width), (.int .i64 a61.size)]) (x := a61) rfl ⟨rfl, r86, r87, r88, r89⟩) Fr.lt) (Vb.mono (F := Fr 0 w95 O92) hx1 Fr.lt) e98) rfl rfl fun v103 w99 O100 S101 h102 => ?_
   obtain ⟨rfl, r104⟩ := h102.int
   replace h55 := h55.stS S101 id (fun _ _ => id)
   obtain ⟨a105, e106, hf66⟩ := bs hf66
   replace h75 := ((h75.st S93).st S96).st S101
   obtain ⟨b107, o108, ce109, hA110, hl111, hd112, rfl, r114⟩ := h75.elem e106
   refine o_iaE (hA := hA110) (hj := rfl) (hlt := hl111) rfl rfl rfl ?_
   refine l_setE rfl h75 (a := q97) (vInt r104) hA110 rfl rfl (lt_of_get e106) fun w115 S116 h75 => ?_
   replace h55 := h55.stS S116 (by decide) (by decide)
   refine o_z ?_
   refine ewp_seq (ewp_seq (ewp_draw (· = w115) [(0, true), (1, true), (2, true), (3, true), (4, true), (5, true), (6, true)] (by kernel_rfl) rfl (by kernel_rfl) rfl ?_))
   refine h_mv rfl rfl rfl (h_mv rfl rfl rfl ?_)
   obtain ⟨a117, e118, hf66⟩ := bs hf66
   obtain ⟨b119, o120, ce121, hA122, hl123, hd124, rfl, r126⟩ := h75.elem e118
   refine h_iaE (hA := hA122) (hj := rfl) (hlt := hl123) rfl rfl rfl rfl ?_
   refine h_ldA (hc := cat0 hd124) rfl rfl rfl ?_
   refine h_fa rfl rfl rfl ?_
   replace h94 := (h94.st S101).st S116
   refine h_ldA (hc := Blk.cell (i := 3) (h94.1) rfl) rfl rfl rfl ?_
   refine h_geS rfl rfl rfl rfl (fun c127 => ?_) fun c127 => ?_
   ·
    replace hf66 := ip hf66 c127
    refine h_z ?_
    refine ewp_true rfl (ewp_seq (ewp_region (o_miE rfl rfl ?_)))
    refine o_as rfl rfl (o_as rfl rfl (o_z ?_))
    refine ewp_ret ?_
    obtain rfl := sm hf66
    obtain rfl := hret67 _ rfl
    obtain rfl := sm (fin_ret hm)
    replace hB := (((hB.st S93).st S96).st S101).st S116
    obtain ⟨O', hS', hz, hl⟩ := hE.leave (fun q => if q = 2 then i0 else 0) rfl hB
    replace h52 := (((h52.st S93).st S96).st S101).st S116
    exact ret2 rfl (res_tmp rfl) (res_tmp rfl) ⟨O', hS', _, _, (Ob.leave h52 hz (hl 2 (by decide) (by decide)) hx0.2), rfl, (Vb.mono (Vb.nil _ _) hz), (vErr (by decide))⟩
   ·
    replace hf66 := im hf66 c127
    refine h_z ?_
    refine ewp_false rfl (ewp_skip (ewp_drawX [(6, [])] O100 ?_))
    refine x_pre (fuel := 4) [] [(0, true), (1, true), (2, true), (3, true), (4, true), (5, true)] (by kernel_rfl) rfl ?_
    refine h_mv rfl rfl rfl (h_fa rfl rfl rfl (h_ldC (hc := fun w' ⟨O', hq⟩ => Blk.cell (i := 0) ((h94.st hq (by decide)).1) rfl) rfl rfl rfl ?_))
    obtain ⟨a128, e129, hf66⟩ := bs hf66
    obtain ⟨p131, x130⟩ := atI_some' e129
    replace h77 := (((h77.st S93).st S96).st S101).st S116
    obtain ⟨b132, o133, ce134, hA135, hF138, hl136, hd137, rfl⟩ := h77.elemF x130
    refine h_iaE (hA := hA135) (hj := (Int.toNat_of_nonneg p131).symm) (hlt := hl136) rfl rfl rfl rfl ?_
    refine h_ldC (hc := fun w' ⟨O', hq⟩ => cat0 (cellsAt_agree (hq.agree (i := 5) (by decide)) hF138 hd137)) rfl rfl rfl ?_
    refine h_laB (hl := rfl) (hb := fun w' ⟨O', hq⟩ => ((h94.st hq (by decide)).1).cellsAt) rfl rfl rfl ?_
    refine hwp_nilT ?_
    refine x_one (i := 6) (by kernel_rfl) rfl ?_
    obtain ⟨q139, e140, hf66⟩ := bs hf66
    refine l_callA (O := O100) (A := All w115) (R := fun w' F v => Vb w' F v q139) (c_pack_field_mask (fun _ h => h) (Vb.mono (F := Fr 0 w115 O100) (Vb.ofAgg (cs := [(.int .i64 a61.word), (.int .i64 a61.bit), (.int .i64 a61.width), (.int .i64 a61.size)]) (x := a61) rfl ⟨rfl, r86, r87, r88, r89⟩) Fr.lt) e140) rfl rfl fun v145 w141 O142 S143 h144 => ?_
    obtain rfl := h144.u64
    have hZ := S143.lst [] (fun _ h => h.elim)
    replace h55 := h55.stS S143 id (fun _ _ => id)
    refine x_go [] hZ (by kernel_rfl) ?_
    refine x_pre (fuel := 1) [] [(7, true), (8, true)] (by kernel_rfl) rfl ?_
    refine h_uns (a := a128) (b := q139) rfl rfl rfl rfl ?_
    obtain ⟨a146, e147, hf66⟩ := bs hf66
    obtain ⟨p149, x148⟩ := atI_some' e147
    replace h77 := h77.st S143
    obtain ⟨b150, o151, ce152, hA153, hF156, hl154, hd155, rfl⟩ := h77.elemF x148
    refine h_iaE (hA := hA153) (hj := (Int.toNat_of_nonneg p149).symm) (hlt := hl154) rfl rfl rfl rfl ?_
    refine hwp_nilT ?_
    refine x_one (i := 9) (by kernel_rfl) rfl ?_
    refine l_setE rfl h77 (a := (a128 &&& ~~~q139)) vU64 hA153 rfl rfl (lt_of_get x148) fun w157 S158 h77 => ?_
    replace h55 := h55.stS S158 (by decide) (by decide)
    refine x_end (by kernel_rfl) ?_
    refine x_nil (by kernel_rfl) ?_
    obtain rfl := sm hf66
    refine (?_ : Exists _)
    replace hB := (((((hB.st S93).st S96).st S101).st S116).st S143).st S158
    replace hx1 := (((hx1.st S101).st S116).st S143).st S158
    replace h52 := (((((h52.st S93).st S96).st S101).st S116).st S143).st S158
    replace h75 := (h75.st S143).st S158
    exact ⟨_, (), rfl, ⟨rfl, rfl, rfl, rfl, rfl, rfl, trivial⟩, _, hB, hx1, h75, h77, h55, h52⟩
  replace hB := (((hB.st S8).st S35).st S42).st S51
  rintro l159 w160 ⟨s163, x164, rfl, hs162, O161, hB, h75, h77, h52⟩
  replace hm := fin_done hm
  refine ewp_sub _ hs162 ?_
  refine ewp_seq (ewp_seq (ewp_region (o_mv rfl rfl (o_ln rfl rfl ?_))))
  have l166 : q38.length ≤ 9223372036854775807 := Nat.le_trans h77.len.2.1 h77.len.2.2
  have r165 : inI64 (q38.length : Int) := rngNat l166
  refine o_mv rfl rfl (o_z ?_)
  obtain ⟨res167, hL168, hm⟩ := bs hm
  refine ewp_join (aft res167 (fun (s169 : Unit) (x170 : Unit) => [(6, (.slice (some ⟨g32, 0, none⟩) u25.length m27))]) (fun s169 x170 w' => ∃ O' : Lab, Bm w O0 w' O' ∧ Rw 4 w' O' 3 (.slice (some ⟨g32, 0, none⟩) u25.length m27) s163.1 ∧ Ob 2 w' O' (.pointer (some ⟨p0, 0, none⟩)) x0)) ?_ ?_
  ·
   refine ewp_block (ewp_rng (σ := Unit) (X := Unit) (q38.length) hL168 rfl l166 (fun (s169 : Unit) (x170 : Unit) => [(6, (.slice (some ⟨g32, 0, none⟩) u25.length m27)), (65, (.slice A45 q38.length c46))]) _ (fun s169 x170 w' => ∃ O' : Lab, Bm w O0 w' O' ∧ Rw 4 w' O' 3 (.slice (some ⟨g32, 0, none⟩) u25.length m27) s163.1 ∧ Rw 5 w' O' 150 (.slice A45 q38.length c46) s163.2 ∧ Ob 2 w' O' (.pointer (some ⟨p0, 0, none⟩)) x0) _ () ⟨O161, hB, h75, h77, h52⟩ ⟨rfl, rfl, rfl, rfl, trivial⟩ (fun _ _ => ⟨rfl, rfl⟩) (fun _ _ => ⟨rfl, trivial⟩) (fun _ _ _ ⟨O', hB, h75, h77, h52⟩ => ⟨O', hB, h75, h52⟩) ⟨rfl, rfl, rfl⟩ ⟨rfl, rfl⟩ ?_)
   rintro k171 a172 s169 x170 w173 cc175 hx176 ⟨O174, hB, h75, h77, h52⟩ hf177 hret178 hbrk179
   have rk171 : inI64 (k171 : Int) := rngK hx176 l166
   refine ewp_seq (ewp_region ?_)
   obtain ⟨a182, e183, hf177⟩ := bs hf177
   obtain ⟨b184, o185, ce186, hA187, hl188, hd189, rfl⟩ := h77.elem e183
   refine o_iaE (hA := hA187) (hj := rfl) (hlt := hl188) rfl rfl rfl ?_
   refine o_ld (hc := cat0 hd189) rfl rfl ?_
   refine o_as rfl rfl (o_z ?_)
   refine ewp_seq (ewp_region (o_mv rfl rfl (o_neS rfl rfl rfl (fun c191 => ?_) fun c191 => ?_)))
   ·
    replace hf177 := ip hf177 c191
    refine o_z ?_
    refine ewp_true rfl (ewp_seq (ewp_region (o_miE rfl rfl ?_)))
    refine o_as rfl rfl (o_as rfl rfl (o_z ?_))
    refine ewp_ret ?_
    obtain rfl := sm hf177
    obtain rfl := hret178 _ rfl
    obtain rfl := sm (fin_ret hm)
    obtain ⟨O', hS', hz, hl⟩ := hE.leave (fun q => if q = 2 then i0 else 0) rfl hB
    exact ret2 rfl (res_tmp rfl) (res_tmp rfl) ⟨O', hS', _, _, (Ob.leave h52 hz (hl 2 (by decide) (by decide)) hx0.2), rfl, (Vb.mono (Vb.nil _ _) hz), (vErr (by decide))⟩
   ·
    replace hf177 := im hf177 c191
    refine o_z ?_
    refine ewp_false rfl (ewp_skip ?_)
    obtain rfl := sm hf177
    refine (?_ : Exists _)
    exact ⟨_, (), rfl, ⟨rfl, rfl, rfl, rfl, trivial⟩, _, hB, h75, h77, h52⟩
  rintro l192 w193 ⟨s196, x197, rfl, hs195, O194, hB, h75, h52⟩
  replace hm := fin_done hm
  refine ewp_sub _ hs195 ?_
  refine ewp_seq (ewp_region (o_mv rfl rfl (o_as rfl rfl (o_as rfl rfl (o_z ?_)))))
  refine ewp_ret ?_
  obtain ⟨O198, S199, h75⟩ := h75.freeze
  obtain rfl := sm hm
  replace hB := hB.st S199
  obtain ⟨O', hS', hz, hl⟩ := hE.leave (fun q => if q = 2 then i0 else 0) rfl hB
  replace h52 := h52.st S199
  exact ret2 rfl (res_tmp rfl) (res_tmp rfl) ⟨O', hS', _, _, (Ob.leave h52 hz (hl 2 (by decide) (by decide)) hx0.2), rfl, (Vb.mono h75 hz), (vErr (show inI64 0 from by decide))⟩
noncomputable def m_pack_Packer_Hash (x0 : Pkr) (x1 : List U64) : Option Int :=
  bnd (rng (ρ := Int) (fun (k13 : Nat) (a14 : U64) (s11 : U64) => bnd (shrU ((s11 ^^^ a14) * (13787848793156543929 : U64)) 29) fun n31 => some (.next (((s11 ^^^ a14) * (13787848793156543929 : U64)) ^^^ n31))) x1 0 ((BitVec.ofInt 64 (x1.length : Int)) + (11400714819323198485 : U64))) fun res9 => fin res9 fun (s37 : U64) => bnd (shrU s37 2) fun n39 => some n39.toInt
theorem c_pack_Packer_Hash {w : World} {O : Lab} {p0 i0 : Nat} {x0 : Pkr} (hx0 : Ob i0 w O (.pointer (some ⟨p0, 0, none⟩)) x0) {vx1 : Value} {x1 : List U64} (hx1 : Vb w (Fr 0 w O) vx1 x1) {r : Int} (hm : m_pack_Packer_Hash x0 x1 = some r) :
    Fn Try.prog 81 [(.pointer (some ⟨p0, 0, none⟩)), vx1] w fun v w' => ∃ O', St (eT i0) w O w' O' ∧ Ob i0 w' O' (.pointer (some ⟨p0, 0, none⟩)) x0 ∧ Vb w' (Fr 0 w' O') v r := by
 obtain ⟨O0, hE, hz0, hl2⟩ := ent1 (w := w) (O := O) hx0.2
 have hx0' := Ob.leave hx0 hz0 hl2 (j := 2) (by decide)
 have hB : Bm w O0 w O0 := Bm.refl
 replace hx1 := hx1.mono hz0
 obtain ⟨A3, c4, rfl⟩ := hx1.form
 refine fn_enter Try.func81 rfl Try.ntmps81 rfl ?_
 unfold m_pack_Packer_Hash at hm
 refine ewp_seq (ewp_region (o_as rfl rfl (o_z ?_)))
 refine ewp_seq (ewp_seq (ewp_region (o_mv rfl rfl (o_pn rfl rfl ?_))))
 refine o_z ?_
 refine ewp_false rfl (ewp_skip (ewp_seq (ewp_region (o_mv rfl rfl (o_ln rfl rfl ?_)))))
 have l6 : x1.length ≤ 9223372036854775807 := Nat.le_trans hx1.len.2.1 hx1.len.2.2
 have r5 : inI64 (x1.length : Int) := rngNat l6
 refine o_cvU rfl rfl ?_
 refine o_uad (a := (BitVec.ofInt 64 (x1.length : Int))) (b := (11400714819323198485 : U64)) rfl rfl rfl ?_
 refine o_as rfl rfl (o_z ?_)
 refine ewp_seq (ewp_seq (ewp_region (o_mv rfl rfl (o_ln rfl rfl ?_))))
 have l8 : x1.length ≤ 9223372036854775807 := Nat.le_trans hx1.len.2.1 hx1.len.2.2
 have r7 : inI64 (x1.length : Int) := rngNat l8
 refine o_mv rfl rfl (o_z ?_)
 obtain ⟨res9, hL10, hm⟩ := bs hm
 refine ewp_join (aft res9 (fun (s11 : U64) (x12 : Unit) => [(5, (.int .u64 s11.toNat))]) (fun s11 x12 w' => ∃ O' : Lab, Bm w O0 w' O' ∧ Ob 2 w' O' (.pointer (some ⟨p0, 0, none⟩)) x0)) ?_ ?_
 ·
  refine ewp_block (ewp_rng (σ := U64) (X := Unit) (x1.length) hL10 rfl l8 (fun (s11 : U64) (x12 : Unit) => [(5, (.int .u64 s11.toNat)), (14, (.slice A3 x1.length c4))]) _ (fun s11 x12 w' => ∃ O' : Lab, Bm w O0 w' O' ∧ Vb w' (Fr 0 w' O') (.slice A3 x1.length c4) x1 ∧ Ob 2 w' O' (.pointer (some ⟨p0, 0, none⟩)) x0) _ () ⟨O0, hB, hx1, hx0'⟩ ⟨rfl, rfl, rfl, rfl, trivial⟩ (fun _ _ => ⟨rfl, rfl⟩) (fun _ _ => ⟨rfl, trivial⟩) (fun _ _ _ ⟨O', hB, hx1, hx0'⟩ => ⟨O', hB, hx0'⟩) ⟨rfl, rfl, rfl⟩ ⟨rfl, rfl⟩ ?_)
  rintro k13 a14 s11 x12 w15 cc17 hx18 ⟨O16, hB, hx1, hx0'⟩ hf19 hret20 hbrk21
  have rk13 : inI64 (k13 : Int) := rngK hx18 l8
  refine ewp_seq (ewp_region ?_)
  obtain ⟨b24, o25, ce26, hA27, hl28, hd29, rfl⟩ := hx1.elem' hx18
  refine o_iaE (hA := hA27) (hj := rfl) (hlt := hl28) rfl rfl rfl ?_
  refine o_ld (hc := cat0 hd29) rfl rfl ?_
  refine o_as rfl rfl (o_z ?_)
  refine ewp_seq (ewp_region (o_mv rfl rfl (o_mv rfl rfl (o_uxo (a := s11) (b := a14) rfl rfl rfl ?_))))
  refine o_as rfl rfl (o_z ?_)
  refine ewp_seq (ewp_region (o_mv rfl rfl (o_uml (a := (s11 ^^^ a14)) (b := (13787848793156543929 : U64)) rfl rfl rfl ?_)))
  refine o_as rfl rfl (o_z ?_)
  refine ewp_region (o_mv rfl rfl (o_mv rfl rfl ?_))
  obtain ⟨n31, e32, hf19⟩ := bs hf19
  refine o_usr (a := ((s11 ^^^ a14) * (13787848793156543929 : U64))) (he := e32) rfl rfl rfl ?_
  refine o_uxo (a := ((s11 ^^^ a14) * (13787848793156543929 : U64))) (b := n31) rfl rfl rfl ?_
  refine o_as rfl rfl (o_z ?_)
  obtain rfl := sm hf19
  refine (?_ : Exists _)
  exact ⟨_, (), rfl, ⟨rfl, rfl, rfl, rfl, trivial⟩, _, hB, hx1, hx0'⟩
 rintro l33 w34 ⟨s37, x38, rfl, hs36, O35, hB, hx0'⟩
 replace hm := fin_done hm
 refine ewp_sub _ hs36 ?_
 refine ewp_seq (ewp_region (o_mv rfl rfl ?_))
 obtain ⟨n39, e40, hm⟩ := bs hm
 refine o_usr (a := s37) (he := e40) rfl rfl rfl ?_
 refine o_cvI (a := n39) rfl rfl ?_
 refine o_as rfl rfl (o_z ?_)
 refine ewp_ret ?_
 obtain rfl := sm hm
 obtain ⟨O', hS', hz, hl⟩ := hE.leave (fun q => if q = 2 then i0 else 0) rfl hB
 exact ret1v rfl (res_tmp rfl) ⟨O', hS', (Ob.leave hx0' hz (hl 2 (by decide) (by decide)) hx0.2), (vInt (toIntR _))⟩
noncomputable def m_slices_Equal_Luint64_uint64 (x0 : List U64) (x1 : List U64) : Option Bool :=
  if (x0.length : Int) ≠ (x1.length : Int) then (some false) else (bnd (rng (ρ := Bool) (fun (k18 : Nat) (a19 : U64) (s16 : Unit) => bnd (x1[k18]?) fun a36 => if (a19.toNat : Int) ≠ (a36.toNat : Int) then (some (.ret false)) else (some (.next ()))) x0 0 ()) fun res14 => fin res14 fun (s50 : Unit) => some true)
theorem c_slices_Equal_Luint64_uint64 {w : World} {A : Nat → Prop} (hA : ∀ k, A k → k < w.heap.size) {vx0 : Value} {x0 : List U64} (hx0 : Vb w A vx0 x0) {vx1 : Value} {x1 : List U64} (hx1 : Vb w A vx1 x1) {r : Bool} (hm : m_slices_Equal_Luint64_uint64 x0 x1 = some r) :
    Fn Try.prog 82 [vx0, vx1] w fun v w' => Ext w w' ∧ Vb w' (upA A w w') v r := by
 obtain ⟨O, hB, hA0⟩ := enter hA
 replace hx0 := hx0.mono hA0
 obtain ⟨A3, c4, rfl⟩ := hx0.form
 replace hx1 := hx1.mono hA0
 obtain ⟨A5, c6, rfl⟩ := hx1.form
 refine fn_enter Try.func82 rfl Try.ntmps82 rfl ?_
 unfold m_slices_Equal_Luint64_uint64 at hm
 refine ewp_seq (ewp_region (o_as rfl rfl (o_z ?_)))
 refine ewp_seq (ewp_seq (ewp_region (o_mv rfl rfl (o_ln rfl rfl ?_))))
 have l8 : x0.length ≤ 9223372036854775807 := Nat.le_trans hx0.len.2.1 hx0.len.2.2
 have r7 : inI64 (x0.length : Int) := rngNat l8
 refine o_mv rfl rfl (o_ln rfl rfl ?_)
 have l10 : x1.length ≤ 9223372036854775807 := Nat.le_trans hx1.len.2.1 hx1.len.2.2
 have r9 : inI64 (x1.length : Int) := rngNat l10
 refine o_neS rfl rfl rfl (fun c11 => ?_) fun c11 => ?_
 ·
  replace hm := ip hm c11
  refine o_z ?_
  refine ewp_true rfl (ewp_seq (ewp_region (o_as rfl rfl (o_z ?_))))
  refine ewp_ret ?_
  obtain rfl := sm hm
  exact ret1v rfl (res_tmp rfl) ⟨hB.ext, vBool⟩
 ·
  replace hm := im hm c11
  refine o_z ?_
  refine ewp_false rfl (ewp_skip (ewp_seq (ewp_seq (ewp_region (o_mv rfl rfl (o_ln rfl rfl ?_))))))
  have l13 : x0.length ≤ 9223372036854775807 := Nat.le_trans hx0.len.2.1 hx0.len.2.2
  have r12 : inI64 (x0.length : Int) := rngNat l13
  refine o_mv rfl rfl (o_z ?_)
  obtain ⟨res14, hL15, hm⟩ := bs hm
  refine ewp_join (aft res14 (fun (s16 : Unit) (x17 : Unit) => []) (fun s16 x17 w' => ∃ O' : Lab, Bs w A w' O')) ?_ ?_
  ·
   refine ewp_block (ewp_rng (σ := Unit) (X := Unit) (x0.length) hL15 rfl l13 (fun (s16 : Unit) (x17 : Unit) => [(0, (.slice A3 x0.length c4)), (1, (.slice A5 x1.length c6))]) _ (fun s16 x17 w' => ∃ O' : Lab, Bs w A w' O' ∧ Vb w' (Fr 0 w' O') (.slice A3 x0.length c4) x0 ∧ Vb w' (Fr 0 w' O') (.slice A5 x1.length c6) x1) _ () ⟨O, hB, hx0, hx1⟩ ⟨rfl, rfl, rfl, rfl, trivial⟩ (fun _ _ => ⟨rfl, rfl⟩) (fun _ _ => trivial) (fun _ _ _ ⟨O', hB, hx0, hx1⟩ => ⟨O', hB⟩) ⟨rfl, rfl, rfl⟩ ⟨rfl, rfl⟩ ?_)
   rintro k18 a19 s16 x17 w20 cc22 hx23 ⟨O21, hB, hx0, hx1⟩ hf24 hret25 hbrk26
   have rk18 : inI64 (k18 : Int) := rngK hx23 l13
   refine ewp_seq (ewp_region (o_mv rfl rfl (o_as rfl rfl (o_z ?_))))
   refine ewp_seq (ewp_draw (· = w20) [(0, true), (1, true), (2, true), (3, true), (4, true), (5, true), (6, true), (7, true), (8, true)] (by kernel_rfl) rfl (by kernel_rfl) rfl ?_)
   refine h_mv rfl rfl rfl (h_mv rfl rfl rfl ?_)
   obtain ⟨b29, o30, ce31, hA32, hl33, hd34, rfl⟩ := hx0.elem' hx23
   refine h_iaE (hA := hA32) (hj := rfl) (hlt := hl33) rfl rfl rfl rfl ?_
   refine h_ldA (hc := cat0 hd34) rfl rfl rfl ?_
   refine h_mv rfl rfl rfl (h_mv rfl rfl rfl ?_)
   obtain ⟨a36, e37, hf24⟩ := bs hf24
   obtain ⟨b38, o39, ce40, hA41, hl42, hd43, rfl⟩ := hx1.elem' e37
   refine h_iaE (hA := hA41) (hj := rfl) (hlt := hl42) rfl rfl rfl rfl ?_
   refine h_ldA (hc := cat0 hd43) rfl rfl rfl ?_
   refine h_neS rfl rfl rfl rfl (fun c45 => ?_) fun c45 => ?_
   ·
    replace hf24 := ip hf24 c45
    refine h_z ?_
    refine ewp_true rfl (ewp_seq (ewp_region (o_as rfl rfl (o_z ?_))))
    refine ewp_ret ?_
    obtain rfl := sm hf24
    obtain rfl := hret25 _ rfl
    obtain rfl := sm (fin_ret hm)
    exact ret1v rfl (res_tmp rfl) ⟨hB.ext, vBool⟩
   ·
    replace hf24 := im hf24 c45
    refine h_z ?_
    refine ewp_false rfl (ewp_skip ?_)
    obtain rfl := sm hf24
    refine (?_ : Exists _)
    exact ⟨_, (), rfl, ⟨rfl, rfl, rfl, rfl, trivial⟩, _, hB, hx0, hx1⟩
  rintro l46 w47 ⟨s50, x51, rfl, hs49, O48, hB⟩
  replace hm := fin_done hm
  refine ewp_sub _ hs49 ?_
  refine ewp_seq (ewp_region (o_as rfl rfl (o_z ?_)))
  refine ewp_ret ?_
  obtain rfl := sm hm
  exact ret1v rfl (res_tmp rfl) ⟨hB.ext, vBool⟩
end
section
open Go Go.RowKit
class TMap (P : Program) (t : TypeId) (k e : outParam TypeId) : Prop where eq : P.underlying t = some (.map k e)
/-- Plain data as keys. -/
class MKey (K : Type) where
  dec : DecidableEq K
  enc : K → Value
  desc : TypeDesc
  key : ∀ a, MapKept.IsKey desc (enc a)
  inj : ∀ a b, enc a = enc b → a = b
class TKey (P : Program) (t : TypeId) (K : Type) [MKey K] : Prop where eq : P.underlying t = some (MKey.desc K)
instance : MKey Int where
  dec := inferInstance
  enc a := .int .i64 a
  desc := .int .i64
  key _ := rfl
  inj _ _ h := by injection h
section
variable {K V : Type} [MKey K]
instance keyDec : DecidableEq K := MKey.dec
def mhas : List (K × V) → K → Bool
  | [], _ => false
  | p :: r, k => if p.1 = k then true else mhas r k
def mget (z : V) : List (K × V) → K → V
  | [], _ => z
  | p :: r, k => if p.1 = k then p.2 else mget z r k
def mput : List (K × V) → K → V → List (K × V)
  | [], k, v => [(k, v)]
  | p :: r, k, v => if p.1 = k then (k, v) :: r else p :: mput r k v
def midx : List (K × V) → K → Option Nat
  | [], _ => none
  | p :: r, k => if p.1 = k then some 0 else (midx r k).map (· + 1)
theorem find_spec (a : K) : ∀ (es : List MapEntry) (x : List (K × V)) (i : Nat), es.map (·.key) = x.map (fun p => MKey.enc p.1) →
    (midx x a = none ∧ Instr.findNow (MKey.desc K) (MKey.enc a) es i = some none ∧ mhas x a = false ∧ (∀ z, mget z x a = z) ∧ ∀ v, mput x a v = x ++ [(a, v)]) ∨
    ∃ j e p, midx x a = some j ∧ es[j]? = some e ∧ x[j]? = some p ∧ Instr.findNow (MKey.desc K) (MKey.enc a) es i = some (some (i + j, e.val)) ∧ e.key = MKey.enc a ∧ mhas x a = true ∧ (∀ z, mget z x a = p.2) ∧ ∀ v, mput x a v = x.set j (a, v)
  | [], [], _, _ => .inl ⟨rfl, rfl, rfl, fun _ => rfl, fun _ => rfl⟩
  | [], _ :: _, _, h => by simp at h
  | _ :: _, [], _, h => by simp at h
  | e :: es, p :: x, i, h => by
    rw [List.map_cons, List.map_cons] at h
    injection h with h1 h2
    obtain ⟨r, hr, hiff⟩ := MapKept.sameNow_of_keys (MKey.key a) (MKey.key p.1)
    by_cases hp : p.1 = a
    · have : r = true := hiff.2 (by rw [hp])
      subst this
      refine .inr ⟨0, e, p, by simp [midx, hp], rfl, rfl, ?_, by rw [h1, hp], by simp [mhas, hp], fun z => by simp [mget, hp], fun v => by simp [mput, hp]⟩
      simp [Instr.findNow, h1, hr]
    · have : r = false := by
        cases r with
        | false => rfl
        | true => exact absurd (MKey.inj _ _ (hiff.1 rfl)).symm hp
      subst this
      rcases find_spec a es x (i + 1) h2 with ⟨g0, g1, g2, g3, g4⟩ | ⟨j, e', p', g0, g1, g2, g3, g4, g5, g6, g7⟩
      · exact .inl ⟨by simp [midx, hp, g0], by simp [Instr.findNow, h1, hr, g1], by simp [mhas, hp, g2], fun z => by simp [mget, hp, g3], fun v => by simp [mput, hp, g4]⟩
      · refine .inr ⟨j + 1, e', p', by simp [midx, hp, g0], by simpa using g1, by simpa using g2, ?_, g4, by simp [mhas, hp, g5], fun z => by simp [mget, hp, g6], fun v => by simp [mput, hp, g7]⟩
        simp [Instr.findNow, h1, hr, g3]; omega
end
/-- What a look-up yields. -/
def LkV (d : TypeDesc) (z : Value) (w : World) (r : Nat) (key v : Value) (b : Bool) : Prop := ∃ es ck a, w.heap[r]? = some (.map es ck) ∧ Instr.findNow d key es.toList 0 = some a ∧ v = (match a with | some p => p.2 | none => z) ∧ b = a.isSome
theorem LkV.keep {d : TypeDesc} {z : Value} {w w' : World} {r : Nat} {key v : Value} {b : Bool} (h : LkV d z w r key v b) (e : w'.heap[r]? = w.heap[r]?) : LkV d z w' r key v b := by
  obtain ⟨es, ck, a, h1, h2⟩ := h
  exact ⟨es, ck, a, e.trans h1, h2⟩
section
variable {P : Program} {l : Env} {w : World} {dst : Option Tmp} {ty : TypeId} {pos : String} {aft : Array Edge}
theorem ev_lk {K : Type} [MKey K] {t k e : TypeId} [ht : TMap P t k e] [hk : TKey P k K] {z : Value} {size bytes : Nat} [TInfo P e z size bytes] {x y : Operand} {r : Nat} {a : K} {v : Value} {b : Bool} (hx : opv l x = some (.map (some r))) (hy : opv l y = some (MKey.enc a)) (hv : LkV (MKey.desc K) z w r (MKey.enc a) v b) :
    Ev P ⟨dst, .lookup t x y false, ty, pos, aft, none⟩ l w v := fun _ _ d ha => by
  obtain ⟨es, ck, q, h1, h2, h3, h4⟩ := hv
  have hb : (dr w d).heap[r]? = some (.map es ck) := h1
  subst h3
  cases q with
  | none => simp [execOp, ha.eval hx, ha.eval hy, Instr.lookup, run_underlying ht.eq, MapKept.run_getObj_map hb, MapKept.run_checkKey hk.eq (MKey.key a), MapKept.run_findKey hk.eq h2, Result.andThen, run_zero (P := P) (t := e)]
  | some p => simp [execOp, ha.eval hx, ha.eval hy, Instr.lookup, run_underlying ht.eq, MapKept.run_getObj_map hb, MapKept.run_checkKey hk.eq (MKey.key a), MapKept.run_findKey hk.eq h2, Result.andThen]
end
/-- Entries behind an update. -/
def putEs (es : List MapEntry) (ck : Nat) (key v : Value) : Option Nat → List MapEntry
  | none => es ++ [{ key := key, val := v, born := ck }]
  | some j => es.modify j fun e => { e with key := key, val := v }
section
variable {P : Program} {n : Nat} {ops : Array Oper} {Q : Post} {rest : List Oper} {l : Env} {w : World} {d : Tmp} {ty : TypeId} {pos : String} {aft : Array Edge}
theorem owp_mput {K V : Type} [MKey K] {t k e : TypeId} [ht : TMap P t k e] [hk : TKey P k K] {x y u : Operand} {r ck : Nat} {a : K} {v : Value} {es : List MapEntry} {xs : List (K × V)} (hb : w.heap[r]? = some (.map es.toArray ck)) (hks : es.map (·.key) = xs.map (fun p => MKey.enc p.1)) (hx : opv l x = some (.map (some r))) (hy : opv l y = some (MKey.enc a)) (hu : opv l u = some v)
    (h : ∀ w' ck', w'.os = w.os → w'.tape = w.tape → w'.output = w.output → w'.heap.size = w.heap.size → w'.heap[r]? = some (.map (putEs es ck (MKey.enc a) v (midx xs a)).toArray ck') → (∀ q, q ≠ r → w'.heap[q]? = w.heap[q]?) → owp P n ops Q rest l w') : owp P n ops Q (⟨none, .mapUpdate t x y u, ty, pos, aft, none⟩ :: rest) l w := fun ac d ha => by
  refine wpList_plain rfl fun K' hK => ?_
  have hbd : (dr w d).heap[r]? = some (.map es.toArray ck) := hb
  unfold Oper.wp
  rcases find_spec a es xs 0 hks with ⟨g0, g1, _⟩ | ⟨j, e', p, g0, g1, g2, g3, g4, _⟩
  · have hr : (execOp ac.eval ⟨none, .mapUpdate t x y u, ty, pos, aft, none⟩).run P (dr w d) = .ok .skip { (dr w d) with heap := (dr w d).heap.setIfInBounds r (.map (es.toArray.push { key := MKey.enc a, val := v, born := ck }) (ck + 1)) } := by
      simp [execOp, ha.eval hx, ha.eval hy, ha.eval hu, Instr.mapUpdate, run_underlying ht.eq, MapKept.run_getObj_map hbd, MapKept.run_checkKey hk.eq (MKey.key a), MapKept.run_findKey hk.eq g1, MapKept.run_setObj_map _ hbd, Result.andThen]
    rw [hr]
    refine hK _ _ (h { w with heap := w.heap.setIfInBounds r (.map (es.toArray.push { key := MKey.enc a, val := v, born := ck }) (ck + 1)) } (ck + 1) rfl rfl rfl (by simp) ?_ (fun q hq => (MapKept.heap_set hb).2 q hq) _ d ha)
    rw [g0]
    simpa [putEs] using (MapKept.heap_set hb).1
  · have hj : es.toArray[j]? = some e' := by simpa using g1
    have hj' : es[j]? = some e' := g1
    rw [Nat.zero_add] at g3
    have hr : (execOp ac.eval ⟨none, .mapUpdate t x y u, ty, pos, aft, none⟩).run P (dr w d) = .ok .skip { (dr w d) with heap := (dr w d).heap.setIfInBounds r (.map (es.toArray.modify j fun e => { e with key := MKey.enc a, val := v }) ck) } := by
      simp [execOp, ha.eval hx, ha.eval hy, ha.eval hu, Instr.mapUpdate, run_underlying ht.eq, MapKept.run_getObj_map hbd, MapKept.run_checkKey hk.eq (MKey.key a), MapKept.run_findKey hk.eq g3, hj', g4, MapKept.run_keyThatStays (MKey.key a), MapKept.run_setObj_map _ hbd, Result.andThen]
    rw [hr]
    refine hK _ _ (h { w with heap := w.heap.setIfInBounds r (.map (es.toArray.modify j fun e => { e with key := MKey.enc a, val := v }) ck) } ck rfl rfl rfl (by simp) ?_ (fun q hq => (MapKept.heap_set hb).2 q hq) _ d ha)
    rw [g0]
    have := (MapKept.heap_set (o' := .map (es.toArray.modify j fun e => { e with key := MKey.enc a, val := v }) ck) hb).1
    simpa [putEs] using this
theorem owp_mkmap {t : TypeId} (hd : Nat.blt d n = true) (h : ∀ w', Ext w w' → w'.heap.size = w.heap.size + 1 → w'.heap[w.heap.size]? = some (.map #[] 0) → owp P n ops Q rest ((d, .map (some w.heap.size)) :: l) w') : owp P n ops Q (⟨some d, .makeMap t none, ty, pos, aft, none⟩ :: rest) l w :=
  owp_eff (w' := w.alloc (.map #[] 0)) (fun a e ha => .inl ⟨.map (some w.heap.size), e, by simp [execOp, Instr.makeMap]; exact ⟨rfl, rfl⟩, ha.put hd _⟩)
    (h _ ((Below.refl _ _).alloc (Nat.le_refl _) _) (by simp) (by show (w.heap.push _)[_]? = _; simp))
end
theorem putEs_keys {K V : Type} [MKey K] {es : List MapEntry} {xs : List (K × V)} (ck : Nat) (a : K) (v : Value) (y : V) (h : es.map (·.key) = xs.map (fun p => MKey.enc p.1)) : (putEs es ck (MKey.enc a) v (midx xs a)).map (·.key) = (mput xs a y).map (fun p => MKey.enc p.1) := by
  rcases find_spec a es xs 0 h with ⟨g0, _, _, _, g4⟩ | ⟨j, e', p, g0, g1, g2, g3, g4, _, _, g7⟩
  · rw [g0, g4]; simp [putEs, h]
  · rw [g0, g7]
    simp only [putEs, List.map_set, ← h]
    apply List.ext_getElem?
    intro q
    rw [List.getElem?_map, List.getElem?_modify, List.getElem?_set]
    by_cases hq : j = q
    · subst hq
      have hlt : j < es.length := lt_of_get g1
      simp [g1, hlt]
    · simp [hq]
class OwM (α : Type) [Ow α] : Prop where
  mptr : ∀ {w : World} {F M : Nat → Prop} {v : Value} {x : α}, Ow.R w F M v x → ∃ r, v = .map (some r)
theorem Ob.mptr {α : Type} [Ow α] [OwM α] {i : Nat} {w : World} {O : Lab} {v : Value} {x : α} (h : Ob i w O v x) : ∃ r, v = .map (some r) := OwM.mptr h.1
/-- Maps to rows that they own; e is the type of the rows' elements. -/
structure MapR (e : TypeId) (K V : Type) where
  l : List (K × List V)
def RA {K V : Type} [Rp V] (w : World) (F M : Nat → Prop) (L : Lab) (e : TypeId) (es : List MapEntry) (xs : List (K × List V)) (skip : Option Nat) : Prop := ∀ (j : Nat) (en : MapEntry) (p : K × List V), es[j]? = some en → xs[j]? = some p → skip ≠ some j → RwM w F (fun k => M k ∧ L k = j + 1) e en.val p.2
instance {e : TypeId} {K V : Type} [MKey K] [Rp V] : Ow (MapR e K V) where
  R w F M v x := ∃ (r : Nat) (L : Lab) (es : List MapEntry) (ck : Nat), v = .map (some r) ∧ w.heap[r]? = some (.map es.toArray ck) ∧ M r ∧ L r = 0 ∧ es.map (·.key) = x.l.map (fun p => MKey.enc p.1) ∧ RA w F M L e es x.l none
  agree := by rintro w w' F M v x ⟨r, L, es, ck, rfl, hb, hM, hL, hk, hv⟩ a1 a2; exact ⟨r, L, es, ck, rfl, (a2 r hM).trans hb, hM, hL, hk, fun j en p h1 h2 h3 => (hv j en p h1 h2 h3).agree a1 fun k hk => a2 k hk.1⟩
  mono := by rintro w F M F' M' v x ⟨r, L, es, ck, rfl, hb, hM, hL, hk, hv⟩ a1 a2 a3; exact ⟨r, L, es, ck, rfl, hb, a2 r hM, hL, hk, fun j en p h1 h2 h3 => (hv j en p h1 h2 h3).mono a1 (fun k hk => ⟨a2 k hk.1, hk.2⟩) fun k hf hm => a3 k hf hm.1⟩
instance {e : TypeId} {K V : Type} [MKey K] [Rp V] : OwM (MapR e K V) := ⟨by rintro w F M v x ⟨r, L, es, ck, rfl, _⟩; exact ⟨r, rfl⟩⟩
/-- A map of which one row is taken out. -/
def MapH {K V : Type} [MKey K] [Rp V] (i : Nat) (w : World) (O : Lab) (r : Nat) (e : TypeId) (x : MapR e K V) (a : K) : Prop :=
  (∃ (L : Lab) (es : List MapEntry) (ck : Nat), w.heap[r]? = some (.map es.toArray ck) ∧ Fr i w O r ∧ es.map (·.key) = x.l.map (fun p => MKey.enc p.1) ∧ RA w (Fr 0 w O) (Fr i w O) L e es x.l (midx x.l a)) ∧ i ≠ 0
section
variable {e : TypeId} {K V : Type} [MKey K] [Rp V] {i j : Nat} {T : Nat → Prop} {w w' : World} {O O' : Lab} {r : Nat} {x : MapR e K V} {a : K}
theorem MapH.st (h : MapH i w O r e x a) (hS : St T w O w' O') (h0 : ¬ T 0 := by decide) (hi : ¬ T i := by decide) : MapH i w' O' r e x a := by
  obtain ⟨⟨L, es, ck, hb, hM, hk, hr⟩, h1⟩ := h
  refine ⟨⟨L, es, ck, (hS.agree hi r hM).trans hb, hS.fr hi r hM, hk, fun q en p g1 g2 g3 => ?_⟩, h1⟩
  exact ((hr q en p g1 g2 g3).agree (hS.agree h0) fun k hk => hS.agree hi k hk.1).mono (hS.fr h0) (fun k hk => ⟨hS.fr hi k hk.1, hk.2⟩) fun k hf hm => frNe0 h1 k hf hm.1
theorem MapR.at (h : Ob i w O (.map (some r)) x) : Fr i w O r := by
  obtain ⟨⟨r', L, es, ck, hv, hb, hM, _⟩, _⟩ := h
  injection hv with hv
  injection hv with hv
  subst hv
  exact hM
theorem MapR.get (h : Ob i w O (.map (some r)) x) (a : K) : ∃ A c, LkV (MKey.desc K) (.slice none 0 0) w r (MKey.enc a) (.slice A (mget ([] : List V) x.l a).length c) (mhas x.l a) ∧ Vb w (FrS [i] w O) (.slice A (mget ([] : List V) x.l a).length c) (mget ([] : List V) x.l a) := by
  obtain ⟨⟨r', L, es, ck, hv, hb, hM, hL, hk, hra⟩, hi⟩ := h
  injection hv with hv
  injection hv with hv
  subst hv
  rcases find_spec a es x.l 0 hk with ⟨g0, g1, g2, g3, g4⟩ | ⟨q, e', p, g0, g1, g2, g3, g4, g5, g6, g7⟩
  · rw [g3, g2]
    exact ⟨none, 0, ⟨_, ck, none, hb, by simpa using g1, rfl, rfl⟩, Vb.nil _ _⟩
  · rw [g6, g5]
    have h1 := hra q e' p g1 g2 (by simp)
    have h2 : Rw i w O e e'.val p.2 := h1.rw (fun _ h => h) (fun _ h => h.1) hi
    obtain ⟨A, c, hA⟩ := h2.form
    refine ⟨A, c, ⟨_, ck, some (0 + q, e'.val), hb, by simpa using g3, hA.symm, rfl⟩, ?_⟩
    rw [← hA]
    exact h2.lend [i] (by simp)
theorem MapR.take (h : Ob i w O (.map (some r)) x) {v : Value} {b : Bool} (hl : LkV (MKey.desc K) (.slice none 0 0) w r (MKey.enc a) v b) (j : Nat) (hj : j ≠ 0) (hij : j ≠ i) : ∃ O', St (eT i) w O w O' ∧ MapH i w O' r e x a ∧ Rw j w O' e v (mget ([] : List V) x.l a) := by
  obtain ⟨⟨r', L, es, ck, hv, hb, hM, hL, hk, hra⟩, hi⟩ := h
  injection hv with hv
  injection hv with hv
  subst hv
  obtain ⟨es', ck', q, h1, h2, h3, h4⟩ := hl
  rw [hb] at h1
  injection h1 with h1
  injection h1 with h1 h1'
  subst h1
  rw [List.toList_toArray] at h2
  rcases find_spec a es x.l 0 hk with ⟨g0, g1, g2, g3, g4⟩ | ⟨n, e', p, g0, g1, g2, g3, g4, g5, g6, g7⟩
  · rw [g1] at h2
    have := sm h2
    subst this
    rw [g3, h3]
    exact ⟨O, St.refl _ _ _, ⟨⟨L, es, ck, hb, hM, hk, fun q en p a1 a2 _ => hra q en p a1 a2 (by simp)⟩, hi⟩, Rw.nil j hj⟩
  · rw [g3] at h2
    have := sm h2
    subst this
    rw [g6, h3]
    have hrow := hra n e' p g1 g2 (by simp)
    refine ⟨fun k => if O k = i ∧ L k = n + 1 then j else O k, ⟨rfl, rfl, rfl, Nat.le_refl _, fun k _ hk => ⟨rfl, if_neg fun h => hk h.1⟩⟩, ⟨⟨L, es, ck, hb, ⟨hM.1, ?_⟩, hk, fun q en p' a1 a2 a3 => ?_⟩, hi⟩, hrow.rw (fun k hk => ⟨hk.1, ?_⟩) (fun k hk => ⟨hk.1.1, if_pos ⟨hk.1.2, hk.2⟩⟩) hj⟩
    · show (if _ then _ else _) = _
      rw [if_neg (by rw [hL]; omega)]; exact hM.2
    · rw [g0] at a3
      have hne : n ≠ q := fun e => a3 (by rw [e])
      refine (hra q en p' a1 a2 (by simp)).mono (fun k hk => ⟨hk.1, ?_⟩) (fun k hk => ⟨⟨hk.1.1, ?_⟩, hk.2⟩) (fun k hf hm => frNe0 hi k hf hm.1)
      · show (if _ then _ else _) = _
        rw [if_neg (by rw [hk.2]; exact fun h => hi h.1.symm)]; exact hk.2
      · show (if _ then _ else _) = _
        rw [if_neg (by rw [hk.2]; omega)]; exact hk.1.2
    · show (if _ then _ else _) = _
      rw [if_neg (by rw [hk.2]; exact fun h => hi h.1.symm)]; exact hk.2
end
section
variable {P : Program} {n : Nat} {ops : Array Oper} {Q : Post} {rest : List Oper} {l : Env} {w : World} {d : Tmp} {ty : TypeId} {pos : String} {aft : Array Edge} {K V : Type} [MKey K] [Rp V] {i j : Nat} {O : Lab} {r : Nat}
theorem l_mputR {e' : TypeId} {x : MapR e' K V} {t k e : TypeId} [TMap P t k e] [TKey P k K] {m y u : Operand} {a : K} {v : Value} {ys : List V} (hM : MapH i w O r e' x a) (hv : Rw j w O e' v ys) (hij : j ≠ i) (hx : opv l m = some (.map (some r))) (hy : opv l y = some (MKey.enc a)) (hu : opv l u = some v)
    (h : ∀ w' O', St (fun q => q = i ∨ q = j) w O w' O' → Ob i w' O' (.map (some r)) (⟨mput x.l a ys⟩ : MapR e' K V) → owp P n ops Q rest l w') : owp P n ops Q (⟨none, .mapUpdate t m y u, ty, pos, aft, none⟩ :: rest) l w := by
  obtain ⟨⟨L, es, ck, hb, hM', hk, hra⟩, hi⟩ := hM
  refine owp_mput hb hk hx hy hu fun w' ck' e1 e2 e3 e4 e5 e6 => ?_
  have hlen : es.length = x.l.length := by have := congrArg List.length hk; simpa using this
  have hj0 : j ≠ 0 := hv.2.2
  have hrj : O r ≠ j := by rw [hM'.2]; exact Ne.symm hij
  let n0 : Nat := match midx x.l a with | some q => q | none => es.length
  have hS : St (fun q => q = i ∨ q = j) w O w' (fun k => if O k = j then i else O k) := ⟨e1, e2, e3, by omega, fun q hq hT => ⟨e6 q fun e => hT (by rw [e]; exact .inl hM'.2), if_neg fun e => hT (.inr e)⟩⟩
  have hF : ∀ k, Fr 0 w O k → Fr 0 w' (fun k => if O k = j then i else O k) k := fun k hk => ⟨by rw [e4]; exact hk.1, by show (if _ then _ else _) = _; rw [if_neg (by rw [hk.2]; exact Ne.symm hj0)]; exact hk.2⟩
  have hA0 : Agree (Fr 0 w O) w w' := fun k hk => e6 k fun e => by rw [e] at hk; exact hi (hM'.2.symm.trans hk.2)
  have hdis : ∀ m : Nat, ∀ k, Fr 0 w' (fun k => if O k = j then i else O k) k → ¬ (Fr i w' (fun k => if O k = j then i else O k) k ∧ (if O k = j then n0 + 1 else if k = r then 0 else L k) = m) := fun m k hf hm => frNe0 hi k hf hm.1
  have hnew : RwM w' (Fr 0 w' (fun k => if O k = j then i else O k)) (fun k => Fr i w' (fun k => if O k = j then i else O k) k ∧ (if O k = j then n0 + 1 else if k = r then 0 else L k) = n0 + 1) e' v ys := by
    have h1 : RwM w (Fr 0 w O) (Fr j w O) e' v ys := hv.m (fun _ h => h) (fun _ h => h) (frNe0 hj0)
    have h2 := h1.agree hA0 (fun k hk => e6 k fun e => by rw [e] at hk; exact hrj hk.2)
    exact h2.mono hF (fun k hk => ⟨⟨by rw [e4]; exact hk.1, if_pos hk.2⟩, if_pos hk.2⟩) (hdis _)
  have hkeep : ∀ q en (p : K × List V), es[q]? = some en → x.l[q]? = some p → midx x.l a ≠ some q → RwM w' (Fr 0 w' (fun k => if O k = j then i else O k)) (fun k => Fr i w' (fun k => if O k = j then i else O k) k ∧ (if O k = j then n0 + 1 else if k = r then 0 else L k) = q + 1) e' en.val p.2 := fun q en p g1 g2 g3 => by
    have h1 := hra q en p g1 g2 g3
    have hnr : ∀ g, en.val.ownBlock = some g → g ≠ r := fun g hg e => by
      subst e
      have h2 := h1.1
      obtain ⟨cells, o1, o2, o3⟩ := h2
      rcases o1.2 with ⟨hv0, _⟩ | ⟨g', cap, cur, hv0, _, hh, _⟩
      · rw [hv0] at hg; simp [Value.ownBlock] at hg
      · rw [hv0] at hg
        have : g' = g := by simpa [Value.ownBlock] using hg
        subst this
        rw [hb] at hh; cases hh
    have h2 : RwM w (Fr 0 w O) (fun k => (Fr i w O k ∧ L k = q + 1) ∧ k ≠ r) e' en.val p.2 := ⟨h1.1, fun g hg => ⟨h1.2 g hg, hnr g hg⟩⟩
    have h3 := h2.agree hA0 (fun k hk => e6 k hk.2)
    refine h3.mono hF (fun k hk => ?_) (hdis _)
    have hkj : O k ≠ j := by rw [hk.1.1.2]; exact Ne.symm hij
    exact ⟨⟨by rw [e4]; exact hk.1.1.1, by show (if _ then _ else _) = _; rw [if_neg hkj]; exact hk.1.1.2⟩, by rw [if_neg hkj, if_neg hk.2]; exact hk.1.2⟩
  refine h w' _ hS ⟨⟨r, fun k => if O k = j then n0 + 1 else if k = r then 0 else L k, _, ck', rfl, e5, ⟨by rw [e4]; exact hM'.1, by show (if _ then _ else _) = _; rw [if_neg hrj]; exact hM'.2⟩, by show (if _ then _ else _) = _; rw [if_neg hrj, if_pos rfl], putEs_keys ck a v ys hk, ?_⟩, hi⟩
  intro q en p h1 h2 _
  rcases find_spec a es x.l 0 hk with ⟨g0, _, _, _, g4⟩ | ⟨m, e'', p', g0, g1, g2, g3, g4, _, _, g7⟩
  · have hn0 : n0 = es.length := by show (match midx x.l a with | some q => q | none => es.length) = _; rw [g0]
    rw [g0] at h1
    rw [g4] at h2
    simp only [putEs] at h1
    by_cases hq : q < es.length
    · rw [List.getElem?_append_left hq] at h1
      rw [List.getElem?_append_left (by omega)] at h2
      exact hkeep q en p h1 h2 (by rw [g0]; simp)
    · rw [List.getElem?_append_right (by omega)] at h1
      rw [List.getElem?_append_right (by omega)] at h2
      cases hz : q - es.length with
      | zero =>
        rw [hz] at h1
        rw [show q - x.l.length = 0 from by omega] at h2
        simp at h1 h2
        subst h1; subst h2
        have hqe : q = n0 := by rw [hn0]; omega
        rw [hqe]
        exact hnew
      | succ m => rw [hz] at h1; simp at h1
  · have hn0 : n0 = m := by show (match midx x.l a with | some q => q | none => es.length) = _; rw [g0]
    rw [g0] at h1
    rw [g7] at h2
    simp only [putEs] at h1
    rw [List.getElem?_modify] at h1
    rw [List.getElem?_set] at h2
    by_cases hq : m = q
    · subst hq
      have hlt := lt_of_get g2
      rw [g1] at h1
      simp [hlt] at h1 h2
      subst h1; subst h2
      rw [← hn0]
      exact hnew
    · simp [hq] at h1 h2
      exact hkeep q en p h1 h2 (by rw [g0]; simpa using hq)
theorem l_mkmapR {t : TypeId} (e : TypeId) (i : Nat) (hi : i ≠ 0) (O : Lab) (hd : Nat.blt d n = true) (h : ∀ g w' O', St nT w O w' O' → Ob i w' O' (.map (some g)) (⟨[]⟩ : MapR e K V) → owp P n ops Q rest ((d, .map (some g)) :: l) w') : owp P n ops Q (⟨some d, .makeMap t none, ty, pos, aft, none⟩ :: rest) l w :=
  owp_mkmap hd fun w' hE hs hb => h _ w' _ (hE.st O fun _ => i) ⟨⟨w.heap.size, fun _ => 0, [], 0, rfl, hb, ⟨by omega, upO_new (Nat.le_refl _)⟩, rfl, rfl, fun j e p h1 _ => by simp at h1⟩, hi⟩
end
section
variable {P : Program} {n : Nat} {ops : Array Oper} {Q : Post} {rest : List Oper} {l : Env} {w : World} {d : Tmp} {ty : TypeId} {pos : String} {aft : Array Edge} {S : World → Prop} {rr : List (Nat × Bool)} {i' : Nat}
theorem o_lk {K : Type} [MKey K] {t k e : TypeId} [TMap P t k e] [TKey P k K] {z : Value} {size bytes : Nat} [TInfo P e z size bytes] {x y : Operand} {r : Nat} {v : Value} {b : Bool} (a : K) (hv : LkV (MKey.desc K) z w r (MKey.enc a) v b) (hx : opv l x = some (.map (some r))) (hy : opv l y = some (MKey.enc a)) (hd : Nat.blt d n = true) (h : owp P n ops Q rest ((d, v) :: l) w) : owp P n ops Q (⟨some d, .lookup t x y false, ty, pos, aft, none⟩ :: rest) l w := owp_ev (ev_lk hx hy hv) hd h
theorem h_lk {K : Type} [MKey K] {t k e : TypeId} [TMap P t k e] [TKey P k K] {z : Value} {size bytes : Nat} [TInfo P e z size bytes] {x y : Operand} {r : Nat} {v : Value} {b : Bool} (a : K) (hv : ∀ w', S w' → LkV (MKey.desc K) z w' r (MKey.enc a) v b) (hi : ops[i']? = some ⟨some d, .lookup t x y false, ty, pos, aft, none⟩) (hx : opv l x = some (.map (some r))) (hy : opv l y = some (MKey.enc a)) (hd : Nat.blt d n = true) (h : hwp P n ops Q S rr ((d, v) :: l) w) : hwp P n ops Q S ((i', true) :: rr) l w := hwp_o hi (hwq_ev (fun w' hS => ev_lk hx hy (hv w' hS)) hd h)
end
end
section
open Go Go.RowKit
attribute [local irreducible] ewp owp hwp hwq hws Ev Evg Fn retPost loud loudS Res1
attribute [local irreducible] hwx loudX
instance : TMap Try.prog 116 3 22 := ⟨Try.underlying116⟩
instance : TKey Try.prog 3 Int := ⟨Try.underlying3⟩
structure RLk where
  parent : Int
  op : Int
  cost : Int
structure REn where
  words : List U64
  link : RLk
instance : Rp REn where
  isAgg := true
  size := 4
  R w F cs x := ∃ v0, cs = [v0, .int .i64 x.link.parent, .int .i64 x.link.op, .int .i64 x.link.cost] ∧ Vb w F v0 x.words ∧ inI64 x.link.parent ∧ inI64 x.link.op ∧ inI64 x.link.cost
  len := by rintro w F cs x ⟨v0, rfl, h0, h1, h2, h3⟩; rfl
  one := by rintro w F cs x ⟨v0, rfl, h0, h1, h2, h3⟩ u hu; simp at hu; rcases hu with rfl | rfl | rfl | rfl <;> first | rfl | exact Vb.one rfl (by assumption)
  agree := by rintro w w' F cs x ⟨v0, rfl, h0, h1, h2, h3⟩ ha; exact ⟨v0, rfl, h0.agree ha, h1, h2, h3⟩
  mono := by rintro w F G cs x ⟨v0, rfl, h0, h1, h2, h3⟩ ha; exact ⟨v0, rfl, h0.mono ha, h1, h2, h3⟩
structure Reg where
  packer : Pkr
  entries : List REn
  table : MapR 3 Int Int
instance : Ow Reg where
  R w F M v x := ∃ (g : Nat) (L : Lab) (c0 c1 c2 : Value), v = .pointer (some ⟨g, 0, none⟩) ∧ Blk w g 118 [c0, c1, c2] ∧ M g ∧ L g = 0 ∧ Ow.R w F (fun k => M k ∧ L k = 1) c0 x.packer ∧ RwM w F (fun k => M k ∧ L k = 2) 125 c1 x.entries ∧ Ow.R w F (fun k => M k ∧ L k = 3) c2 x.table
  agree := by rintro w w' F M v x ⟨g, L, c0, c1, c2, rfl, hb, hM, hL, h0, h1, h2⟩ a1 a2; exact ⟨g, L, c0, c1, c2, rfl, hb.keep (a2 g hM), hM, hL, Ow.agree h0 a1 fun k hk => a2 k hk.1, h1.agree a1 fun k hk => a2 k hk.1, Ow.agree h2 a1 fun k hk => a2 k hk.1⟩
  mono := by rintro w F M F' M' v x ⟨g, L, c0, c1, c2, rfl, hb, hM, hL, h0, h1, h2⟩ a1 a2 a3; exact ⟨g, L, c0, c1, c2, rfl, hb, a2 g hM, hL, Ow.mono h0 a1 (fun k hk => ⟨a2 k hk.1, hk.2⟩) fun k hf hm => a3 k hf hm.1, h1.mono a1 (fun k hk => ⟨a2 k hk.1, hk.2⟩) fun k hf hm => a3 k hf hm.1, Ow.mono h2 a1 (fun k hk => ⟨a2 k hk.1, hk.2⟩) fun k hf hm => a3 k hf hm.1⟩
instance : OwP Reg := ⟨by rintro w F M v x ⟨g, L, c0, c1, c2, rfl, _⟩; exact ⟨g, rfl⟩⟩
theorem Reg.opn {i : Nat} {w : World} {O : Lab} {p : Nat} {x : Reg} (h : Ob i w O (.pointer (some ⟨p, 0, none⟩)) x) (l0 l1 l2 l3 : Nat) (hl : l0 ≠ 0 ∧ l1 ≠ 0 ∧ l2 ≠ 0 ∧ l3 ≠ 0) : ∃ (O' : Lab) (c0 c1 c2 : Value), St (eT i) w O w O' ∧ (∀ k, Fr i w O k → ∃ q, q ∈ [l0, l1, l2, l3] ∧ Fr q w O' k) ∧ Lc l0 w O' p 118 [c0, c1, c2] ∧ Ob l1 w O' c0 x.packer ∧ Rw l2 w O' 125 c1 x.entries ∧ Ob l3 w O' c2 x.table := by
  obtain ⟨⟨g, L, c0, c1, c2, hv, hb, hM, hL, h0, h1, h2⟩, hi⟩ := h
  obtain rfl : p = g := by injection hv with hv; injection hv with hv; injection hv
  exact ⟨part O i L [l0, l1, l2, l3], c0, c1, c2, part_st hi, part_all (by simp), ⟨hb, (part_fr (j := 0) rfl p ⟨hM, hL⟩).2⟩, ⟨Ow.mono h0 (part_fr0 hi) (part_fr (j := 1) rfl) (frNe0 hl.2.1), hl.2.1⟩, h1.rw (part_fr0 hi) (part_fr (j := 2) rfl) hl.2.2.1, ⟨Ow.mono h2 (part_fr0 hi) (part_fr (j := 3) rfl) (frNe0 hl.2.2.2), hl.2.2.2⟩⟩
theorem Reg.shut {w : World} {O : Lab} {p : Nat} {x : Reg} {l0 l1 l2 l3 : Nat} {c0 c1 c2 : Value} (hd : ¬ 0 ∈ [l0, l1, l2, l3] ∧ [l0, l1, l2, l3].idxOf l0 = 0 ∧ [l0, l1, l2, l3].idxOf l1 = 1 ∧ [l0, l1, l2, l3].idxOf l2 = 2 ∧ [l0, l1, l2, l3].idxOf l3 = 3) (hb : Lc l0 w O p 118 [c0, c1, c2]) (h0 : Ob l1 w O c0 x.packer) (h1 : Rw l2 w O 125 c1 x.entries) (h2 : Ob l3 w O c2 x.table) : ∃ O', St (· ∈ [l0, l1, l2, l3]) w O w O' ∧ (∀ k, Fr 0 w O k → Fr 0 w O' k) ∧ (∀ q, q ∈ [l0, l1, l2, l3] → ∀ k, Fr q w O k → Fr l0 w O' k) ∧ Ob l0 w O' (.pointer (some ⟨p, 0, none⟩)) x := by
  have hb1 : l0 ≠ 0 := fun e => hd.1 (by simp [e])
  have hg := whole_fr (i := l0) hd.2.1 (by simp) p ⟨hb.1.lt, hb.2⟩
  exact ⟨whole O l0 [l0, l1, l2, l3], whole_st, whole_fr0 hd.1, whole_all, ⟨p, fun k => [l0, l1, l2, l3].idxOf (O k), c0, c1, c2, rfl, hb.1, hg.1, hg.2, Ow.mono h0.1 (whole_fr0 hd.1) (whole_fr hd.2.2.1 (by simp)) (fun k a b => frNe0 hb1 k a b.1), h1.m (whole_fr0 hd.1) (whole_fr hd.2.2.2.1 (by simp)) (fun k a b => frNe0 hb1 k a b.1), Ow.mono h2.1 (whole_fr0 hd.1) (whole_fr hd.2.2.2.2 (by simp)) (fun k a b => frNe0 hb1 k a b.1)⟩, hb1⟩
noncomputable def m_registry_New (x0 : List Int) : Option ((Option Reg) × Err) :=
  bnd (m_pack_New x0) fun q4 => if q4.2.n ≠ 0 then (some (none, (⟨q4.2.n⟩ : Err))) else (bnd q4.1 fun o22 => some ((some (⟨o22, ([] : List REn), (⟨[]⟩ : MapR 3 Int Int)⟩ : Reg)), (⟨0⟩ : Err)))
theorem c_registry_New {w : World} {O : Lab} {vx0 : Value} {x0 : List Int} (hx0 : Vb w (Fr 0 w O) vx0 x0) (j0 : Nat) (hj0 : j0 ≠ 0) {r : (Option Reg) × Err} (hm : m_registry_New x0 = some r) :
    Fn Try.prog 60 [vx0] w fun v w' => ∃ O', St nT w O w' O' ∧ ∃ v0 v1 : Value, v = .tuple #[v0, v1] ∧ Obo j0 w' O' v0 r.1 ∧ Vb w' (Fr 0 w' O') v1 r.2 := by
 obtain ⟨O0, hE, hz0⟩ := ent0 (w := w) (O := O)
 have hB : Bm w O0 w O0 := Bm.refl
 replace hx0 := hx0.mono hz0
 obtain ⟨A2, c3, rfl⟩ := hx0.form
 refine fn_enter Try.func60 rfl Try.ntmps60 rfl ?_
 unfold m_registry_New at hm
 refine ewp_seq (ewp_region (o_as rfl rfl (o_as rfl rfl (o_z ?_))))
 refine ewp_seq (ewp_region (o_mv rfl rfl ?_))
 obtain ⟨q4, e5, hm⟩ := bs hm
 refine l_callM (O := O0) (c_pack_New hx0 2 (by decide) e5) rfl rfl fun v10 w6 O7 S8 h9 => ?_
 obtain ⟨v11, v12, rfl, h13, h14⟩ := h9
 obtain ⟨rfl, r15⟩ := h14.err
 refine o_mv rfl rfl (o_ex rfl rfl rfl (o_ex rfl rfl rfl (o_as rfl rfl (o_as rfl rfl (o_z ?_)))))
 refine ewp_seq (ewp_seq (ewp_region (o_mv rfl rfl (o_rnS rfl rfl (fun c16 => ?_) fun c16 => ?_))))
 ·
  replace hm := ip hm c16
  refine o_z ?_
  refine ewp_true rfl (ewp_seq (ewp_region (o_mv rfl rfl (o_as rfl rfl (o_as rfl rfl (o_z ?_))))))
  refine ewp_ret ?_
  obtain rfl := sm hm
  replace hB := hB.st S8
  obtain ⟨O', hS', hz, hl⟩ := hE.leave (fun _ => 0) rfl hB
  exact ret2 rfl (res_tmp rfl) (res_tmp rfl) ⟨O', hS', _, _, rfl, rfl, (vErr r15)⟩
 ·
  replace hm := im hm c16
  refine o_z ?_
  refine ewp_false rfl (ewp_skip (ewp_seq (ewp_region (o_mv rfl rfl (l_mkmapR (K := Int) (V := Int) 3 3 (by decide) O7 rfl fun p17 w18 O19 S20 h21 => ?_)))))
  obtain ⟨o22, e23, hm⟩ := bs hm
  replace h13 := h13.st S20
  rw [e23] at h13
  obtain ⟨p24, rfl⟩ := Ob.ptr h13
  refine o_bd rfl rfl rfl ?_
  refine l_box 4 O19 rfl rfl fun g25 w26 O27 S28 h29 => ?_
  replace h29 : Lc 4 w26 O27 g25 118 [(.pointer (some ⟨p24, 0, none⟩)), (.slice none 0 0), (.map (some p17))] := h29
  refine o_as rfl rfl (o_as rfl rfl (o_z ?_))
  refine ewp_ret ?_
  have h30 : Rw 5 w26 O27 125 (.slice none 0 0) ([] : List REn) := Rw.nil 5 (by decide)
  replace h13 := h13.st S28
  replace h21 := h21.st S28
  obtain ⟨O32, S33, hz35, ha36, h34⟩ := Reg.shut (x := (⟨o22, ([] : List REn), (⟨[]⟩ : MapR 3 Int Int)⟩ : Reg)) (l0 := 4) (l1 := 2) (l2 := 5) (l3 := 3) (by decide) h29 h13 h30 h21
  obtain rfl := sm hm
  replace hB := (((hB.st S8).st S20).st S28).st S33
  obtain ⟨O', hS', hz, hl⟩ := hE.leave (fun q => if q = 4 then j0 else 0) rfl hB
  exact ret2 rfl (res_tmp rfl) (res_tmp rfl) ⟨O', hS', _, _, rfl, (Ob.leave h34 hz (hl 4 (by decide) (by decide)) hj0), (vErr (show inI64 0 from by decide))⟩
noncomputable def m_registry_Registry_find (x0 : Reg) (x1 : List Int) : Option ((List U64) × Int × Int × Err) :=
  bnd (m_pack_Packer_Pack x0.packer x1) fun q20 => if q20.2.n ≠ 0 then (some (([] : List U64), 0, (-1), (⟨2⟩ : Err))) else (bnd (m_pack_Packer_Hash x0.packer q20.1) fun q41 => bnd (rng (ρ := (List U64) × Int × Int × Err) (fun (k66 : Nat) (a67 : Int) (s64 : Unit) => bnd (atI x0.entries a67) fun a100 => bnd (m_slices_Equal_Luint64_uint64 a100.words q20.1) fun q118 => if q118 = true then some (.ret (q20.1, q41, a67, (⟨0⟩ : Err))) else some (.next ())) (mget ([] : List Int) x0.table.l q41) 0 ()) fun res62 => fin res62 fun (s139 : Unit) => some (q20.1, q41, (-1), (⟨0⟩ : Err)))
theorem c_registry_Registry_find {w : World} {O : Lab} {p0 i0 : Nat} {x0 : Reg} (hx0 : Ob i0 w O (.pointer (some ⟨p0, 0, none⟩)) x0) {vx1 : Value} {x1 : List Int} (hx1 : Vb w (Fr 0 w O) vx1 x1) {r : (List U64) × Int × Int × Err} (hm : m_registry_Registry_find x0 x1 = some r) :
    Fn Try.prog 66 [(.pointer (some ⟨p0, 0, none⟩)), vx1] w fun v w' => ∃ O', St (eT i0) w O w' O' ∧ ∃ v0 v1 v2 v3 : Value, Ob i0 w' O' (.pointer (some ⟨p0, 0, none⟩)) x0 ∧ v = .tuple #[v0, v1, v2, v3] ∧ Vb w' (Fr 0 w' O') v0 r.1 ∧ Vb w' (Fr 0 w' O') v1 r.2.1 ∧ Vb w' (Fr 0 w' O') v2 r.2.2.1 ∧ Vb w' (Fr 0 w' O') v3 r.2.2.2 := by
 obtain ⟨O0, hE, hz0, hl2⟩ := ent1 (w := w) (O := O) hx0.2
 have hx0' := Ob.leave hx0 hz0 hl2 (j := 2) (by decide)
 have hB : Bm w O0 w O0 := Bm.refl
 replace hx1 := hx1.mono hz0
 obtain ⟨A3, c4, rfl⟩ := hx1.form
 refine fn_enter Try.func66 rfl Try.ntmps66 rfl ?_
 unfold m_registry_Registry_find at hm
 refine ewp_seq (ewp_region (o_as rfl rfl (o_as rfl rfl (o_as rfl rfl (o_as rfl rfl (o_z ?_))))))
 refine ewp_seq (ewp_region (o_mv rfl rfl (o_nc rfl rfl ?_)))
 obtain ⟨O5, v9, v12, v17, S6, ha8, h7, h10, h13, h18⟩ := Reg.opn hx0' 2 3 4 5 (by decide)
 obtain ⟨p11, rfl⟩ := h10.ptr
 obtain ⟨A14, c15, rfl⟩ := h13.form
 obtain ⟨p19, rfl⟩ := h18.mptr
 refine o_fa rfl rfl (o_ld (hc := Blk.cell (i := 0) (h7.1) rfl) rfl rfl ?_)
 refine o_mv rfl rfl ?_
 obtain ⟨q20, e21, hm⟩ := bs hm
 replace hx1 := hx1.st S6
 refine l_callM (O := O5) (c_pack_Packer_Pack h10 hx1 e21) rfl rfl fun v26 w22 O23 S24 h25 => ?_
 obtain ⟨v28, v29, h27, rfl, h30, h31⟩ := h25
 obtain ⟨A32, c33, rfl⟩ := h30.form
 obtain ⟨rfl, r34⟩ := h31.err
 refine o_mv rfl rfl (o_ex rfl rfl rfl (o_ex rfl rfl rfl (o_as rfl rfl (o_as rfl rfl (o_z ?_)))))
 refine ewp_seq (ewp_seq (ewp_region (o_mv rfl rfl (o_rnS rfl rfl (fun c35 => ?_) fun c35 => ?_))))
 ·
  replace hm := ip hm c35
  refine o_z ?_
  refine ewp_true rfl (ewp_seq (ewp_region (o_miE rfl rfl ?_)))
  refine o_as rfl rfl (o_as rfl rfl (o_as rfl rfl (o_as rfl rfl (o_z ?_))))
  refine ewp_ret ?_
  replace h7 := h7.st S24
  replace h13 := h13.st S24
  replace h18 := h18.st S24
  obtain ⟨O36, S37, hz39, ha40, h38⟩ := Reg.shut (x := x0) (l0 := 2) (l1 := 3) (l2 := 4) (l3 := 5) (by decide) h7 h27 h13 h18
  obtain rfl := sm hm
  replace hB := ((hB.st S6).st S24).st S37
  obtain ⟨O', hS', hz, hl⟩ := hE.leave (fun q => if q = 2 then i0 else 0) rfl hB
  exact ret4 rfl (res_tmp rfl) (res_tmp rfl) (res_tmp rfl) (res_tmp rfl) ⟨O', hS', _, _, _, _, (Ob.leave h38 hz (hl 2 (by decide) (by decide)) hx0.2), rfl, (Vb.mono (Vb.nil _ _) hz), (vInt (show inI64 (0) from by decide)), (vInt (show inI64 (-1) from by decide)), (vErr (by decide))⟩
 ·
  replace hm := im hm c35
  refine o_z ?_
  refine ewp_false rfl (ewp_skip (ewp_seq (ewp_region (o_mv rfl rfl (o_nc rfl rfl (o_fa rfl rfl ?_))))))
  replace h7 := h7.st S24
  refine o_ld (hc := Blk.cell (i := 0) (h7.1) rfl) rfl rfl ?_
  refine o_mv rfl rfl ?_
  obtain ⟨q41, e42, hm⟩ := bs hm
  refine l_callM (O := O23) (c_pack_Packer_Hash h27 h30 e42) rfl rfl fun v47 w43 O44 S45 h46 => ?_
  obtain ⟨h48, h49⟩ := h46
  obtain ⟨rfl, r50⟩ := h49.int
  refine o_as rfl rfl (o_z ?_)
  refine ewp_seq (ewp_seq (ewp_region (o_mv rfl rfl (o_nc rfl rfl (o_fa rfl rfl ?_)))))
  replace h7 := h7.st S45
  refine o_ld (hc := Blk.cell (i := 2) (h7.1) rfl) rfl rfl ?_
  refine o_mv rfl rfl ?_
  replace h18 := (h18.st S24).st S45
  obtain ⟨A53, c54, hl51, h52⟩ := MapR.get h18 q41
  refine o_lk q41 hl51 rfl rfl rfl ?_
  refine o_ln rfl rfl ?_
  have l56 : (mget ([] : List Int) x0.table.l q41).length ≤ 9223372036854775807 := Nat.le_trans h52.len.2.1 h52.len.2.2
  have r55 : inI64 ((mget ([] : List Int) x0.table.l q41).length : Int) := rngNat l56
  refine o_mv rfl rfl (o_z ?_)
  replace h13 := (h13.st S24).st S45
  obtain ⟨O57, S58, hz60, ha61, h59⟩ := Reg.shut (x := x0) (l0 := 2) (l1 := 3) (l2 := 4) (l3 := 5) (by decide) h7 h48 h13 h18
  replace h52 := h52.shutS S58 hz60 ha61 [2] (by decide)
  obtain ⟨res62, hL63, hm⟩ := bs hm
  refine ewp_join (aft res62 (fun (s64 : Unit) (x65 : Unit) => [(8, (.slice A32 q20.1.length c33)), (10, (.int .i64 q41))]) (fun s64 x65 w' => ∃ O' : Lab, Bm w O0 w' O' ∧ Vb w' (Fr 0 w' O') (.slice A32 q20.1.length c33) q20.1 ∧ Ob 2 w' O' (.pointer (some ⟨p0, 0, none⟩)) x0)) ?_ ?_
  ·
   refine ewp_block ?_
   replace hB := (((hB.st S6).st S24).st S45).st S58
   replace h30 := (h30.st S45).st S58
   refine ewp_rng (σ := Unit) (X := Unit) ((mget ([] : List Int) x0.table.l q41).length) hL63 rfl l56 (fun (s64 : Unit) (x65 : Unit) => [(0, (.pointer (some ⟨p0, 0, none⟩))), (8, (.slice A32 q20.1.length c33)), (10, (.int .i64 q41)), (36, (.slice A53 (mget ([] : List Int) x0.table.l q41).length c54))]) _ (fun s64 x65 w' => ∃ O' : Lab, Bm w O0 w' O' ∧ Ob 2 w' O' (.pointer (some ⟨p0, 0, none⟩)) x0 ∧ Vb w' (Fr 0 w' O') (.slice A32 q20.1.length c33) q20.1 ∧ Vb w' (FrS [2] w' O') (.slice A53 (mget ([] : List Int) x0.table.l q41).length c54) (mget ([] : List Int) x0.table.l q41)) _ () ⟨O57, hB, h59, h30, h52⟩ ⟨rfl, rfl, rfl, rfl, rfl, rfl, trivial⟩ (fun _ _ => ⟨rfl, rfl⟩) (fun _ _ => ⟨rfl, rfl, trivial⟩) (fun _ _ _ ⟨O', hB, h59, h30, h52⟩ => ⟨O', hB, h30, h59⟩) ⟨rfl, rfl, rfl⟩ ⟨rfl, rfl⟩ ?_
   rintro k66 a67 s64 x65 w68 cc70 hx71 ⟨O69, hB, h59, h30, h52⟩ hf72 hret73 hbrk74
   have rk66 : inI64 (k66 : Int) := rngK hx71 l56
   refine ewp_seq (ewp_region ?_)
   obtain ⟨b77, o78, ce79, hA80, hl81, hd82, rfl, r84⟩ := h52.elem' hx71
   refine o_iaE (hA := hA80) (hj := rfl) (hlt := hl81) rfl rfl rfl ?_
   refine o_ld (hc := cat0 hd82) rfl rfl ?_
   refine o_as rfl rfl (o_z ?_)
   refine ewp_seq (ewp_region (o_mv rfl rfl (o_nc rfl rfl ?_)))
   obtain ⟨O85, v89, v92, v97, S86, ha88, h87, h90, h93, h98⟩ := Reg.opn h59 2 3 4 5 (by decide)
   obtain ⟨p91, rfl⟩ := h90.ptr
   obtain ⟨A94, c95, rfl⟩ := h93.form
   obtain ⟨p99, rfl⟩ := h98.mptr
   replace h52 := h52.opnS S86 (by decide) ha88 [2, 3, 4, 5] (by decide)
   refine o_fa rfl rfl (o_ld (hc := Blk.cell (i := 1) (h87.1) rfl) rfl rfl ?_)
   refine o_mv rfl rfl ?_
   obtain ⟨a100, e101, hf72⟩ := bs hf72
   obtain ⟨p103, x102⟩ := atI_some' e101
   obtain ⟨b104, o105, ce106, hA107, hl108, hd109, v111, rfl, h112, r115, r116, r117⟩ := h93.elem x102
   obtain ⟨A113, c114, rfl⟩ := h112.form
   refine o_iaE (hA := hA107) (hj := (Int.toNat_of_nonneg p103).symm) (hlt := hl108) rfl rfl rfl ?_
   refine o_fa rfl rfl (o_ld (hc := cat0 hd109) rfl rfl ?_)
   refine o_mv rfl rfl ?_
   obtain ⟨q118, e119, hf72⟩ := bs hf72
   replace h30 := h30.st S86
   refine l_callA (O := O85) (A := All w68) (R := fun w' F v => Vb w' F v q118) (c_slices_Equal_Luint64_uint64 (fun _ h => h) (Vb.mono (F := Fr 0 w68 O85) h112 Fr.lt) (Vb.mono (F := Fr 0 w68 O85) h30 Fr.lt) e119) rfl rfl fun v124 w120 O121 S122 h123 => ?_
   obtain rfl := h123.bool
   replace h52 := h52.stS S122 id (fun _ _ => id)
   cases q118
   case false =>
    replace hf72 := iF hf72
    refine o_z ?_
    refine ewp_false rfl (ewp_skip ?_)
    replace h87 := h87.st S122
    replace h90 := h90.st S122
    replace h93 := h93.st S122
    replace h98 := h98.st S122
    obtain ⟨O125, S126, hz128, ha129, h127⟩ := Reg.shut (x := x0) (l0 := 2) (l1 := 3) (l2 := 4) (l3 := 5) (by decide) h87 h90 h93 h98
    replace h52 := h52.shutS S126 hz128 ha129 [2] (by decide)
    obtain rfl := sm hf72
    refine (?_ : Exists _)
    replace hB := ((hB.st S86).st S122).st S126
    replace h30 := (h30.st S122).st S126
    exact ⟨_, (), rfl, ⟨rfl, rfl, rfl, rfl, rfl, rfl, trivial⟩, _, hB, h127, h30, h52⟩
   replace hf72 := iT hf72
   refine o_z ?_
   refine ewp_true rfl (ewp_seq (ewp_region (o_mv rfl rfl (o_mv rfl rfl (o_mv rfl rfl (o_as rfl rfl (o_as rfl rfl (o_as rfl rfl (o_as rfl rfl (o_z ?_))))))))))
   refine ewp_ret ?_
   replace h87 := h87.st S122
   replace h90 := h90.st S122
   replace h93 := h93.st S122
   replace h98 := h98.st S122
   obtain ⟨O130, S131, hz133, ha134, h132⟩ := Reg.shut (x := x0) (l0 := 2) (l1 := 3) (l2 := 4) (l3 := 5) (by decide) h87 h90 h93 h98
   obtain rfl := sm hf72
   obtain rfl := hret73 _ rfl
   obtain rfl := sm (fin_ret hm)
   replace hB := ((hB.st S86).st S122).st S131
   obtain ⟨O', hS', hz, hl⟩ := hE.leave (fun q => if q = 2 then i0 else 0) rfl hB
   replace h30 := (h30.st S122).st S131
   exact ret4 rfl (res_tmp rfl) (res_tmp rfl) (res_tmp rfl) (res_tmp rfl) ⟨O', hS', _, _, _, _, (Ob.leave h132 hz (hl 2 (by decide) (by decide)) hx0.2), rfl, (Vb.mono h30 hz), (vInt r50), (vInt r84), (vErr (show inI64 0 from by decide))⟩
  replace hB := (((hB.st S6).st S24).st S45).st S58
  replace h30 := (h30.st S45).st S58
  rintro l135 w136 ⟨s139, x140, rfl, hs138, O137, hB, h30, h59⟩
  replace hm := fin_done hm
  refine ewp_sub _ hs138 ?_
  refine ewp_seq (ewp_region (o_mv rfl rfl (o_mv rfl rfl (o_as rfl rfl (o_as rfl rfl (o_as rfl rfl (o_as rfl rfl (o_z ?_))))))))
  refine ewp_ret ?_
  obtain rfl := sm hm
  obtain ⟨O', hS', hz, hl⟩ := hE.leave (fun q => if q = 2 then i0 else 0) rfl hB
  exact ret4 rfl (res_tmp rfl) (res_tmp rfl) (res_tmp rfl) (res_tmp rfl) ⟨O', hS', _, _, _, _, (Ob.leave h59 hz (hl 2 (by decide) (by decide)) hx0.2), rfl, (Vb.mono h30 hz), (vInt r50), (vInt (show inI64 (-1) from by decide)), (vErr (show inI64 0 from by decide))⟩
noncomputable def m_registry_Registry_Add (x0 : Reg) (x1 : List Int) : Option (Int × Bool × Err × Reg) :=
  bnd (m_registry_Registry_find x0 x1) fun q5 => if q5.2.2.2.n ≠ 0 then (some (0, false, (⟨q5.2.2.2.n⟩ : Err), x0)) else (if 0 ≤ q5.2.2.1 then (some (q5.2.2.1, false, (⟨0⟩ : Err), x0)) else (if 65536 ≤ (x0.entries.length : Int) then (some (0, false, (⟨10⟩ : Err), x0)) else (bnd (appI 48 x0.entries [(⟨q5.1, (⟨(-1), (-1), 0⟩ : RLk)⟩ : REn)]) fun u53 => bnd (appI 8 (mget ([] : List Int) x0.table.l q5.2.1) ([(x0.entries.length : Int)] : List Int)) fun u82 => some ((x0.entries.length : Int), true, (⟨0⟩ : Err), (⟨x0.packer, u53, (⟨mput x0.table.l q5.2.1 u82⟩ : MapR 3 Int Int)⟩ : Reg)))))
theorem c_registry_Registry_Add {w : World} {O : Lab} {p0 i0 : Nat} {x0 : Reg} (hx0 : Ob i0 w O (.pointer (some ⟨p0, 0, none⟩)) x0) {vx1 : Value} {x1 : List Int} (hx1 : Vb w (Fr 0 w O) vx1 x1) {r : Int × Bool × Err × Reg} (hm : m_registry_Registry_Add x0 x1 = some r) :
    Fn Try.prog 41 [(.pointer (some ⟨p0, 0, none⟩)), vx1] w fun v w' => ∃ O', St (eT i0) w O w' O' ∧ ∃ v0 v1 v2 : Value, Ob i0 w' O' (.pointer (some ⟨p0, 0, none⟩)) r.2.2.2 ∧ v = .tuple #[v0, v1, v2] ∧ Vb w' (Fr 0 w' O') v0 r.1 ∧ Vb w' (Fr 0 w' O') v1 r.2.1 ∧ Vb w' (Fr 0 w' O') v2 r.2.2.1 := by
 obtain ⟨O0, hE, hz0, hl2⟩ := ent1 (w := w) (O := O) hx0.2
 have hx0' := Ob.leave hx0 hz0 hl2 (j := 2) (by decide)
 have hB : Bm w O0 w O0 := Bm.refl
 replace hx1 := hx1.mono hz0
 obtain ⟨A3, c4, rfl⟩ := hx1.form
 refine fn_enter Try.func41 rfl Try.ntmps41 rfl ?_
 unfold m_registry_Registry_Add at hm
 refine ewp_seq (ewp_region (o_as rfl rfl (o_as rfl rfl (o_as rfl rfl (o_z ?_)))))
 refine ewp_seq (ewp_seq (ewp_region (o_mv rfl rfl (o_pn rfl rfl ?_))))
 refine o_z ?_
 refine ewp_false rfl (ewp_skip (ewp_seq (ewp_region (o_mv rfl rfl (o_mv rfl rfl ?_)))))
 obtain ⟨q5, e6, hm⟩ := bs hm
 refine l_callM (O := O0) (c_registry_Registry_find hx0' hx1 e6) rfl rfl fun v11 w7 O8 S9 h10 => ?_
 obtain ⟨v13, v14, v15, v16, h12, rfl, h17, h18, h19, h20⟩ := h10
 obtain ⟨A21, c22, rfl⟩ := h17.form
 obtain ⟨rfl, r23⟩ := h18.int
 obtain ⟨rfl, r24⟩ := h19.int
 obtain ⟨rfl, r25⟩ := h20.err
 refine o_mv rfl rfl (o_ex rfl rfl rfl (o_ex rfl rfl rfl (o_ex rfl rfl rfl (o_ex rfl rfl rfl (o_as rfl rfl (o_as rfl rfl (o_as rfl rfl (o_as rfl rfl (o_z ?_)))))))))
 refine ewp_seq (ewp_block (ewp_seq (ewp_region (o_mv rfl rfl (o_rnS rfl rfl (fun c26 => ?_) fun c26 => ?_)))))
 ·
  replace hm := ip hm c26
  refine o_as rfl rfl (o_z ?_)
  refine ewp_true rfl (ewp_seq (ewp_region (o_mv rfl rfl (o_as rfl rfl (o_as rfl rfl (o_as rfl rfl (o_z ?_)))))))
  refine ewp_ret ?_
  obtain rfl := sm hm
  replace hB := hB.st S9
  obtain ⟨O', hS', hz, hl⟩ := hE.leave (fun q => if q = 2 then i0 else 0) rfl hB
  exact ret3 rfl (res_tmp rfl) (res_tmp rfl) (res_tmp rfl) ⟨O', hS', _, _, _, (Ob.leave h12 hz (hl 2 (by decide) (by decide)) hx0.2), rfl, (vInt (show inI64 (0) from by decide)), vBool, (vErr r25)⟩
 ·
  replace hm := im hm c26
  refine o_as rfl rfl (o_z ?_)
  refine ewp_false rfl (ewp_seq (ewp_region (o_mv rfl rfl (o_geS rfl rfl rfl (fun c27 => ?_) fun c27 => ?_))))
  ·
   replace hm := ip hm c27
   refine o_as rfl rfl (o_z ?_)
   refine ewp_true rfl (ewp_seq (ewp_region (o_mv rfl rfl (o_as rfl rfl (o_as rfl rfl (o_as rfl rfl (o_z ?_)))))))
   refine ewp_ret ?_
   obtain rfl := sm hm
   replace hB := hB.st S9
   obtain ⟨O', hS', hz, hl⟩ := hE.leave (fun q => if q = 2 then i0 else 0) rfl hB
   exact ret3 rfl (res_tmp rfl) (res_tmp rfl) (res_tmp rfl) ⟨O', hS', _, _, _, (Ob.leave h12 hz (hl 2 (by decide) (by decide)) hx0.2), rfl, (vInt r24), vBool, (vErr (show inI64 0 from by decide))⟩
  ·
   replace hm := im hm c27
   refine o_as rfl rfl (o_z ?_)
   refine ewp_false rfl (ewp_seq (ewp_region (o_mv rfl rfl (o_nc rfl rfl ?_))))
   obtain ⟨O28, v32, v35, v40, S29, ha31, h30, h33, h36, h41⟩ := Reg.opn h12 2 3 4 5 (by decide)
   obtain ⟨p34, rfl⟩ := h33.ptr
   obtain ⟨A37, c38, rfl⟩ := h36.form
   obtain ⟨p42, rfl⟩ := h41.mptr
   refine o_fa rfl rfl (o_ld (hc := Blk.cell (i := 1) (h30.1) rfl) rfl rfl ?_)
   refine o_ln rfl rfl ?_
   have l44 : x0.entries.length ≤ 9223372036854775807 := Nat.le_trans h36.len.2.1 h36.len.2.2
   have r43 : inI64 (x0.entries.length : Int) := rngNat l44
   refine o_geS rfl rfl rfl (fun c45 => ?_) fun c45 => ?_
   ·
    replace hm := ip hm c45
    refine o_as rfl rfl (o_z ?_)
    refine ewp_true rfl (ewp_seq (ewp_region (o_miE rfl rfl ?_)))
    refine o_as rfl rfl (o_as rfl rfl (o_as rfl rfl (o_z ?_)))
    refine ewp_ret ?_
    obtain ⟨O46, S47, hz49, ha50, h48⟩ := Reg.shut (x := x0) (l0 := 2) (l1 := 3) (l2 := 4) (l3 := 5) (by decide) h30 h33 h36 h41
    obtain rfl := sm hm
    replace hB := ((hB.st S9).st S29).st S47
    obtain ⟨O', hS', hz, hl⟩ := hE.leave (fun q => if q = 2 then i0 else 0) rfl hB
    exact ret3 rfl (res_tmp rfl) (res_tmp rfl) (res_tmp rfl) ⟨O', hS', _, _, _, (Ob.leave h48 hz (hl 2 (by decide) (by decide)) hx0.2), rfl, (vInt (show inI64 (0) from by decide)), vBool, (vErr (by decide))⟩
   ·
    replace hm := im hm c45
    refine o_as rfl rfl (o_z ?_)
    refine ewp_false rfl (ewp_skip (ewp_seq (ewp_region (o_mv rfl rfl (o_nc rfl rfl (o_fa rfl rfl (o_ld (hc := Blk.cell (i := 1) (h30.1) rfl) rfl rfl ?_)))))))
    refine o_ln rfl rfl ?_
    have l52 : x0.entries.length ≤ 9223372036854775807 := Nat.le_trans h36.len.2.1 h36.len.2.2
    have r51 : inI64 (x0.entries.length : Int) := rngNat l52
    refine o_as rfl rfl (o_z ?_)
    refine ewp_seq (ewp_region (o_mv rfl rfl (o_mv rfl rfl (o_nc rfl rfl (o_fa rfl rfl (o_ld (hc := Blk.cell (i := 1) (h30.1) rfl) rfl rfl ?_))))))
    refine o_mv rfl rfl (o_bd rfl rfl rfl ?_)
    refine o_bd rfl rfl rfl ?_
    obtain ⟨u53, e54, hm⟩ := bs hm
    obtain ⟨e54, e55, e56⟩ := appI_some e54
    replace h17 := h17.st S29
    refine l_append1 rfl (a := (⟨q5.1, (⟨(-1), (-1), 0⟩ : RLk)⟩ : REn)) h36 (Vb.ofAgg (cs := [(.slice A21 q5.1.length c22), (.int .i64 (-1)), (.int .i64 (-1)), (.int .i64 0)]) (x := (⟨q5.1, (⟨(-1), (-1), 0⟩ : RLk)⟩ : REn)) rfl ⟨_, rfl, h17, (show inI64 (-1) from by decide), (show inI64 (-1) from by decide), (show inI64 (0) from by decide)⟩) (fun _ => rfl) rfl (by decide) (by decide) e55 e56 ⟨rfl, rfl⟩ fun g57 A58 c59 w60 O61 S62 h63 => ?_
    rw [← e54] at h63 ⊢
    refine o_nc rfl rfl (o_fa rfl rfl ?_)
    replace h30 := h30.st S62
    refine l_store h30 rfl rfl rfl (Nat.le_of_ble_eq_true rfl) (by first | exact allOne rfl | simp [Value.cells, Value.oneCell', errV_one]) fun w65 S66 h30 => ?_
    replace h30 : Lc 2 w65 O61 p0 118 [(.pointer (some ⟨p34, 0, none⟩)), (.slice A58 u53.length c59), (.map (some p42))] := h30
    refine o_z ?_
    refine ewp_seq (ewp_drawX [(12, []), (13, [5, 7])] O61 ?_)
    refine x_pre (fuel := 8) [] [(5, true), (6, true), (7, true), (8, true), (9, true), (10, true), (11, true)] (by kernel_rfl) rfl ?_
    refine h_mv rfl rfl rfl (h_nc rfl rfl rfl (h_fa rfl rfl rfl (h_ldC (hc := fun w' ⟨O', hq⟩ => Blk.cell (i := 2) ((h30.st hq (by decide)).1) rfl) rfl rfl rfl ?_)))
    refine h_mv rfl rfl rfl ?_
    replace h41 := (h41.st S62).st S66
    obtain ⟨A69, c70, hl67, h68⟩ := MapR.get h41 q5.2.1
    refine h_lk q5.2.1 (fun w' ⟨O', hq⟩ => hl67.keep (hq.agree (i := 5) (by decide) _ (MapR.at h41))) rfl rfl rfl rfl ?_
    refine h_mv rfl rfl rfl (hwp_nilT ?_)
    refine x_pre (fuel := 3) [5, 7] [(0, true), (1, true), (2, true), (3, true), (4, true)] (by kernel_rfl) rfl ?_
    refine h_mv rfl rfl rfl (h_nc rfl rfl rfl (h_fa rfl rfl rfl (h_ldC (hc := fun w' ⟨O', hq⟩ => Blk.cell (i := 2) ((h30.st hq (by decide)).1) rfl) rfl rfl rfl ?_)))
    refine h_mv rfl rfl rfl (hwp_nilT ?_)
    refine x_one (i := 12) (by kernel_rfl) rfl ?_
    refine l_bslice 6 (by decide) O61 (xs := (([(x0.entries.length : Int)] : List Int) : List Int)) rfl rfl rfl rfl ⟨(vInt r51), trivial⟩ (by decide) (by decide) rfl fun g71 w72 O73 S74 h75 => ?_
    have hZ := S74.lst [] (fun _ h => h.elim)
    replace hl67 := hl67.keep (S74.agree (i := 5) id _ (MapR.at h41))
    replace h68 := h68.stS S74 id (fun _ _ => id)
    refine x_go [(13, [5, 7])] hZ (by kernel_rfl) ?_
    refine x_one (i := 13) (by kernel_rfl) rfl ?_
    replace h41 := h41.st S74
    obtain ⟨O77, S78, h79, h80⟩ := MapR.take h41 hl67 7 (by decide) (by decide)
    have hZ := S78.lst [5] (fun _ h => by cases h; decide)
    obtain ⟨u82, e83, hm⟩ := bs hm
    obtain ⟨e83, e84, e85⟩ := appI_some e83
    replace h75 := h75.st S78
    refine l_append rfl h80 (h75.rd) rfl rfl (by decide) e84 e85 rfl fun A86 c87 w88 O89 S90 h91 => ?_
    rw [← e83] at h91 ⊢
    replace hZ := hZ.cmp S90 [5, 7] (fun _ h => by cases h; decide) rfl
    refine x_go [] hZ (by kernel_rfl) ?_
    refine x_one (i := 14) (by kernel_rfl) rfl ?_
    replace h79 := h79.st S90
    refine l_mputR h79 h91 (by decide) rfl rfl rfl fun w93 O94 S95 h96 => ?_
    refine x_end (by kernel_rfl) ?_
    refine x_nil (by kernel_rfl) ?_
    refine ewp_seq (ewp_region (o_mv rfl rfl (o_as rfl rfl (o_as rfl rfl (o_as rfl rfl (o_z ?_))))))
    refine ewp_ret ?_
    replace h30 := (((h30.st S74).st S78).st S90).st S95
    replace h33 := (((((h33.st S62).st S66).st S74).st S78).st S90).st S95
    replace h63 := ((((h63.st S66).st S74).st S78).st S90).st S95
    obtain ⟨O97, S98, hz100, ha101, h99⟩ := Reg.shut (x := (⟨x0.packer, u53, (⟨mput x0.table.l q5.2.1 u82⟩ : MapR 3 Int Int)⟩ : Reg)) (l0 := 2) (l1 := 3) (l2 := 4) (l3 := 5) (by decide) h30 h33 h63 h96
    obtain rfl := sm hm
    replace hB := ((((((((hB.st S9).st S29).st S62).st S66).st S74).st S78).st S90).st S95).st S98
    obtain ⟨O', hS', hz, hl⟩ := hE.leave (fun q => if q = 2 then i0 else 0) rfl hB
    exact ret3 rfl (res_tmp rfl) (res_tmp rfl) (res_tmp rfl) ⟨O', hS', _, _, _, (Ob.leave h99 hz (hl 2 (by decide) (by decide)) hx0.2), rfl, (vInt r51), vBool, (vErr (show inI64 0 from by decide))⟩
noncomputable def m_registry_Registry_Len (x0 : Reg) : Option Int :=
  some (x0.entries.length : Int)
theorem c_registry_Registry_Len {w : World} {O : Lab} {p0 i0 : Nat} {x0 : Reg} (hx0 : Ob i0 w O (.pointer (some ⟨p0, 0, none⟩)) x0) {r : Int} (hm : m_registry_Registry_Len x0 = some r) :
    Fn Try.prog 35 [(.pointer (some ⟨p0, 0, none⟩))] w fun v w' => ∃ O', St (eT i0) w O w' O' ∧ Ob i0 w' O' (.pointer (some ⟨p0, 0, none⟩)) x0 ∧ Vb w' (Fr 0 w' O') v r := by
 obtain ⟨O0, hE, hz0, hl2⟩ := ent1 (w := w) (O := O) hx0.2
 have hx0' := Ob.leave hx0 hz0 hl2 (j := 2) (by decide)
 have hB : Bm w O0 w O0 := Bm.refl
 refine fn_enter Try.func35 rfl Try.ntmps35 rfl ?_
 unfold m_registry_Registry_Len at hm
 refine ewp_seq (ewp_region (o_as rfl rfl (o_z ?_)))
 refine ewp_seq (ewp_seq (ewp_region (o_mv rfl rfl (o_pn rfl rfl ?_))))
 refine o_z ?_
 refine ewp_false rfl (ewp_skip (ewp_seq (ewp_region (o_mv rfl rfl (o_nc rfl rfl ?_)))))
 obtain ⟨O2, v6, v9, v14, S3, ha5, h4, h7, h10, h15⟩ := Reg.opn hx0' 2 3 4 5 (by decide)
 obtain ⟨p8, rfl⟩ := h7.ptr
 obtain ⟨A11, c12, rfl⟩ := h10.form
 obtain ⟨p16, rfl⟩ := h15.mptr
 refine o_fa rfl rfl (o_ld (hc := Blk.cell (i := 1) (h4.1) rfl) rfl rfl ?_)
 refine o_ln rfl rfl ?_
 have l18 : x0.entries.length ≤ 9223372036854775807 := Nat.le_trans h10.len.2.1 h10.len.2.2
 have r17 : inI64 (x0.entries.length : Int) := rngNat l18
 refine o_as rfl rfl (o_z ?_)
 refine ewp_ret ?_
 obtain ⟨O19, S20, hz22, ha23, h21⟩ := Reg.shut (x := x0) (l0 := 2) (l1 := 3) (l2 := 4) (l3 := 5) (by decide) h4 h7 h10 h15
 obtain rfl := sm hm
 replace hB := (hB.st S3).st S20
 obtain ⟨O', hS', hz, hl⟩ := hE.leave (fun q => if q = 2 then i0 else 0) rfl hB
 exact ret1v rfl (res_tmp rfl) ⟨O', hS', (Ob.leave h21 hz (hl 2 (by decide) (by decide)) hx0.2), (vInt r17)⟩
noncomputable def m_registry_Registry_has (x0 : Reg) (x1 : Int) : Option Bool :=
  bnd (if 0 ≤ x1 then (if x1 < (x0.entries.length : Int) then (some true) else (some false)) else (some false) : Option Bool) fun y3 => some y3
theorem c_registry_Registry_has {w : World} {O : Lab} {p0 i0 : Nat} {x0 : Reg} (hx0 : Ob i0 w O (.pointer (some ⟨p0, 0, none⟩)) x0) {x1 : Int} (rx1 : inI64 x1) {r : Bool} (hm : m_registry_Registry_has x0 x1 = some r) :
    Fn Try.prog 61 [(.pointer (some ⟨p0, 0, none⟩)), (.int .i64 x1)] w fun v w' => ∃ O', St (eT i0) w O w' O' ∧ Ob i0 w' O' (.pointer (some ⟨p0, 0, none⟩)) x0 ∧ Vb w' (Fr 0 w' O') v r := by
 obtain ⟨O0, hE, hz0, hl2⟩ := ent1 (w := w) (O := O) hx0.2
 have hx0' := Ob.leave hx0 hz0 hl2 (j := 2) (by decide)
 have hB : Bm w O0 w O0 := Bm.refl
 refine fn_enter Try.func61 rfl Try.ntmps61 rfl ?_
 unfold m_registry_Registry_has at hm
 refine ewp_seq (ewp_region (o_as rfl rfl (o_z ?_)))
 refine ewp_seq ?_
 obtain ⟨y3, hy4, hm⟩ := bs hm
 refine ewp_join (fun l' w' => ∃ (x6 : Unit) (O' : Lab), subs l' [(4, (.bool y3))] ∧ Bm w O0 w' O' ∧ Ob 2 w' O' (.pointer (some ⟨p0, 0, none⟩)) x0) ?_ ?_
 ·
  refine ewp_region (o_mv rfl rfl (o_geS rfl rfl rfl (fun c7 => ?_) fun c7 => ?_))
  ·
   replace hy4 := ip hy4 c7
   refine o_mv rfl rfl (owp_yes rfl rfl (o_mv rfl rfl (owp_yes rfl rfl (o_mv rfl rfl (owp_yes rfl rfl (o_nc rfl rfl (owp_yes rfl rfl ?_)))))))
   obtain ⟨O8, v12, v15, v20, S9, ha11, h10, h13, h16, h21⟩ := Reg.opn hx0' 2 3 4 5 (by decide)
   obtain ⟨p14, rfl⟩ := h13.ptr
   obtain ⟨A17, c18, rfl⟩ := h16.form
   obtain ⟨p22, rfl⟩ := h21.mptr
   refine o_fa rfl rfl (owp_yes rfl rfl (o_ld (hc := Blk.cell (i := 1) (h10.1) rfl) rfl rfl ?_))
   refine owp_yes rfl rfl (o_ln rfl rfl ?_)
   have l24 : x0.entries.length ≤ 9223372036854775807 := Nat.le_trans h16.len.2.1 h16.len.2.2
   have r23 : inI64 (x0.entries.length : Int) := rngNat l24
   refine owp_yes rfl rfl (o_ltS rfl rfl rfl (fun c25 => ?_) fun c25 => ?_)
   ·
    replace hy4 := ip hy4 c25
    refine o_pt rfl rfl rfl (o_as rfl rfl (o_z ?_))
    obtain ⟨O26, S27, hz29, ha30, h28⟩ := Reg.shut (x := x0) (l0 := 2) (l1 := 3) (l2 := 4) (l3 := 5) (by decide) h10 h13 h16 h21
    obtain rfl := sm hy4
    replace hB := (hB.st S9).st S27
    exact ⟨(), _, ⟨rfl, trivial⟩, hB, h28⟩
   ·
    replace hy4 := im hy4 c25
    refine o_pt rfl rfl rfl (o_as rfl rfl (o_z ?_))
    obtain ⟨O31, S32, hz34, ha35, h33⟩ := Reg.shut (x := x0) (l0 := 2) (l1 := 3) (l2 := 4) (l3 := 5) (by decide) h10 h13 h16 h21
    obtain rfl := sm hy4
    replace hB := (hB.st S9).st S32
    exact ⟨(), _, ⟨rfl, trivial⟩, hB, h33⟩
  ·
   replace hy4 := im hy4 c7
   refine o_mv rfl rfl (owp_no rfl rfl rfl rfl (owp_no rfl rfl rfl rfl (owp_no rfl rfl rfl rfl (owp_no rfl rfl rfl rfl (owp_no rfl rfl rfl rfl (owp_no rfl rfl rfl rfl (owp_no rfl rfl rfl rfl (o_pf rfl rfl rfl (o_as rfl rfl (o_z ?_))))))))))
   obtain rfl := sm hy4
   exact ⟨(), _, ⟨rfl, trivial⟩, hB, hx0'⟩
 rintro l36 w37 ⟨x6, O38, hs39, hB, h24⟩
 refine ewp_sub _ hs39 ?_
 refine ewp_ret ?_
 obtain rfl := sm hm
 obtain ⟨O', hS', hz, hl⟩ := hE.leave (fun q => if q = 2 then i0 else 0) rfl hB
 exact ret1v rfl (res_tmp rfl) ⟨O', hS', (Ob.leave h24 hz (hl 2 (by decide) (by decide)) hx0.2), vBool⟩
noncomputable def m_registry_Registry_State (x0 : Reg) (x1 : Int) : Option ((List Int) × Err) :=
  bnd (m_registry_Registry_has x0 x1) fun q3 => if q3 = true then bnd (atI x0.entries x1) fun a27 => bnd (m_pack_Packer_Unpack x0.packer a27.words) fun q45 => some (q45.1, (⟨q45.2.n⟩ : Err)) else some (([] : List Int), (⟨1⟩ : Err))
theorem c_registry_Registry_State {w : World} {O : Lab} {p0 i0 : Nat} {x0 : Reg} (hx0 : Ob i0 w O (.pointer (some ⟨p0, 0, none⟩)) x0) {x1 : Int} (rx1 : inI64 x1) {r : (List Int) × Err} (hm : m_registry_Registry_State x0 x1 = some r) :
    Fn Try.prog 36 [(.pointer (some ⟨p0, 0, none⟩)), (.int .i64 x1)] w fun v w' => ∃ O', St (eT i0) w O w' O' ∧ ∃ v0 v1 : Value, Ob i0 w' O' (.pointer (some ⟨p0, 0, none⟩)) x0 ∧ v = .tuple #[v0, v1] ∧ Vb w' (Fr 0 w' O') v0 r.1 ∧ Vb w' (Fr 0 w' O') v1 r.2 := by
 obtain ⟨O0, hE, hz0, hl2⟩ := ent1 (w := w) (O := O) hx0.2
 have hx0' := Ob.leave hx0 hz0 hl2 (j := 2) (by decide)
 have hB : Bm w O0 w O0 := Bm.refl
 refine fn_enter Try.func36 rfl Try.ntmps36 rfl ?_
 unfold m_registry_Registry_State at hm
 refine ewp_seq (ewp_region (o_as rfl rfl (o_as rfl rfl (o_z ?_))))
 refine ewp_seq (ewp_block (ewp_seq (ewp_region (o_mv rfl rfl (o_pn rfl rfl ?_)))))
 refine o_as rfl rfl (o_z ?_)
 refine ewp_false rfl (ewp_seq (ewp_region (o_mv rfl rfl (o_mv rfl rfl ?_))))
 obtain ⟨q3, e4, hm⟩ := bs hm
 refine l_callM (O := O0) (c_registry_Registry_has hx0' rx1 e4) rfl rfl fun v9 w5 O6 S7 h8 => ?_
 obtain ⟨h10, h11⟩ := h8
 obtain rfl := h11.bool
 cases q3
 case false =>
  replace hm := iF hm
  refine o_nf rfl rfl (o_as rfl rfl (o_z ?_))
  refine ewp_true rfl (ewp_seq (ewp_region (o_miE rfl rfl ?_)))
  refine o_as rfl rfl (o_as rfl rfl (o_z ?_))
  refine ewp_ret ?_
  obtain rfl := sm hm
  replace hB := hB.st S7
  obtain ⟨O', hS', hz, hl⟩ := hE.leave (fun q => if q = 2 then i0 else 0) rfl hB
  exact ret2 rfl (res_tmp rfl) (res_tmp rfl) ⟨O', hS', _, _, (Ob.leave h10 hz (hl 2 (by decide) (by decide)) hx0.2), rfl, (Vb.mono (Vb.nil _ _) hz), (vErr (by decide))⟩
 replace hm := iT hm
 refine o_nt rfl rfl (o_as rfl rfl (o_z ?_))
 refine ewp_false rfl (ewp_skip (ewp_seq ?_))
 obtain ⟨O12, v16, v19, v24, S13, ha15, h14, h17, h20, h25⟩ := Reg.opn h10 2 3 4 5 (by decide)
 obtain ⟨p18, rfl⟩ := h17.ptr
 obtain ⟨A21, c22, rfl⟩ := h20.form
 obtain ⟨p26, rfl⟩ := h25.mptr
 refine ewp_drawX [(12, [3])] O12 ?_
 refine x_pre (fuel := 5) [] [(0, true), (1, true), (2, true), (3, true), (4, true), (5, true), (6, true), (7, true), (8, true), (9, true), (10, true), (11, true)] (by kernel_rfl) rfl ?_
 refine h_mv rfl rfl rfl (h_nc rfl rfl rfl (h_fa rfl rfl rfl (h_ldC (hc := fun w' ⟨O', hq⟩ => Blk.cell (i := 0) ((h14.st hq (by decide)).1) rfl) rfl rfl rfl ?_)))
 refine h_mv rfl rfl rfl (h_nc rfl rfl rfl (h_fa rfl rfl rfl (h_ldC (hc := fun w' ⟨O', hq⟩ => Blk.cell (i := 1) ((h14.st hq (by decide)).1) rfl) rfl rfl rfl ?_)))
 refine h_mv rfl rfl rfl ?_
 obtain ⟨a27, e28, hm⟩ := bs hm
 obtain ⟨p30, x29⟩ := atI_some' e28
 obtain ⟨b31, o32, ce33, hA34, hF37, hl35, hd36, v38, rfl, h39, r42, r43, r44⟩ := h20.elemF x29
 obtain ⟨A40, c41, rfl⟩ := h39.form
 refine h_iaE (hA := hA34) (hj := (Int.toNat_of_nonneg p30).symm) (hlt := hl35) rfl rfl rfl rfl ?_
 refine h_fa rfl rfl rfl (h_ldC (hc := fun w' ⟨O', hq⟩ => cat0 (cellsAt_agree (hq.agree (i := 4) (by decide)) hF37 hd36)) rfl rfl rfl ?_)
 refine hwp_nilT ?_
 refine x_one (i := 12) (by kernel_rfl) rfl ?_
 obtain ⟨q45, e46, hm⟩ := bs hm
 refine l_callM (O := O12) (c_pack_Packer_Unpack h17 h39 e46) rfl rfl fun v51 w47 O48 S49 h50 => ?_
 obtain ⟨v53, v54, h52, rfl, h55, h56⟩ := h50
 obtain ⟨A57, c58, rfl⟩ := h55.form
 obtain ⟨rfl, r59⟩ := h56.err
 have hZ := S49.lst [3] (fun _ h => by cases h; decide)
 refine x_go [] hZ (by kernel_rfl) ?_
 refine x_pre (fuel := 0) [] [(13, true), (14, true), (15, true), (16, true)] (by kernel_rfl) rfl ?_
 refine h_ex rfl rfl rfl rfl (h_ex rfl rfl rfl rfl (h_as rfl rfl rfl (h_as rfl rfl rfl (hwp_nilT ?_))))
 refine x_nil (by kernel_rfl) ?_
 refine ewp_ret ?_
 replace h14 := h14.st S49
 replace h20 := h20.st S49
 replace h25 := h25.st S49
 obtain ⟨O60, S61, hz63, ha64, h62⟩ := Reg.shut (x := x0) (l0 := 2) (l1 := 3) (l2 := 4) (l3 := 5) (by decide) h14 h52 h20 h25
 obtain rfl := sm hm
 replace hB := (((hB.st S7).st S13).st S49).st S61
 obtain ⟨O', hS', hz, hl⟩ := hE.leave (fun q => if q = 2 then i0 else 0) rfl hB
 replace h55 := h55.st S61
 exact ret2 rfl (res_tmp rfl) (res_tmp rfl) ⟨O', hS', _, _, (Ob.leave h62 hz (hl 2 (by decide) (by decide)) hx0.2), rfl, (Vb.mono h55 hz), (vErr r59)⟩
noncomputable def m_registry_Registry_SetLink (x0 : Reg) (x1 : Int) (x2 : Int) (x3 : Int) (x4 : Int) : Option (Err × Reg) :=
  bnd (bnd (m_registry_Registry_has x0 x1) fun q10 => if q10 = true then if x2 ≠ (-1) then (bnd (m_registry_Registry_has x0 x2) fun q20 => if q20 = true then some false else some true) else (some false) else some true : Option Bool) fun y6 => if y6 = true then (some ((⟨1⟩ : Err), x0)) else (bnd (atI x0.entries x1) fun a49 => some ((⟨0⟩ : Err), (⟨x0.packer, (x0.entries.set (x1 : Int).toNat ({ a49 with link := (⟨x2, x3, x4⟩ : RLk) } : REn)), x0.table⟩ : Reg)))
theorem c_registry_Registry_SetLink {w : World} {O : Lab} {p0 i0 : Nat} {x0 : Reg} (hx0 : Ob i0 w O (.pointer (some ⟨p0, 0, none⟩)) x0) {x1 : Int} (rx1 : inI64 x1) {x2 : Int} (rx2 : inI64 x2) {x3 : Int} (rx3 : inI64 x3) {x4 : Int} (rx4 : inI64 x4) {r : Err × Reg} (hm : m_registry_Registry_SetLink x0 x1 x2 x3 x4 = some r) :
    Fn Try.prog 42 [(.pointer (some ⟨p0, 0, none⟩)), (.int .i64 x1), (.int .i64 x2), (.int .i64 x3), (.int .i64 x4)] w fun v w' => ∃ O', St (eT i0) w O w' O' ∧ Ob i0 w' O' (.pointer (some ⟨p0, 0, none⟩)) r.2 ∧ Vb w' (Fr 0 w' O') v r.1 := by
 obtain ⟨O0, hE, hz0, hl2⟩ := ent1 (w := w) (O := O) hx0.2
 have hx0' := Ob.leave hx0 hz0 hl2 (j := 2) (by decide)
 have hB : Bm w O0 w O0 := Bm.refl
 refine fn_enter Try.func42 rfl Try.ntmps42 rfl ?_
 unfold m_registry_Registry_SetLink at hm
 refine ewp_seq (ewp_region (o_as rfl rfl (o_z ?_)))
 refine ewp_seq (ewp_block (ewp_seq (ewp_region (o_mv rfl rfl (o_pn rfl rfl ?_)))))
 refine o_as rfl rfl (o_z ?_)
 refine ewp_false rfl (ewp_seq ?_)
 obtain ⟨y6, hy7, hm⟩ := bs hm
 refine ewp_join (fun l' w' => ∃ (x9 : Unit) (O' : Lab), subs l' [(0, (.pointer (some ⟨p0, 0, none⟩))), (1, (.int .i64 x1)), (2, (.int .i64 x2)), (3, (.int .i64 x3)), (4, (.int .i64 x4)), (15, (.bool y6))] ∧ Bm w O0 w' O' ∧ Ob 2 w' O' (.pointer (some ⟨p0, 0, none⟩)) x0) ?_ ?_
 ·
  refine ewp_region (o_mv rfl rfl (o_mv rfl rfl ?_))
  obtain ⟨q10, e11, hy7⟩ := bs hy7
  refine l_callM (O := O0) (c_registry_Registry_has hx0' rx1 e11) rfl rfl fun v16 w12 O13 S14 h15 => ?_
  obtain ⟨h17, h18⟩ := h15
  obtain rfl := h18.bool
  cases q10
  case false =>
   replace hy7 := iF hy7
   refine o_nf rfl rfl (o_mv rfl rfl (owp_no rfl rfl rfl rfl (owp_no rfl rfl rfl rfl (owp_no rfl rfl rfl rfl (owp_no rfl rfl rfl rfl (owp_no rfl rfl rfl rfl (owp_no rfl rfl rfl rfl (owp_no rfl rfl rfl rfl (owp_no rfl rfl rfl rfl (o_pt rfl rfl rfl (o_as rfl rfl (o_z ?_))))))))))))
   obtain rfl := sm hy7
   replace hB := hB.st S14
   exact ⟨(), _, ⟨rfl, rfl, rfl, rfl, rfl, rfl, trivial⟩, hB, h17⟩
  replace hy7 := iT hy7
  refine o_nt rfl rfl (o_mv rfl rfl (owp_yes rfl rfl (o_mv rfl rfl (owp_yes rfl rfl (o_neS rfl rfl rfl (fun c19 => ?_) fun c19 => ?_)))))
  ·
   replace hy7 := ip hy7 c19
   refine owp_yes rfl rfl (o_mv rfl rfl (owp_yes rfl rfl (o_mv rfl rfl (owp_yes rfl rfl (o_mv rfl rfl (owp_yes rfl rfl ?_))))))
   obtain ⟨q20, e21, hy7⟩ := bs hy7
   refine l_callM (O := O13) (c_registry_Registry_has h17 rx2 e21) rfl rfl fun v26 w22 O23 S24 h25 => ?_
   obtain ⟨h27, h28⟩ := h25
   obtain rfl := h28.bool
   cases q20
   case false =>
    replace hy7 := iF hy7
    refine owp_yes rfl rfl (o_nf rfl rfl (owp_yes rfl rfl (o_pt rfl rfl rfl (o_pf rfl rfl rfl (o_as rfl rfl (o_z ?_))))))
    obtain rfl := sm hy7
    replace hB := (hB.st S14).st S24
    exact ⟨(), _, ⟨rfl, rfl, rfl, rfl, rfl, rfl, trivial⟩, hB, h27⟩
   replace hy7 := iT hy7
   refine owp_yes rfl rfl (o_nt rfl rfl (owp_yes rfl rfl (o_pt rfl rfl rfl (o_pf rfl rfl rfl (o_as rfl rfl (o_z ?_))))))
   obtain rfl := sm hy7
   replace hB := (hB.st S14).st S24
   exact ⟨(), _, ⟨rfl, rfl, rfl, rfl, rfl, rfl, trivial⟩, hB, h27⟩
  ·
   replace hy7 := im hy7 c19
   refine owp_yes rfl rfl (o_mv rfl rfl (owp_no rfl rfl rfl rfl (owp_no rfl rfl rfl rfl (owp_no rfl rfl rfl rfl (owp_no rfl rfl rfl rfl (owp_yes rfl rfl (o_pf rfl rfl rfl (o_pf rfl rfl rfl (o_as rfl rfl (o_z ?_))))))))))
   obtain rfl := sm hy7
   replace hB := hB.st S14
   exact ⟨(), _, ⟨rfl, rfl, rfl, rfl, rfl, rfl, trivial⟩, hB, h17⟩
 rintro l29 w30 ⟨x9, O31, hs32, hB, h13⟩
 refine ewp_sub _ hs32 ?_
 refine ewp_cond rfl (fun c33 => ?_) (fun c33 => ?_)
 ·
  replace hm := ip hm c33
  refine ewp_seq (ewp_region (o_miE rfl rfl ?_))
  refine o_as rfl rfl (o_z ?_)
  refine ewp_ret ?_
  obtain rfl := sm hm
  obtain ⟨O', hS', hz, hl⟩ := hE.leave (fun q => if q = 2 then i0 else 0) rfl hB
  exact ret1v rfl (res_tmp rfl) ⟨O', hS', (Ob.leave h13 hz (hl 2 (by decide) (by decide)) hx0.2), (vErr (by decide))⟩
 ·
  replace hm := im' hm c33
  refine ewp_skip (ewp_seq (ewp_region (o_mv rfl rfl (o_nc rfl rfl ?_))))
  obtain ⟨O34, v38, v41, v46, S35, ha37, h36, h39, h42, h47⟩ := Reg.opn h13 2 3 4 5 (by decide)
  obtain ⟨p40, rfl⟩ := h39.ptr
  obtain ⟨A43, c44, rfl⟩ := h42.form
  obtain ⟨p48, rfl⟩ := h47.mptr
  refine o_fa rfl rfl (o_ld (hc := Blk.cell (i := 1) (h36.1) rfl) rfl rfl ?_)
  refine o_mv rfl rfl (o_mv rfl rfl (o_mv rfl rfl (o_mv rfl rfl (o_bd rfl rfl rfl ?_))))
  obtain ⟨a49, e50, hm⟩ := bs hm
  obtain ⟨p52, x51⟩ := atI_some' e50
  obtain ⟨b53, o54, ce55, hA56, hl57, hd58, v60, rfl, h61, r64, r65, r66⟩ := h42.elem x51
  obtain ⟨A62, c63, rfl⟩ := h61.form
  refine o_iaE (hA := hA56) (hj := (Int.toNat_of_nonneg p52).symm) (hlt := hl57) rfl rfl rfl ?_
  refine o_fa rfl rfl (l_setPart (a := a49) (a' := ({ a49 with link := (⟨x2, x3, x4⟩ : RLk) } : REn)) (off := 1) h42 hA56 x51 rfl rfl rfl (Nat.le_of_ble_eq_true rfl) (by first | exact allOne rfl | simp [Value.cells, Value.oneCell', errV_one]) (by rintro ce ⟨v69, rfl, h70, r73, r74, r75⟩; exact ⟨_, rfl, h70, rx2, rx3, rx4⟩) fun w67 S68 h42 => ?_)
  refine o_z ?_
  refine ewp_seq (ewp_region (o_as rfl rfl (o_z ?_)))
  refine ewp_ret ?_
  replace h36 := h36.st S68
  replace h39 := h39.st S68
  replace h47 := h47.st S68
  obtain ⟨O76, S77, hz79, ha80, h78⟩ := Reg.shut (x := (⟨x0.packer, (x0.entries.set (x1 : Int).toNat ({ a49 with link := (⟨x2, x3, x4⟩ : RLk) } : REn)), x0.table⟩ : Reg)) (l0 := 2) (l1 := 3) (l2 := 4) (l3 := 5) (by decide) (by have q := h36; rw [← ((by simp : (x0.entries.set (x1 : Int).toNat ({ a49 with link := (⟨x2, x3, x4⟩ : RLk) } : REn)).length = x0.entries.length).trans rfl)] at q; exact q) h39 h42.relen h47
  obtain rfl := sm hm
  replace hB := ((hB.st S35).st S68).st S77
  obtain ⟨O', hS', hz, hl⟩ := hE.leave (fun q => if q = 2 then i0 else 0) rfl hB
  exact ret1v rfl (res_tmp rfl) ⟨O', hS', (Ob.leave h78 hz (hl 2 (by decide) (by decide)) hx0.2), (vErr (show inI64 0 from by decide))⟩
noncomputable def m_slices_Reverse_Lint_int (x0 : List Int) : Option (List Int) :=
  bnd (chkI ((x0.length : Int) - 1)) fun n4 => bnd (lop (ρ := (List Int)) (fun (s9 : (List Int) × Int × Int) => if s9.2.1 < s9.2.2 then (bnd (atI s9.1 s9.2.2) fun a31 => bnd (atI s9.1 s9.2.1) fun a43 => bnd (atI s9.1 s9.2.1) fun a55 => bnd (atI (s9.1.set (s9.2.1 : Int).toNat a31) s9.2.2) fun a69 => bnd (chkI (s9.2.1 + 1)) fun n83 => bnd (chkI (s9.2.2 - 1)) fun n86 => some (.next (((s9.1.set (s9.2.1 : Int).toNat a31).set (s9.2.2 : Int).toNat a43), n83, n86))) else (some (.brk (s9.1, s9.2.1, s9.2.2)))) (x0, 0, n4)) fun res7 => fin res7 fun (s93 : (List Int) × Int × Int) => some s93.1
theorem c_slices_Reverse_Lint_int {w : World} {O : Lab} {A0 : Option Addr} {m0 c0 i0 : Nat} {x0 : List Int} (hx0 : Rw i0 w O 3 (.slice A0 m0 c0) x0) {r : (List Int)} (hm : m_slices_Reverse_Lint_int x0 = some r) :
    Fn Try.prog 78 [(.slice A0 m0 c0)] w fun v w' => ∃ O', St (eT i0) w O w' O' ∧ Rw i0 w' O' 3 (.slice A0 m0 c0) r := by
 obtain ⟨O0, hE, hz0, hl2⟩ := ent1 (w := w) (O := O) hx0.2.2
 obtain rfl : m0 = x0.length := hx0.len.1
 have hx0' := Rw.leave hx0 hz0 hl2 (j := 2) (by decide)
 have hB : Bm w O0 w O0 := Bm.refl
 refine fn_enter Try.func78 rfl Try.ntmps78 rfl ?_
 unfold m_slices_Reverse_Lint_int at hm
 refine ewp_seq (ewp_region (o_mv rfl rfl (o_ln rfl rfl ?_)))
 have l3 : x0.length ≤ 9223372036854775807 := Nat.le_trans hx0'.len.2.1 hx0'.len.2.2
 have r2 : inI64 (x0.length : Int) := rngNat l3
 obtain ⟨n4, e5, hm⟩ := bs hm
 have r6 := (chkI_rng e5)
 refine o_sbE (he := e5) rfl rfl rfl ?_
 refine o_as rfl rfl (o_as rfl rfl (o_z ?_))
 obtain ⟨res7, hL8, hm⟩ := bs hm
 refine ewp_join (aft res7 (fun (s9 : (List Int) × Int × Int) (x10 : Unit) => [(0, (.slice A0 x0.length c0))]) (fun s9 x10 w' => ∃ O' : Lab, Bm w O0 w' O' ∧ Rw 2 w' O' 3 (.slice A0 x0.length c0) s9.1 ∧ inI64 s9.2.1 ∧ inI64 s9.2.2)) ?_ ?_
 ·
  refine ewp_block (ewp_lop (σ := (List Int) × Int × Int) (X := Unit) hL8 (fun (s9 : (List Int) × Int × Int) (x10 : Unit) => [(0, (.slice A0 x0.length c0)), (2, (.int .i64 s9.2.1)), (3, (.int .i64 s9.2.2))]) _ (fun s9 x10 w' => ∃ O' : Lab, Bm w O0 w' O' ∧ Rw 2 w' O' 3 (.slice A0 x0.length c0) s9.1 ∧ inI64 s9.2.1 ∧ inI64 s9.2.2) _ () ⟨O0, hB, hx0', (show inI64 (0) from by decide), r6⟩ ⟨rfl, rfl, rfl, trivial⟩ ?_)
  rintro s9 x10 w13 cc15 ⟨O14, hB, h26, r28, r29⟩ hf17 hret18 hbrk19
  refine ewp_seq (ewp_seq (ewp_region (o_mv rfl rfl (o_mv rfl rfl (o_ltS rfl rfl rfl (fun c30 => ?_) fun c30 => ?_)))))
  ·
   replace hf17 := ip hf17 c30
   refine o_z ?_
   refine ewp_true rfl (ewp_skip (ewp_seq (ewp_block (ewp_drawX [(13, [2])] O14 ?_))))
   refine x_pre (fuel := 5) [] [(0, true), (1, true), (4, true), (5, true), (6, true), (7, true), (8, true), (9, true), (10, true), (11, true), (12, true)] (by kernel_rfl) rfl ?_
   refine h_mv rfl rfl rfl (h_mv rfl rfl rfl (h_mv rfl rfl rfl (h_mv rfl rfl rfl ?_)))
   obtain ⟨a31, e32, hf17⟩ := bs hf17
   obtain ⟨p34, x33⟩ := atI_some' e32
   obtain ⟨b35, o36, ce37, hA38, hF41, hl39, hd40, rfl, r42⟩ := h26.elemF x33
   refine h_iaE (hA := hA38) (hj := (Int.toNat_of_nonneg p34).symm) (hlt := hl39) rfl rfl rfl rfl ?_
   refine h_ldC (hc := fun w' ⟨O', hq⟩ => cat0 (cellsAt_agree (hq.agree (i := 2) (by decide)) hF41 hd40)) rfl rfl rfl ?_
   refine h_mv rfl rfl rfl (h_mv rfl rfl rfl ?_)
   obtain ⟨a43, e44, hf17⟩ := bs hf17
   obtain ⟨p46, x45⟩ := atI_some' e44
   obtain ⟨b47, o48, ce49, hA50, hF53, hl51, hd52, rfl, r54⟩ := h26.elemF x45
   refine h_iaE (hA := hA50) (hj := (Int.toNat_of_nonneg p46).symm) (hlt := hl51) rfl rfl rfl rfl ?_
   refine h_ldC (hc := fun w' ⟨O', hq⟩ => cat0 (cellsAt_agree (hq.agree (i := 2) (by decide)) hF53 hd52)) rfl rfl rfl ?_
   obtain ⟨a55, e56, hf17⟩ := bs hf17
   obtain ⟨p58, x57⟩ := atI_some' e56
   obtain ⟨b59, o60, ce61, hA62, hF65, hl63, hd64, rfl, r66⟩ := h26.elemF x57
   refine h_iaE (hA := hA62) (hj := (Int.toNat_of_nonneg p58).symm) (hlt := hl63) rfl rfl rfl rfl ?_
   refine hwp_nilT ?_
   refine x_pre (fuel := 3) [2] [(2, true), (3, true)] (by kernel_rfl) rfl ?_
   refine h_mv rfl rfl rfl (h_mv rfl rfl rfl (hwp_nilT ?_))
   refine x_one (i := 13) (by kernel_rfl) rfl ?_
   refine l_setE rfl h26 (a := a31) (vInt r42) hA62 rfl rfl (lt_of_get x57) fun w67 S68 h26 => ?_
   have hZ := S68.lst [2] (fun _ h => by cases h; decide)
   refine x_go [] hZ (by kernel_rfl) ?_
   refine x_pre (fuel := 1) [] [(14, true)] (by kernel_rfl) rfl ?_
   obtain ⟨a69, e70, hf17⟩ := bs hf17
   obtain ⟨p72, x71⟩ := atI_some' e70
   obtain ⟨b73, o74, ce75, hA76, hF79, hl77, hd78, rfl, r80⟩ := h26.elemF x71
   refine h_iaE (hA := hA76) (hj := (Int.toNat_of_nonneg p72).symm) (hlt := hl77) rfl rfl rfl rfl ?_
   refine hwp_nilT ?_
   refine x_one (i := 15) (by kernel_rfl) rfl ?_
   refine l_setE rfl h26 (a := a43) (vInt r54) hA76 rfl rfl (lt_of_get x71) fun w81 S82 h26 => ?_
   refine x_end (by kernel_rfl) ?_
   refine x_nil (by kernel_rfl) ?_
   refine ewp_region (o_mv rfl rfl ?_)
   obtain ⟨n83, e84, hf17⟩ := bs hf17
   have r85 := (chkI_rng e84)
   refine o_adE (he := e84) rfl rfl rfl ?_
   refine o_mv rfl rfl ?_
   obtain ⟨n86, e87, hf17⟩ := bs hf17
   have r88 := (chkI_rng e87)
   refine o_sbE (he := e87) rfl rfl rfl ?_
   refine o_as rfl rfl (o_as rfl rfl (o_z ?_))
   obtain rfl := sm hf17
   refine (?_ : Exists _)
   replace hB := (hB.st S68).st S82
   exact ⟨_, (), rfl, ⟨rfl, rfl, rfl, trivial⟩, _, hB, h26, r85, r88⟩
  ·
   replace hf17 := im hf17 c30
   refine o_z ?_
   refine ewp_false rfl (ewp_exit ?_)
   obtain rfl := sm hf17
   refine (?_ : Exists _)
   exact ⟨_, (), hbrk19 _ rfl, ⟨rfl, trivial⟩, _, hB, h26, r28, r29⟩
 rintro l89 w90 ⟨s93, x94, rfl, hs92, O91, hB, h26, r28, r29⟩
 replace hm := fin_done hm
 obtain rfl := sm hm
 obtain ⟨O', hS', hz, hl⟩ := hE.leave (fun q => if q = 2 then i0 else 0) rfl hB
 exact ret0n rfl  ⟨O', hS', (Rw.leave h26 hz (hl 2 (by decide) (by decide)) hx0.2.2)⟩
noncomputable def m_registry_Registry_Path (x0 : Reg) (x1 : Int) : Option ((List Int) × Err) :=
  bnd (m_registry_Registry_has x0 x1) fun q3 => if q3 = true then bnd (lop (ρ := (List Int) × Err) (fun (s14 : Int × (List Int)) => bnd (atI x0.entries s14.1) fun a48 => if a48.link.parent < 0 then (bnd (m_slices_Reverse_Lint_int s14.2) fun q74 => some (.ret (q74, (⟨0⟩ : Err)))) else (bnd (appI 8 s14.2 [a48.link.op]) fun u89 => if (x0.entries.length : Int) < (u89.length : Int) then (some (.ret (([] : List Int), (⟨21⟩ : Err)))) else (some (.next (a48.link.parent, u89))))) (x1, ([] : List Int))) fun res12 => fin res12 fun (_ : Int × (List Int)) => none else some (([] : List Int), (⟨1⟩ : Err))
theorem c_registry_Registry_Path {w : World} {O : Lab} {p0 i0 : Nat} {x0 : Reg} (hx0 : Ob i0 w O (.pointer (some ⟨p0, 0, none⟩)) x0) {x1 : Int} (rx1 : inI64 x1) {r : (List Int) × Err} (hm : m_registry_Registry_Path x0 x1 = some r) :
    Fn Try.prog 63 [(.pointer (some ⟨p0, 0, none⟩)), (.int .i64 x1)] w fun v w' => ∃ O', St (eT i0) w O w' O' ∧ ∃ v0 v1 : Value, Ob i0 w' O' (.pointer (some ⟨p0, 0, none⟩)) x0 ∧ v = .tuple #[v0, v1] ∧ Vb w' (Fr 0 w' O') v0 r.1 ∧ Vb w' (Fr 0 w' O') v1 r.2 := by
 obtain ⟨O0, hE, hz0, hl2⟩ := ent1 (w := w) (O := O) hx0.2
 have hx0' := Ob.leave hx0 hz0 hl2 (j := 2) (by decide)
 have hB : Bm w O0 w O0 := Bm.refl
 refine fn_enter Try.func63 rfl Try.ntmps63 rfl ?_
 unfold m_registry_Registry_Path at hm
 refine ewp_seq (ewp_region (o_as rfl rfl (o_as rfl rfl (o_z ?_))))
 refine ewp_seq (ewp_block (ewp_seq (ewp_region (o_mv rfl rfl (o_pn rfl rfl ?_)))))
 refine o_as rfl rfl (o_z ?_)
 refine ewp_false rfl (ewp_seq (ewp_region (o_mv rfl rfl (o_mv rfl rfl ?_))))
 obtain ⟨q3, e4, hm⟩ := bs hm
 refine l_callM (O := O0) (c_registry_Registry_has hx0' rx1 e4) rfl rfl fun v9 w5 O6 S7 h8 => ?_
 obtain ⟨h10, h11⟩ := h8
 obtain rfl := h11.bool
 cases q3
 case false =>
  replace hm := iF hm
  refine o_nf rfl rfl (o_as rfl rfl (o_z ?_))
  refine ewp_true rfl (ewp_seq (ewp_region (o_miE rfl rfl ?_)))
  refine o_as rfl rfl (o_as rfl rfl (o_z ?_))
  refine ewp_ret ?_
  obtain rfl := sm hm
  replace hB := hB.st S7
  obtain ⟨O', hS', hz, hl⟩ := hE.leave (fun q => if q = 2 then i0 else 0) rfl hB
  exact ret2 rfl (res_tmp rfl) (res_tmp rfl) ⟨O', hS', _, _, (Ob.leave h10 hz (hl 2 (by decide) (by decide)) hx0.2), rfl, (Vb.mono (Vb.nil _ _) hz), (vErr (by decide))⟩
 replace hm := iT hm
 refine o_nt rfl rfl (o_as rfl rfl (o_z ?_))
 refine ewp_false rfl (ewp_skip (ewp_seq (ewp_region (o_as rfl rfl (o_z ?_)))))
 obtain ⟨res12, hL13, hm⟩ := bs hm
 refine ewp_join (aft res12 (fun (s14 : Int × (List Int)) (x15 : (Option Addr × Nat)) => []) (fun s14 x15 w' => False)) ?_ ?_
 ·
  refine ewp_block ?_
  replace hB := hB.st S7
  refine ewp_lop (σ := Int × (List Int)) (X := (Option Addr × Nat)) hL13 (fun (s14 : Int × (List Int)) (x15 : (Option Addr × Nat)) => [(0, (.pointer (some ⟨p0, 0, none⟩))), (1, (.int .i64 s14.1)), (6, (.slice x15.1 s14.2.length x15.2))]) _ (fun s14 x15 w' => ∃ O' : Lab, Bm w O0 w' O' ∧ Ob 2 w' O' (.pointer (some ⟨p0, 0, none⟩)) x0 ∧ Rw 8 w' O' 3 (.slice x15.1 s14.2.length x15.2) s14.2 ∧ inI64 s14.1) _ (none, 0) ⟨O6, hB, h10, (Rw.nil 8 (by decide)), rx1⟩ ⟨rfl, rfl, rfl, trivial⟩ ?_
  rintro s14 x15 w18 cc20 ⟨O19, hB, h10, h31, r30⟩ hf22 hret23 hbrk24
  refine ewp_block (ewp_seq (ewp_region (o_mv rfl rfl (o_nc rfl rfl ?_))))
  obtain ⟨O33, v37, v40, v45, S34, ha36, h35, h38, h41, h46⟩ := Reg.opn h10 2 3 4 5 (by decide)
  obtain ⟨p39, rfl⟩ := h38.ptr
  obtain ⟨A42, c43, rfl⟩ := h41.form
  obtain ⟨p47, rfl⟩ := h46.mptr
  refine o_fa rfl rfl (o_ld (hc := Blk.cell (i := 1) (h35.1) rfl) rfl rfl ?_)
  refine o_mv rfl rfl ?_
  obtain ⟨a48, e49, hf22⟩ := bs hf22
  obtain ⟨p51, x50⟩ := atI_some' e49
  obtain ⟨b52, o53, ce54, hA55, hl56, hd57, v59, rfl, h60, r63, r64, r65⟩ := h41.elem x50
  obtain ⟨A61, c62, rfl⟩ := h60.form
  refine o_iaE (hA := hA55) (hj := (Int.toNat_of_nonneg p51).symm) (hlt := hl56) rfl rfl rfl ?_
  refine o_fa rfl rfl (o_la (hl := rfl) (hc := (cellsAt_part 1 3 hd57)) rfl rfl ?_)
  refine l_alloc 6 O33 rfl fun g66 w67 O68 S69 h70 => ?_
  refine l_store h70 rfl rfl rfl (Nat.le_of_ble_eq_true rfl) (by first | exact allOne rfl | simp [Value.cells, Value.oneCell', errV_one]) fun w71 S72 h70 => ?_
  replace h70 : Lc 6 w71 O68 g66 123 [(.int .i64 a48.link.parent), (.int .i64 a48.link.op), (.int .i64 a48.link.cost)] := h70
  refine o_z ?_
  refine ewp_seq (ewp_seq (ewp_region (o_fa rfl rfl (o_ld (hc := Blk.cell (i := 0) (h70.1) rfl) rfl rfl ?_))))
  refine o_ltS rfl rfl rfl (fun c73 => ?_) fun c73 => ?_
  ·
   replace hf22 := ip hf22 c73
   refine o_z ?_
   refine ewp_true rfl (ewp_seq (ewp_region (o_mv rfl rfl ?_)))
   obtain ⟨q74, e75, hf22⟩ := bs hf22
   replace h31 := ((h31.st S34).st S69).st S72
   refine l_callM (O := O68) (c_slices_Reverse_Lint_int h31 e75) rfl rfl fun v80 w76 O77 S78 h81 => ?_
   refine o_z ?_
   refine ewp_seq (ewp_region (o_mv rfl rfl (o_as rfl rfl (o_as rfl rfl (o_z ?_)))))
   refine ewp_ret ?_
   obtain ⟨O82, S83, h81⟩ := h81.freeze
   replace h35 := (((h35.st S69).st S72).st S78).st S83
   replace h38 := (((h38.st S69).st S72).st S78).st S83
   replace h41 := (((h41.st S69).st S72).st S78).st S83
   replace h46 := (((h46.st S69).st S72).st S78).st S83
   obtain ⟨O84, S85, hz87, ha88, h86⟩ := Reg.shut (x := x0) (l0 := 2) (l1 := 3) (l2 := 4) (l3 := 5) (by decide) h35 h38 h41 h46
   obtain rfl := sm hf22
   obtain rfl := hret23 _ rfl
   obtain rfl := sm (fin_ret hm)
   replace hB := (((((hB.st S34).st S69).st S72).st S78).st S83).st S85
   obtain ⟨O', hS', hz, hl⟩ := hE.leave (fun q => if q = 2 then i0 else 0) rfl hB
   replace h81 := h81.st S85
   exact ret2 rfl (res_tmp rfl) (res_tmp rfl) ⟨O', hS', _, _, (Ob.leave h86 hz (hl 2 (by decide) (by decide)) hx0.2), rfl, (Vb.mono h81 hz), (vErr (show inI64 0 from by decide))⟩
  ·
   replace hf22 := im hf22 c73
   refine o_z ?_
   refine ewp_false rfl (ewp_skip (ewp_seq (ewp_region (o_mv rfl rfl (o_fa rfl rfl (o_ld (hc := Blk.cell (i := 1) (h70.1) rfl) rfl rfl ?_))))))
   obtain ⟨u89, e90, hf22⟩ := bs hf22
   obtain ⟨e90, e91, e92⟩ := appI_some e90
   replace h31 := ((h31.st S34).st S69).st S72
   refine l_append1 rfl (a := a48.link.op) h31 (vInt r64) (fun _ => rfl) rfl (by decide) (by decide) e91 e92 ⟨rfl, rfl⟩ fun g93 A94 c95 w96 O97 S98 h99 => ?_
   rw [← e90] at h99 ⊢
   refine o_as rfl rfl (o_z ?_)
   refine ewp_seq (ewp_seq (ewp_region (o_mv rfl rfl (o_ln rfl rfl ?_))))
   have l102 : u89.length ≤ 9223372036854775807 := Nat.le_trans h99.len.2.1 h99.len.2.2
   have r101 : inI64 (u89.length : Int) := rngNat l102
   refine o_mv rfl rfl (o_nc rfl rfl (o_fa rfl rfl ?_))
   replace h35 := ((h35.st S69).st S72).st S98
   refine o_ld (hc := Blk.cell (i := 1) (h35.1) rfl) rfl rfl ?_
   refine o_ln rfl rfl ?_
   replace h41 := ((h41.st S69).st S72).st S98
   have l104 : x0.entries.length ≤ 9223372036854775807 := Nat.le_trans h41.len.2.1 h41.len.2.2
   have r103 : inI64 (x0.entries.length : Int) := rngNat l104
   refine o_gtS rfl rfl rfl (fun c105 => ?_) fun c105 => ?_
   ·
    replace hf22 := ip hf22 c105
    refine o_z ?_
    refine ewp_true rfl (ewp_seq (ewp_region (o_miE rfl rfl ?_)))
    refine o_as rfl rfl (o_as rfl rfl (o_z ?_))
    refine ewp_ret ?_
    replace h38 := ((h38.st S69).st S72).st S98
    replace h46 := ((h46.st S69).st S72).st S98
    obtain ⟨O106, S107, hz109, ha110, h108⟩ := Reg.shut (x := x0) (l0 := 2) (l1 := 3) (l2 := 4) (l3 := 5) (by decide) h35 h38 h41 h46
    obtain rfl := sm hf22
    obtain rfl := hret23 _ rfl
    obtain rfl := sm (fin_ret hm)
    replace hB := ((((hB.st S34).st S69).st S72).st S98).st S107
    obtain ⟨O', hS', hz, hl⟩ := hE.leave (fun q => if q = 2 then i0 else 0) rfl hB
    exact ret2 rfl (res_tmp rfl) (res_tmp rfl) ⟨O', hS', _, _, (Ob.leave h108 hz (hl 2 (by decide) (by decide)) hx0.2), rfl, (Vb.mono (Vb.nil _ _) hz), (vErr (by decide))⟩
   ·
    replace hf22 := im hf22 c105
    refine o_z ?_
    refine ewp_false rfl (ewp_skip (ewp_region (o_fa rfl rfl ?_)))
    replace h70 := h70.st S98
    refine o_ld (hc := Blk.cell (i := 0) (h70.1) rfl) rfl rfl ?_
    refine o_as rfl rfl (o_z ?_)
    replace h38 := ((h38.st S69).st S72).st S98
    replace h46 := ((h46.st S69).st S72).st S98
    obtain ⟨O111, S112, hz114, ha115, h113⟩ := Reg.shut (x := x0) (l0 := 2) (l1 := 3) (l2 := 4) (l3 := 5) (by decide) h35 h38 h41 h46
    obtain rfl := sm hf22
    refine (?_ : Exists _)
    replace hB := ((((hB.st S34).st S69).st S72).st S98).st S112
    replace h99 := h99.st S112
    exact ⟨_, (A94, c95), rfl, ⟨rfl, rfl, rfl, trivial⟩, _, hB, h113, h99, r63⟩
 rintro l116 w117 ⟨s120, x121, _, _, hE⟩
 exact hE.elim
end
section
open Go Go.RowKit
attribute [local irreducible] ewp owp hwp hwq hws Ev Evg Fn retPost loud loudS Res1
attribute [local irreducible] hwx loudX
structure Itm where
  cost : Int
  order : Int
  id : Int
instance : Rp Itm where
  isAgg := true
  size := 3
  R w F cs x := cs = [.int .i64 x.cost, .int .i64 x.order, .int .i64 x.id] ∧ inI64 x.cost ∧ inI64 x.order ∧ inI64 x.id
  len := by rintro w F cs x ⟨rfl, h0, h1, h2⟩; rfl
  one := by rintro w F cs x ⟨rfl, h0, h1, h2⟩ u hu; simp at hu; rcases hu with rfl | rfl | rfl <;> first | rfl | exact Vb.one rfl (by assumption)
  agree := by rintro w w' F cs x ⟨rfl, h0, h1, h2⟩ ha; exact ⟨rfl, h0, h1, h2⟩
  mono := by rintro w F G cs x ⟨rfl, h0, h1, h2⟩ ha; exact ⟨rfl, h0, h1, h2⟩
instance : TMth Try.prog 94 "Len" 47 false := ⟨by kernel_rfl⟩
instance : TMth Try.prog 94 "Less" 129 false := ⟨by kernel_rfl⟩
instance : TMth Try.prog 94 "Pop" 130 true := ⟨by kernel_rfl⟩
instance : TMth Try.prog 94 "Push" 131 true := ⟨by kernel_rfl⟩
instance : TMth Try.prog 94 "Swap" 132 false := ⟨by kernel_rfl⟩
noncomputable def m_breadth_queue_Len (x0 : List Itm) : Option Int :=
  some (x0.length : Int)
theorem c_breadth_queue_Len {w : World} {A : Nat → Prop} (hA : ∀ k, A k → k < w.heap.size) {vx0 : Value} {x0 : List Itm} (hx0 : Vb w A vx0 x0) {r : Int} (hm : m_breadth_queue_Len x0 = some r) :
    Fn Try.prog 47 [vx0] w fun v w' => Ext w w' ∧ Vb w' (upA A w w') v r := by
 obtain ⟨O, hB, hA0⟩ := enter hA
 replace hx0 := hx0.mono hA0
 obtain ⟨A2, c3, rfl⟩ := hx0.form
 refine fn_enter Try.func47 rfl Try.ntmps47 rfl ?_
 unfold m_breadth_queue_Len at hm
 refine ewp_seq (ewp_region (o_as rfl rfl (o_z ?_)))
 refine ewp_seq (ewp_region (o_mv rfl rfl (o_ln rfl rfl ?_)))
 have l5 : x0.length ≤ 9223372036854775807 := Nat.le_trans hx0.len.2.1 hx0.len.2.2
 have r4 : inI64 (x0.length : Int) := rngNat l5
 refine o_as rfl rfl (o_z ?_)
 refine ewp_ret ?_
 obtain rfl := sm hm
 exact ret1v rfl (res_tmp rfl) ⟨hB.ext, (vInt r4)⟩
noncomputable def m_breadth_queue_Less (x0 : List Itm) (x1 : Int) (x2 : Int) : Option Bool :=
  bnd (bnd (atI x0 x1) fun a10 => bnd (atI x0 x2) fun a24 => if a10.cost < a24.cost then (some true) else (bnd (atI x0 x1) fun a39 => bnd (atI x0 x2) fun a53 => if a39.cost = a53.cost then (bnd (atI x0 x1) fun a68 => bnd (atI x0 x2) fun a82 => if a68.order < a82.order then (some true) else (some false)) else (some false)) : Option Bool) fun y6 => some y6
theorem c_breadth_queue_Less {w : World} {A : Nat → Prop} (hA : ∀ k, A k → k < w.heap.size) {vx0 : Value} {x0 : List Itm} (hx0 : Vb w A vx0 x0) {x1 : Int} (rx1 : inI64 x1) {x2 : Int} (rx2 : inI64 x2) {r : Bool} (hm : m_breadth_queue_Less x0 x1 x2 = some r) :
    Fn Try.prog 129 [vx0, (.int .i64 x1), (.int .i64 x2)] w fun v w' => Ext w w' ∧ Vb w' (upA A w w') v r := by
 obtain ⟨O, hB, hA0⟩ := enter hA
 replace hx0 := hx0.mono hA0
 obtain ⟨A4, c5, rfl⟩ := hx0.form
 refine fn_enter Try.func129 rfl Try.ntmps129 rfl ?_
 unfold m_breadth_queue_Less at hm
 refine ewp_seq (ewp_region (o_as rfl rfl (o_z ?_)))
 refine ewp_seq ?_
 obtain ⟨y6, hy7, hm⟩ := bs hm
 refine ewp_join (fun l' w' => ∃ (x9 : Unit) (O' : Lab), subs l' [(6, (.bool y6))] ∧ Bs w A w' O') ?_ ?_
 ·
  refine ewp_draw (· = w) [(0, true), (1, true), (2, true), (3, true), (4, true), (5, true), (6, true), (7, true), (8, true), (9, true), (10, true), (11, true), (12, true), (13, true), (14, true), (15, true), (16, true), (17, true), (18, true), (19, true), (20, true), (21, true), (22, true), (23, true), (24, true), (25, true), (26, true), (27, true), (28, true), (29, true), (30, true), (31, true), (32, true), (33, true), (34, true), (35, true), (36, true), (37, true)] (by kernel_rfl) rfl (by kernel_rfl) rfl ?_
  refine h_mv rfl rfl rfl (h_mv rfl rfl rfl ?_)
  obtain ⟨a10, e11, hy7⟩ := bs hy7
  obtain ⟨p13, x12⟩ := atI_some' e11
  obtain ⟨b14, o15, ce16, hA17, hl18, hd19, rfl, r21, r22, r23⟩ := hx0.elem' x12
  refine h_iaE (hA := hA17) (hj := (Int.toNat_of_nonneg p13).symm) (hlt := hl18) rfl rfl rfl rfl ?_
  refine h_fa rfl rfl rfl (h_ldA (hc := cat0 hd19) rfl rfl rfl ?_)
  refine h_mv rfl rfl rfl (h_mv rfl rfl rfl ?_)
  obtain ⟨a24, e25, hy7⟩ := bs hy7
  obtain ⟨p27, x26⟩ := atI_some' e25
  obtain ⟨b28, o29, ce30, hA31, hl32, hd33, rfl, r35, r36, r37⟩ := hx0.elem' x26
  refine h_iaE (hA := hA31) (hj := (Int.toNat_of_nonneg p27).symm) (hlt := hl32) rfl rfl rfl rfl ?_
  refine h_fa rfl rfl rfl (h_ldA (hc := cat0 hd33) rfl rfl rfl ?_)
  refine h_ltS rfl rfl rfl rfl (fun c38 => ?_) fun c38 => ?_
  ·
   replace hy7 := ip hy7 c38
   refine h_mv rfl rfl rfl (h_no rfl rfl rfl rfl rfl (h_no rfl rfl rfl rfl rfl (h_no rfl rfl rfl rfl rfl (h_no rfl rfl rfl rfl rfl (h_no rfl rfl rfl rfl rfl (h_no rfl rfl rfl rfl rfl (h_no rfl rfl rfl rfl rfl (h_no rfl rfl rfl rfl rfl (h_no rfl rfl rfl rfl rfl (h_no rfl rfl rfl rfl rfl (h_no rfl rfl rfl rfl rfl (h_no rfl rfl rfl rfl rfl (h_no rfl rfl rfl rfl rfl (h_no rfl rfl rfl rfl rfl ?_))))))))))))))
   refine h_no rfl rfl rfl rfl rfl (h_no rfl rfl rfl rfl rfl (h_no rfl rfl rfl rfl rfl (h_no rfl rfl rfl rfl rfl (h_no rfl rfl rfl rfl rfl (h_no rfl rfl rfl rfl rfl (h_no rfl rfl rfl rfl rfl (h_no rfl rfl rfl rfl rfl (h_no rfl rfl rfl rfl rfl (h_no rfl rfl rfl rfl rfl (h_pt rfl rfl rfl rfl (h_as rfl rfl rfl (h_z ?_))))))))))))
   obtain rfl := sm hy7
   exact ⟨(), _, ⟨rfl, trivial⟩, hB⟩
  ·
   replace hy7 := im hy7 c38
   refine h_mv rfl rfl rfl (hwp_o rfl (hwq_yes rfl rfl (g_mv rfl rfl (hwp_o rfl (hwq_yes rfl rfl (g_mv rfl rfl (hwp_o rfl (hwq_yes rfl rfl ?_))))))))
   obtain ⟨a39, e40, hy7⟩ := bs hy7
   obtain ⟨p42, x41⟩ := atI_some' e40
   obtain ⟨b43, o44, ce45, hA46, hl47, hd48, rfl, r50, r51, r52⟩ := hx0.elem' x41
   refine g_iaE (hA := hA46) (hj := (Int.toNat_of_nonneg p42).symm) (hlt := hl47) rfl rfl rfl ?_
   refine hwp_o rfl (hwq_yes rfl rfl (g_fa rfl rfl (hwp_o rfl (hwq_yes rfl rfl (g_ldA (hc := cat0 hd48) rfl rfl ?_)))))
   refine hwp_o rfl (hwq_yes rfl rfl (g_mv rfl rfl (hwp_o rfl (hwq_yes rfl rfl (g_mv rfl rfl (hwp_o rfl (hwq_yes rfl rfl ?_)))))))
   obtain ⟨a53, e54, hy7⟩ := bs hy7
   obtain ⟨p56, x55⟩ := atI_some' e54
   obtain ⟨b57, o58, ce59, hA60, hl61, hd62, rfl, r64, r65, r66⟩ := hx0.elem' x55
   refine g_iaE (hA := hA60) (hj := (Int.toNat_of_nonneg p56).symm) (hlt := hl61) rfl rfl rfl ?_
   refine hwp_o rfl (hwq_yes rfl rfl (g_fa rfl rfl (hwp_o rfl (hwq_yes rfl rfl (g_ldA (hc := cat0 hd62) rfl rfl ?_)))))
   refine hwp_o rfl (hwq_yes rfl rfl (hwq_split (fun _ _ => ev_eql rfl rfl) rfl (fun c67 => ?_) (fun c67 => ?_)))
   ·
    replace hy7 := ip hy7 c67
    refine hwp_o rfl (hwq_yes rfl rfl (g_mv rfl rfl (hwp_o rfl (hwq_yes rfl rfl (g_mv rfl rfl (hwp_o rfl (hwq_yes rfl rfl (g_mv rfl rfl (hwp_o rfl (hwq_yes rfl rfl ?_))))))))))
    obtain ⟨a68, e69, hy7⟩ := bs hy7
    obtain ⟨p71, x70⟩ := atI_some' e69
    obtain ⟨b72, o73, ce74, hA75, hl76, hd77, rfl, r79, r80, r81⟩ := hx0.elem' x70
    refine g_iaE (hA := hA75) (hj := (Int.toNat_of_nonneg p71).symm) (hlt := hl76) rfl rfl rfl ?_
    refine hwp_o rfl (hwq_yes rfl rfl (g_fa rfl rfl (hwp_o rfl (hwq_yes rfl rfl (g_ldA (hc := cat1 hd77) rfl rfl ?_)))))
    refine hwp_o rfl (hwq_yes rfl rfl (g_mv rfl rfl (hwp_o rfl (hwq_yes rfl rfl (g_mv rfl rfl (hwp_o rfl (hwq_yes rfl rfl ?_)))))))
    obtain ⟨a82, e83, hy7⟩ := bs hy7
    obtain ⟨p85, x84⟩ := atI_some' e83
    obtain ⟨b86, o87, ce88, hA89, hl90, hd91, rfl, r93, r94, r95⟩ := hx0.elem' x84
    refine g_iaE (hA := hA89) (hj := (Int.toNat_of_nonneg p85).symm) (hlt := hl90) rfl rfl rfl ?_
    refine hwp_o rfl (hwq_yes rfl rfl (g_fa rfl rfl (hwp_o rfl (hwq_yes rfl rfl (g_ldA (hc := cat1 hd91) rfl rfl ?_)))))
    refine hwp_o rfl (hwq_yes rfl rfl (hwq_split (fun _ _ => ev_lss rfl rfl) rfl (fun c96 => ?_) (fun c96 => ?_)))
    ·
     replace hy7 := ip hy7 c96
     refine hwp_o rfl (hwq_yes rfl rfl (g_pt rfl rfl rfl (h_pf rfl rfl rfl rfl (h_as rfl rfl rfl (h_z ?_)))))
     obtain rfl := sm hy7
     exact ⟨(), _, ⟨rfl, trivial⟩, hB⟩
    ·
     replace hy7 := im hy7 c96
     refine hwp_o rfl (hwq_yes rfl rfl (g_pt rfl rfl rfl (h_pf rfl rfl rfl rfl (h_as rfl rfl rfl (h_z ?_)))))
     obtain rfl := sm hy7
     exact ⟨(), _, ⟨rfl, trivial⟩, hB⟩
   ·
    replace hy7 := im hy7 c67
    refine hwp_o rfl (hwq_yes rfl rfl (g_mv rfl rfl (h_no rfl rfl rfl rfl rfl (h_no rfl rfl rfl rfl rfl (h_no rfl rfl rfl rfl rfl (h_no rfl rfl rfl rfl rfl (h_no rfl rfl rfl rfl rfl (h_no rfl rfl rfl rfl rfl (h_no rfl rfl rfl rfl rfl (h_no rfl rfl rfl rfl rfl (h_no rfl rfl rfl rfl rfl (h_no rfl rfl rfl rfl rfl (h_no rfl rfl rfl rfl rfl (hwp_o rfl ?_))))))))))))))
    refine hwq_yes rfl rfl (g_pf rfl rfl rfl (h_pf rfl rfl rfl rfl (h_as rfl rfl rfl (h_z ?_))))
    obtain rfl := sm hy7
    exact ⟨(), _, ⟨rfl, trivial⟩, hB⟩
 rintro l97 w98 ⟨x9, O99, hs100, hB⟩
 refine ewp_sub _ hs100 ?_
 refine ewp_ret ?_
 obtain rfl := sm hm
 exact ret1v rfl (res_tmp rfl) ⟨hB.ext, vBool⟩
noncomputable def m_breadth_queue_Swap (x0 : List Itm) (x1 : Int) (x2 : Int) : Option (List Itm) :=
  bnd (atI x0 x2) fun a4 => bnd (atI x0 x1) fun a18 => bnd (atI x0 x1) fun a32 => bnd (atI (x0.set (x1 : Int).toNat a4) x2) fun a48 => some ((x0.set (x1 : Int).toNat a4).set (x2 : Int).toNat a18)
theorem c_breadth_queue_Swap {w : World} {O : Lab} {A0 : Option Addr} {m0 c0 i0 : Nat} {x0 : List Itm} (hx0 : Rw i0 w O 96 (.slice A0 m0 c0) x0) {x1 : Int} (rx1 : inI64 x1) {x2 : Int} (rx2 : inI64 x2) {r : (List Itm)} (hm : m_breadth_queue_Swap x0 x1 x2 = some r) :
    Fn Try.prog 132 [(.slice A0 m0 c0), (.int .i64 x1), (.int .i64 x2)] w fun v w' => ∃ O', St (eT i0) w O w' O' ∧ Rw i0 w' O' 96 (.slice A0 m0 c0) r := by
 obtain ⟨O0, hE, hz0, hl2⟩ := ent1 (w := w) (O := O) hx0.2.2
 obtain rfl : m0 = x0.length := hx0.len.1
 have hx0' := Rw.leave hx0 hz0 hl2 (j := 2) (by decide)
 have hB : Bm w O0 w O0 := Bm.refl
 refine fn_enter Try.func132 rfl Try.ntmps132 rfl ?_
 unfold m_breadth_queue_Swap at hm
 refine ewp_drawX [(13, [2])] O0 ?_
 refine x_pre (fuel := 5) [] [(0, true), (1, true), (4, true), (5, true), (6, true), (7, true), (8, true), (9, true), (10, true), (11, true), (12, true)] (by kernel_rfl) rfl ?_
 refine h_mv rfl rfl rfl (h_mv rfl rfl rfl (h_mv rfl rfl rfl (h_mv rfl rfl rfl ?_)))
 obtain ⟨a4, e5, hm⟩ := bs hm
 obtain ⟨p7, x6⟩ := atI_some' e5
 obtain ⟨b8, o9, ce10, hA11, hF14, hl12, hd13, rfl, r15, r16, r17⟩ := hx0'.elemF x6
 refine h_iaE (hA := hA11) (hj := (Int.toNat_of_nonneg p7).symm) (hlt := hl12) rfl rfl rfl rfl ?_
 refine h_laB (hl := rfl) (hb := fun w' ⟨O', hq⟩ => (cellsAt_agree (hq.agree (i := 2) (by decide)) hF14 hd13)) rfl rfl rfl ?_
 refine h_mv rfl rfl rfl (h_mv rfl rfl rfl ?_)
 obtain ⟨a18, e19, hm⟩ := bs hm
 obtain ⟨p21, x20⟩ := atI_some' e19
 obtain ⟨b22, o23, ce24, hA25, hF28, hl26, hd27, rfl, r29, r30, r31⟩ := hx0'.elemF x20
 refine h_iaE (hA := hA25) (hj := (Int.toNat_of_nonneg p21).symm) (hlt := hl26) rfl rfl rfl rfl ?_
 refine h_laB (hl := rfl) (hb := fun w' ⟨O', hq⟩ => (cellsAt_agree (hq.agree (i := 2) (by decide)) hF28 hd27)) rfl rfl rfl ?_
 obtain ⟨a32, e33, hm⟩ := bs hm
 obtain ⟨p35, x34⟩ := atI_some' e33
 obtain ⟨b36, o37, ce38, hA39, hF42, hl40, hd41, rfl, r43, r44, r45⟩ := hx0'.elemF x34
 refine h_iaE (hA := hA39) (hj := (Int.toNat_of_nonneg p35).symm) (hlt := hl40) rfl rfl rfl rfl ?_
 refine hwp_nilT ?_
 refine x_pre (fuel := 3) [2] [(2, true), (3, true)] (by kernel_rfl) rfl ?_
 refine h_mv rfl rfl rfl (h_mv rfl rfl rfl (hwp_nilT ?_))
 refine x_one (i := 13) (by kernel_rfl) rfl ?_
 refine l_setE rfl hx0' (a := a4) (Vb.ofAgg (cs := [(.int .i64 a4.cost), (.int .i64 a4.order), (.int .i64 a4.id)]) (x := a4) rfl ⟨rfl, r15, r16, r17⟩) hA39 rfl rfl (lt_of_get x34) fun w46 S47 hx0' => ?_
 have hZ := S47.lst [2] (fun _ h => by cases h; decide)
 refine x_go [] hZ (by kernel_rfl) ?_
 refine x_pre (fuel := 1) [] [(14, true)] (by kernel_rfl) rfl ?_
 obtain ⟨a48, e49, hm⟩ := bs hm
 obtain ⟨p51, x50⟩ := atI_some' e49
 obtain ⟨b52, o53, ce54, hA55, hF58, hl56, hd57, rfl, r59, r60, r61⟩ := hx0'.elemF x50
 refine h_iaE (hA := hA55) (hj := (Int.toNat_of_nonneg p51).symm) (hlt := hl56) rfl rfl rfl rfl ?_
 refine hwp_nilT ?_
 refine x_one (i := 15) (by kernel_rfl) rfl ?_
 refine l_setE rfl hx0' (a := a18) (Vb.ofAgg (cs := [(.int .i64 a18.cost), (.int .i64 a18.order), (.int .i64 a18.id)]) (x := a18) rfl ⟨rfl, r29, r30, r31⟩) hA55 rfl rfl (lt_of_get x50) fun w62 S63 hx0' => ?_
 refine x_end (by kernel_rfl) ?_
 refine x_nil (by kernel_rfl) ?_
 obtain rfl := sm hm
 replace hB := (hB.st S47).st S63
 obtain ⟨O', hS', hz, hl⟩ := hE.leave (fun q => if q = 2 then i0 else 0) rfl hB
 exact ret0n rfl  ⟨O', hS', (Rw.leave hx0' hz (hl 2 (by decide) (by decide)) hx0.2.2)⟩
noncomputable def m_breadth_queue_Push (x0 : BxR 98 96 Itm) (x1 : An 96 Itm) : Option (BxR 98 96 Itm) :=
  bnd (appI 24 x0.l [x1.x]) fun u31 => some (⟨u31⟩ : BxR 98 96 Itm)
theorem c_breadth_queue_Push {w : World} {O : Lab} {p0 i0 : Nat} {x0 : BxR 98 96 Itm} (hx0 : Ob i0 w O (.pointer (some ⟨p0, 0, none⟩)) x0) {vx1 : Value} {x1 : An 96 Itm} (hx1 : Vb w (Fr 0 w O) vx1 x1) {r : (BxR 98 96 Itm)} (hm : m_breadth_queue_Push x0 x1 = some r) :
    Fn Try.prog 131 [(.pointer (some ⟨p0, 0, none⟩)), vx1] w fun v w' => ∃ O', St (eT i0) w O w' O' ∧ Ob i0 w' O' (.pointer (some ⟨p0, 0, none⟩)) r := by
 obtain ⟨O0, hE, hz0, hl2⟩ := ent1 (w := w) (O := O) hx0.2
 have hx0' := Ob.leave hx0 hz0 hl2 (j := 2) (by decide)
 have hB : Bm w O0 w O0 := Bm.refl
 replace hx1 := hx1.mono hz0
 obtain ⟨v3, rfl, h4⟩ := hx1.any
 obtain ⟨cs5, rfl, rfl, r6, r7, r8⟩ := h4
 refine fn_enter Try.func131 rfl Try.ntmps131 rfl ?_
 unfold m_breadth_queue_Push at hm
 refine ewp_seq (ewp_region (o_mv rfl rfl (o_taA rfl rfl ?_)))
 refine o_mv rfl rfl (o_ex rfl rfl rfl (o_ex rfl rfl rfl (l_alloc 3 O0 rfl fun g9 w10 O11 S12 h13 => ?_)))
 refine l_store h13 rfl rfl rfl (Nat.le_of_ble_eq_true rfl) (by first | exact allOne rfl | simp [Value.cells, Value.oneCell', errV_one]) fun w14 S15 h13 => ?_
 replace h13 : Lc 3 w14 O11 g9 96 [(.int .i64 x1.x.cost), (.int .i64 x1.x.order), (.int .i64 x1.x.id)] := h13
 refine o_as rfl rfl (o_z ?_)
 refine ewp_seq (ewp_region (o_mv rfl rfl (o_z ?_)))
 refine ewp_true rfl ?_
 replace hx0' := (hx0'.st S12).st S15
 obtain ⟨O16, v20, S17, ha19, h18, h21⟩ := BxR.opn hx0' 2 4 (by decide)
 obtain ⟨A22, c23, rfl⟩ := h21.form
 refine ewp_drawX [(5, []), (6, [4])] O16 ?_
 refine x_pre (fuel := 5) [] [(1, true), (2, true), (3, true), (4, true)] (by kernel_rfl) rfl ?_
 refine h_mv rfl rfl rfl (h_nc rfl rfl rfl (h_ldC (hc := fun w' ⟨O', hq⟩ => Blk.cell (i := 0) ((h18.st hq (by decide)).1) rfl) rfl rfl rfl ?_))
 replace h13 := h13.st S17
 refine h_laB (hl := rfl) (hb := fun w' ⟨O', hq⟩ => ((h13.st hq (by decide)).1).cellsAt) rfl rfl rfl ?_
 refine hwp_nilT ?_
 refine x_pre (fuel := 4) [4] [(0, true)] (by kernel_rfl) rfl ?_
 refine h_mv rfl rfl rfl (hwp_nilT ?_)
 refine x_one (i := 5) (by kernel_rfl) rfl ?_
 refine l_bslice 5 (by decide) O16 (xs := ([x1.x] : List Itm)) rfl rfl rfl rfl ⟨(Vb.ofAgg (cs := [(.int .i64 x1.x.cost), (.int .i64 x1.x.order), (.int .i64 x1.x.id)]) (x := x1.x) rfl ⟨rfl, r6, r7, r8⟩), trivial⟩ (by decide) (by decide) rfl fun g25 w26 O27 S28 h29 => ?_
 have hZ := S28.lst [] (fun _ h => h.elim)
 refine x_go [(6, [4])] hZ (by kernel_rfl) ?_
 refine x_one (i := 6) (by kernel_rfl) rfl ?_
 obtain ⟨u31, e32, hm⟩ := bs hm
 obtain ⟨e32, e33, e34⟩ := appI_some e32
 replace h21 := h21.st S28
 refine l_append rfl h21 (h29.rd) rfl rfl (by decide) e33 e34 rfl fun A35 c36 w37 O38 S39 h40 => ?_
 rw [← e32] at h40 ⊢
 have hZ := S39.lst [4] (fun _ h => by cases h; decide)
 refine x_go [] hZ (by kernel_rfl) ?_
 refine x_pre (fuel := 1) [] [(7, true)] (by kernel_rfl) rfl ?_
 refine h_nc rfl rfl rfl (hwp_nilT ?_)
 refine x_one (i := 8) (by kernel_rfl) rfl ?_
 replace h18 := (h18.st S28).st S39
 refine l_store h18 rfl rfl rfl (Nat.le_of_ble_eq_true rfl) (by first | exact allOne rfl | simp [Value.cells, Value.oneCell', errV_one]) fun w42 S43 h18 => ?_
 replace h18 : Lc 2 w42 O38 p0 98 [(.slice A35 u31.length c36)] := h18
 refine x_end (by kernel_rfl) ?_
 refine x_nil (by kernel_rfl) ?_
 replace h40 := h40.st S43
 obtain ⟨O44, S45, hz47, ha48, h46⟩ := BxR.shut (x := (⟨u31⟩ : BxR 98 96 Itm)) (l0 := 2) (l1 := 4) (by decide) h18 h40
 obtain rfl := sm hm
 replace hB := ((((((hB.st S12).st S15).st S17).st S28).st S39).st S43).st S45
 obtain ⟨O', hS', hz, hl⟩ := hE.leave (fun q => if q = 2 then i0 else 0) rfl hB
 exact ret0n rfl  ⟨O', hS', (Ob.leave h46 hz (hl 2 (by decide) (by decide)) hx0.2)⟩
noncomputable def m_breadth_queue_Pop (x0 : BxR 98 96 Itm) : Option ((An 96 Itm) × (BxR 98 96 Itm)) :=
  bnd (chkI ((x0.l.length : Int) - 1)) fun n13 => bnd (atI x0.l n13) fun a16 => bnd (cutI x0.l 0 n13) fun u37 => some ((⟨a16⟩ : An 96 Itm), (⟨u37⟩ : BxR 98 96 Itm))
theorem c_breadth_queue_Pop {w : World} {O : Lab} {p0 i0 : Nat} {x0 : BxR 98 96 Itm} (hx0 : Ob i0 w O (.pointer (some ⟨p0, 0, none⟩)) x0) {r : (An 96 Itm) × (BxR 98 96 Itm)} (hm : m_breadth_queue_Pop x0 = some r) :
    Fn Try.prog 130 [(.pointer (some ⟨p0, 0, none⟩))] w fun v w' => ∃ O', St (eT i0) w O w' O' ∧ Ob i0 w' O' (.pointer (some ⟨p0, 0, none⟩)) r.2 ∧ Vb w' (Fr 0 w' O') v r.1 := by
 obtain ⟨O0, hE, hz0, hl2⟩ := ent1 (w := w) (O := O) hx0.2
 have hx0' := Ob.leave hx0 hz0 hl2 (j := 2) (by decide)
 have hB : Bm w O0 w O0 := Bm.refl
 refine fn_enter Try.func130 rfl Try.ntmps130 rfl ?_
 unfold m_breadth_queue_Pop at hm
 refine ewp_seq (ewp_region (o_as rfl rfl (o_z ?_)))
 refine ewp_seq (ewp_region (o_mv rfl rfl (o_nc rfl rfl ?_)))
 obtain ⟨O2, v6, S3, ha5, h4, h7⟩ := BxR.opn hx0' 2 3 (by decide)
 obtain ⟨A8, c9, rfl⟩ := h7.form
 refine o_ld (hc := Blk.cell (i := 0) (h4.1) rfl) rfl rfl ?_
 refine o_ln rfl rfl ?_
 have l12 : x0.l.length ≤ 9223372036854775807 := Nat.le_trans h7.len.2.1 h7.len.2.2
 have r11 : inI64 (x0.l.length : Int) := rngNat l12
 obtain ⟨n13, e14, hm⟩ := bs hm
 have r15 := (chkI_rng e14)
 refine o_sbE (he := e14) rfl rfl rfl ?_
 refine o_as rfl rfl (o_z ?_)
 refine ewp_seq (ewp_region (o_mv rfl rfl (o_nc rfl rfl (o_ld (hc := Blk.cell (i := 0) (h4.1) rfl) rfl rfl ?_))))
 refine o_mv rfl rfl ?_
 obtain ⟨a16, e17, hm⟩ := bs hm
 obtain ⟨p19, x18⟩ := atI_some' e17
 obtain ⟨b20, o21, ce22, hA23, hl24, hd25, rfl, r27, r28, r29⟩ := h7.elem x18
 refine o_iaE (hA := hA23) (hj := (Int.toNat_of_nonneg p19).symm) (hlt := hl24) rfl rfl rfl ?_
 refine o_la (hl := rfl) (hc := hd25) rfl rfl ?_
 refine l_alloc 4 O2 rfl fun g30 w31 O32 S33 h34 => ?_
 refine l_store h34 rfl rfl rfl (Nat.le_of_ble_eq_true rfl) (by first | exact allOne rfl | simp [Value.cells, Value.oneCell', errV_one]) fun w35 S36 h34 => ?_
 replace h34 : Lc 4 w35 O32 g30 96 [(.int .i64 a16.cost), (.int .i64 a16.order), (.int .i64 a16.id)] := h34
 refine o_z ?_
 refine ewp_seq (ewp_region (o_mv rfl rfl (o_mv rfl rfl (o_nc rfl rfl ?_))))
 replace h4 := (h4.st S33).st S36
 refine o_ld (hc := Blk.cell (i := 0) (h4.1) rfl) rfl rfl ?_
 refine o_mv rfl rfl ?_
 obtain ⟨u37, e38, hm⟩ := bs hm
 replace h7 := (h7.st S33).st S36
 obtain ⟨h39, e40⟩ := cutRw h7 e38
 refine o_cutH (hc := e40) rfl rfl rfl ?_
 refine o_nc rfl rfl (l_store h4 rfl rfl rfl (Nat.le_of_ble_eq_true rfl) (by first | exact allOne rfl | simp [Value.cells, Value.oneCell', errV_one]) fun w42 S43 h4 => ?_)
 replace h4 : Lc 2 w42 O32 p0 98 [(.slice A8 u37.length c9)] := h4
 refine o_z ?_
 refine ewp_seq (ewp_region ?_)
 replace h34 := h34.st S43
 refine o_la (hl := rfl) (hc := (h34.1).cellsAt) rfl rfl ?_
 refine o_miA rfl rfl ?_
 refine o_as rfl rfl (o_z ?_)
 refine ewp_ret ?_
 replace h39 := h39.st S43
 obtain ⟨O44, S45, hz47, ha48, h46⟩ := BxR.shut (x := (⟨u37⟩ : BxR 98 96 Itm)) (l0 := 2) (l1 := 3) (by decide) h4 h39
 obtain rfl := sm hm
 replace hB := ((((hB.st S3).st S33).st S36).st S43).st S45
 obtain ⟨O', hS', hz, hl⟩ := hE.leave (fun q => if q = 2 then i0 else 0) rfl hB
 exact ret1v rfl (res_tmp rfl) ⟨O', hS', (Ob.leave h46 hz (hl 2 (by decide) (by decide)) hx0.2), (vAny (Vb.ofAgg (cs := [(.int .i64 a16.cost), (.int .i64 a16.order), (.int .i64 a16.id)]) (x := a16) rfl ⟨rfl, r27, r28, r29⟩))⟩
noncomputable def m_container_heap_up (x0 : BxR 98 96 Itm) (x1 : Int) : Option (BxR 98 96 Itm) :=
  bnd (lop (ρ := (BxR 98 96 Itm)) (fun (s5 : Int × (BxR 98 96 Itm)) => bnd (chkI (s5.1 - 1)) fun n22 => bnd (quoT n22 2) fun n25 => bnd (if n25 = s5.1 then (some true) else (bnd (m_breadth_queue_Less s5.2.l s5.1 n25) fun q42 => if q42 = true then some false else some true) : Option Bool) fun y28 => if y28 = true then (some (.brk (s5.1, s5.2))) else (bnd (m_breadth_queue_Swap s5.2.l n25 s5.1) fun q73 => some (.next (n25, (⟨q73⟩ : BxR 98 96 Itm))))) (x1, x0)) fun res3 => fin res3 fun (s90 : Int × (BxR 98 96 Itm)) => some s90.2
theorem c_container_heap_up {w : World} {O : Lab} {p0 i0 : Nat} {x0 : BxR 98 96 Itm} (hx0 : Ob i0 w O (.pointer (some ⟨p0, 0, none⟩)) x0) {x1 : Int} (rx1 : inI64 x1) {r : (BxR 98 96 Itm)} (hm : m_container_heap_up x0 x1 = some r) :
    Fn Try.prog 68 [(.iface 94 (.pointer (some ⟨p0, 0, none⟩))), (.int .i64 x1)] w fun v w' => ∃ O', St (eT i0) w O w' O' ∧ Ob i0 w' O' (.pointer (some ⟨p0, 0, none⟩)) r := by
 obtain ⟨O0, hE, hz0, hl2⟩ := ent1 (w := w) (O := O) hx0.2
 have hx0' := Ob.leave hx0 hz0 hl2 (j := 2) (by decide)
 have hB : Bm w O0 w O0 := Bm.refl
 refine fn_enter Try.func68 rfl Try.ntmps68 rfl ?_
 unfold m_container_heap_up at hm
 obtain ⟨res3, hL4, hm⟩ := bs hm
 refine ewp_join (aft res3 (fun (s5 : Int × (BxR 98 96 Itm)) (x6 : Unit) => []) (fun s5 x6 w' => ∃ O' : Lab, Bm w O0 w' O' ∧ Ob 2 w' O' (.pointer (some ⟨p0, 0, none⟩)) s5.2 ∧ inI64 s5.1)) ?_ ?_
 ·
  refine ewp_block (ewp_lop (σ := Int × (BxR 98 96 Itm)) (X := Unit) hL4 (fun (s5 : Int × (BxR 98 96 Itm)) (x6 : Unit) => [(0, (.iface 94 (.pointer (some ⟨p0, 0, none⟩)))), (1, (.int .i64 s5.1))]) _ (fun s5 x6 w' => ∃ O' : Lab, Bm w O0 w' O' ∧ Ob 2 w' O' (.pointer (some ⟨p0, 0, none⟩)) s5.2 ∧ inI64 s5.1) _ () ⟨O0, hB, hx0', rx1⟩ ⟨rfl, rfl, trivial⟩ ?_)
  rintro s5 x6 w9 cc11 ⟨O10, hB, h21, r20⟩ hf13 hret14 hbrk15
  refine ewp_block (ewp_seq (ewp_region (o_mv rfl rfl ?_)))
  obtain ⟨n22, e23, hf13⟩ := bs hf13
  have r24 := (chkI_rng e23)
  refine o_sbE (he := e23) rfl rfl rfl ?_
  obtain ⟨n25, e26, hf13⟩ := bs hf13
  have r27 := quoT_in e26 r24
  refine o_qtE (he := e26) (hr := r24) rfl rfl rfl ?_
  refine o_as rfl rfl (o_z ?_)
  refine ewp_seq (ewp_seq ?_)
  obtain ⟨y28, hy29, hf13⟩ := bs hf13
  refine ewp_join (fun l' w' => ∃ (x31 : Unit) (O' : Lab), subs l' [(0, (.iface 94 (.pointer (some ⟨p0, 0, none⟩)))), (1, (.int .i64 s5.1)), (4, (.int .i64 n25)), (17, (.bool y28))] ∧ Bm w O0 w' O' ∧ Ob 2 w' O' (.pointer (some ⟨p0, 0, none⟩)) s5.2) ?_ ?_
  ·
   refine ewp_region (o_mv rfl rfl (o_mv rfl rfl (o_eeS rfl rfl rfl (fun c32 => ?_) fun c32 => ?_)))
   ·
    replace hy29 := ip hy29 c32
    refine o_mv rfl rfl (owp_no rfl rfl rfl rfl (owp_no rfl rfl rfl rfl (owp_no rfl rfl rfl rfl (owp_no rfl rfl rfl rfl (owp_no rfl rfl rfl rfl (o_pt rfl rfl rfl (o_z ?_)))))))
    obtain rfl := sm hy29
    exact ⟨(), _, ⟨rfl, rfl, rfl, rfl, trivial⟩, hB, h21⟩
   ·
    replace hy29 := im hy29 c32
    refine o_mv rfl rfl (owp_yes rfl rfl (o_mv rfl rfl (owp_yes rfl rfl (o_mv rfl rfl (owp_yes rfl rfl (o_mv rfl rfl (owp_yes rfl rfl ?_)))))))
    obtain ⟨O33, v37, S34, ha36, h35, h38⟩ := BxR.opn h21 2 3 (by decide)
    obtain ⟨A39, c40, rfl⟩ := h38.form
    obtain ⟨q42, e43, hy29⟩ := bs hy29
    refine l_invA (O := O33) (A := All w9) (R := fun w' F v => Vb w' F v q42) (c_breadth_queue_Less (fun _ h => h) (h38).all r20 r27 e43) (mth_val (Blk.cell (i := 0) h35.1 rfl)) rfl rfl rfl fun v48 w44 O45 S46 h47 => ?_
    obtain rfl := h47.bool
    cases q42
    case false =>
     replace hy29 := iF hy29
     refine owp_yes rfl rfl (o_nf rfl rfl (o_pf rfl rfl rfl (o_z ?_)))
     replace h35 := h35.st S46
     replace h38 := h38.st S46
     obtain ⟨O49, S50, hz52, ha53, h51⟩ := BxR.shut (x := s5.2) (l0 := 2) (l1 := 3) (by decide) h35 h38
     obtain rfl := sm hy29
     replace hB := ((hB.st S34).st S46).st S50
     exact ⟨(), _, ⟨rfl, rfl, rfl, rfl, trivial⟩, hB, h51⟩
    replace hy29 := iT hy29
    refine owp_yes rfl rfl (o_nt rfl rfl (o_pf rfl rfl rfl (o_z ?_)))
    replace h35 := h35.st S46
    replace h38 := h38.st S46
    obtain ⟨O54, S55, hz57, ha58, h56⟩ := BxR.shut (x := s5.2) (l0 := 2) (l1 := 3) (by decide) h35 h38
    obtain rfl := sm hy29
    replace hB := ((hB.st S34).st S46).st S55
    exact ⟨(), _, ⟨rfl, rfl, rfl, rfl, trivial⟩, hB, h56⟩
  rintro l59 w60 ⟨x31, O61, hs62, hB, h21⟩
  refine ewp_sub _ hs62 ?_
  refine ewp_cond rfl (fun c63 => ?_) (fun c63 => ?_)
  ·
   replace hf13 := ip hf13 c63
   refine ewp_exit ?_
   obtain rfl := sm hf13
   refine (?_ : Exists _)
   exact ⟨_, (), hbrk15 _ rfl, trivial, _, hB, h21, r20⟩
  ·
   replace hf13 := im' hf13 c63
   refine ewp_skip (ewp_seq (ewp_region (o_mv rfl rfl (o_mv rfl rfl (o_mv rfl rfl ?_)))))
   obtain ⟨O64, v68, S65, ha67, h66, h69⟩ := BxR.opn h21 2 3 (by decide)
   obtain ⟨A70, c71, rfl⟩ := h69.form
   obtain ⟨q73, e74, hf13⟩ := bs hf13
   refine l_invM (O := O64) (c_breadth_queue_Swap h69 r27 r20 e74) (mth_val (Blk.cell (i := 0) h66.1 rfl)) rfl rfl rfl fun v79 w75 O76 S77 h80 => ?_
   refine o_z ?_
   refine ewp_region (o_mv rfl rfl (o_as rfl rfl (o_z ?_)))
   replace h66 := h66.st S77
   obtain ⟨O81, S82, hz84, ha85, h83⟩ := BxR.shut (x := (⟨q73⟩ : BxR 98 96 Itm)) (l0 := 2) (l1 := 3) (by decide) (by have q := h66; rw [← h80.len.1.symm] at q; exact q) h80.relen
   obtain rfl := sm hf13
   refine (?_ : Exists _)
   replace hB := ((hB.st S65).st S77).st S82
   exact ⟨_, (), rfl, ⟨rfl, rfl, trivial⟩, _, hB, h83, r27⟩
 rintro l86 w87 ⟨s90, x91, rfl, hs89, O88, hB, h21, r20⟩
 replace hm := fin_done hm
 obtain rfl := sm hm
 obtain ⟨O', hS', hz, hl⟩ := hE.leave (fun q => if q = 2 then i0 else 0) rfl hB
 exact ret0n rfl  ⟨O', hS', (Ob.leave h21 hz (hl 2 (by decide) (by decide)) hx0.2)⟩
noncomputable def m_container_heap_down (x0 : BxR 98 96 Itm) (x1 : Int) (x2 : Int) : Option (Bool × (BxR 98 96 Itm)) :=
  bnd (lop (ρ := Bool × (BxR 98 96 Itm)) (fun (s6 : Int × (BxR 98 96 Itm)) => bnd (chkI (2 * s6.1)) fun n23 => bnd (chkI (n23 + 1)) fun n26 => bnd (if x2 ≤ n26 then (some true) else (if n26 < 0 then (some true) else (some false)) : Option Bool) fun y29 => if y29 = true then (some (.brk (s6.1, s6.2))) else (bnd (bnd (chkI (n26 + 1)) fun n45 => bnd (if n45 < x2 then (bnd (m_breadth_queue_Less s6.2.l n45 n26) fun q62 => if q62 = true then some true else some false) else (some false) : Option Bool) fun y48 => if y48 = true then (some n45) else (some n26) : Option Int) fun y40 => bnd (m_breadth_queue_Less s6.2.l y40 s6.1) fun q97 => if q97 = true then bnd (m_breadth_queue_Swap s6.2.l s6.1 y40) fun q109 => some (.next (y40, (⟨q109⟩ : BxR 98 96 Itm))) else some (.brk (s6.1, s6.2)))) (x1, x0)) fun res4 => fin res4 fun (s126 : Int × (BxR 98 96 Itm)) => bnd (if x1 < s126.1 then (some true) else (some false) : Option Bool) fun y128 => some (y128, s126.2)
theorem c_container_heap_down {w : World} {O : Lab} {p0 i0 : Nat} {x0 : BxR 98 96 Itm} (hx0 : Ob i0 w O (.pointer (some ⟨p0, 0, none⟩)) x0) {x1 : Int} (rx1 : inI64 x1) {x2 : Int} (rx2 : inI64 x2) {r : Bool × (BxR 98 96 Itm)} (hm : m_container_heap_down x0 x1 x2 = some r) :
    Fn Try.prog 67 [(.iface 94 (.pointer (some ⟨p0, 0, none⟩))), (.int .i64 x1), (.int .i64 x2)] w fun v w' => ∃ O', St (eT i0) w O w' O' ∧ Ob i0 w' O' (.pointer (some ⟨p0, 0, none⟩)) r.2 ∧ Vb w' (Fr 0 w' O') v r.1 := by
 obtain ⟨O0, hE, hz0, hl2⟩ := ent1 (w := w) (O := O) hx0.2
 have hx0' := Ob.leave hx0 hz0 hl2 (j := 2) (by decide)
 have hB : Bm w O0 w O0 := Bm.refl
 refine fn_enter Try.func67 rfl Try.ntmps67 rfl ?_
 unfold m_container_heap_down at hm
 refine ewp_seq (ewp_region (o_as rfl rfl (o_z ?_)))
 refine ewp_seq (ewp_region (o_mv rfl rfl (o_as rfl rfl (o_z ?_))))
 refine ewp_seq ?_
 obtain ⟨res4, hL5, hm⟩ := bs hm
 refine ewp_join (aft res4 (fun (s6 : Int × (BxR 98 96 Itm)) (x7 : Unit) => [(1, (.int .i64 x1)), (7, (.int .i64 s6.1))]) (fun s6 x7 w' => ∃ O' : Lab, Bm w O0 w' O' ∧ Ob 2 w' O' (.pointer (some ⟨p0, 0, none⟩)) s6.2 ∧ inI64 s6.1)) ?_ ?_
 ·
  refine ewp_block (ewp_lop (σ := Int × (BxR 98 96 Itm)) (X := Unit) hL5 (fun (s6 : Int × (BxR 98 96 Itm)) (x7 : Unit) => [(0, (.iface 94 (.pointer (some ⟨p0, 0, none⟩)))), (1, (.int .i64 x1)), (2, (.int .i64 x2)), (7, (.int .i64 s6.1))]) _ (fun s6 x7 w' => ∃ O' : Lab, Bm w O0 w' O' ∧ Ob 2 w' O' (.pointer (some ⟨p0, 0, none⟩)) s6.2 ∧ inI64 s6.1) _ () ⟨O0, hB, hx0', rx1⟩ ⟨rfl, rfl, rfl, rfl, trivial⟩ ?_)
  rintro s6 x7 w10 cc12 ⟨O11, hB, h22, r21⟩ hf14 hret15 hbrk16
  refine ewp_block (ewp_seq (ewp_region (o_mv rfl rfl ?_)))
  obtain ⟨n23, e24, hf14⟩ := bs hf14
  have r25 := (chkI_rng e24)
  refine o_mlE (he := e24) rfl rfl rfl ?_
  obtain ⟨n26, e27, hf14⟩ := bs hf14
  have r28 := (chkI_rng e27)
  refine o_adE (he := e27) rfl rfl rfl ?_
  refine o_as rfl rfl (o_z ?_)
  refine ewp_seq (ewp_seq ?_)
  obtain ⟨y29, hy30, hf14⟩ := bs hf14
  refine ewp_join (fun l' w' => ∃ (x32 : Unit) (O' : Lab), subs l' [(0, (.iface 94 (.pointer (some ⟨p0, 0, none⟩)))), (1, (.int .i64 x1)), (2, (.int .i64 x2)), (7, (.int .i64 s6.1)), (8, (.int .i64 n26)), (21, (.bool y29))] ∧ Bm w O0 w' O' ∧ Ob 2 w' O' (.pointer (some ⟨p0, 0, none⟩)) s6.2) ?_ ?_
  ·
   refine ewp_region (o_mv rfl rfl (o_mv rfl rfl (o_geS rfl rfl rfl (fun c33 => ?_) fun c33 => ?_)))
   ·
    replace hy30 := ip hy30 c33
    refine o_mv rfl rfl (owp_no rfl rfl rfl rfl (owp_no rfl rfl rfl rfl (o_pt rfl rfl rfl (o_z ?_))))
    obtain rfl := sm hy30
    exact ⟨(), _, ⟨rfl, rfl, rfl, rfl, rfl, rfl, trivial⟩, hB, h22⟩
   ·
    replace hy30 := im hy30 c33
    refine o_mv rfl rfl (owp_yes rfl rfl (o_mv rfl rfl (owp_yes rfl rfl (o_ltS rfl rfl rfl (fun c34 => ?_) fun c34 => ?_))))
    ·
     replace hy30 := ip hy30 c34
     refine o_pf rfl rfl rfl (o_z ?_)
     obtain rfl := sm hy30
     exact ⟨(), _, ⟨rfl, rfl, rfl, rfl, rfl, rfl, trivial⟩, hB, h22⟩
    ·
     replace hy30 := im hy30 c34
     refine o_pf rfl rfl rfl (o_z ?_)
     obtain rfl := sm hy30
     exact ⟨(), _, ⟨rfl, rfl, rfl, rfl, rfl, rfl, trivial⟩, hB, h22⟩
  rintro l35 w36 ⟨x32, O37, hs38, hB, h22⟩
  refine ewp_sub _ hs38 ?_
  refine ewp_cond rfl (fun c39 => ?_) (fun c39 => ?_)
  ·
   replace hf14 := ip hf14 c39
   refine ewp_exit ?_
   obtain rfl := sm hf14
   refine (?_ : Exists _)
   exact ⟨_, (), hbrk16 _ rfl, ⟨rfl, rfl, trivial⟩, _, hB, h22, r21⟩
  ·
   replace hf14 := im' hf14 c39
   refine ewp_skip (ewp_seq (ewp_region (o_mv rfl rfl (o_as rfl rfl (o_z ?_)))))
   refine ewp_seq ?_
   obtain ⟨y40, hy41, hf14⟩ := bs hf14
   refine ewp_join (fun l' w' => ∃ (x43 : Unit) (O' : Lab), subs l' [(0, (.iface 94 (.pointer (some ⟨p0, 0, none⟩)))), (1, (.int .i64 x1)), (2, (.int .i64 x2)), (7, (.int .i64 s6.1)), (9, (.int .i64 y40))] ∧ Bm w O0 w' O' ∧ Ob 2 w' O' (.pointer (some ⟨p0, 0, none⟩)) s6.2 ∧ inI64 y40) ?_ ?_
   ·
    refine ewp_seq (ewp_region (o_mv rfl rfl ?_))
    obtain ⟨n45, e46, hy41⟩ := bs hy41
    have r47 := (chkI_rng e46)
    refine o_adE (he := e46) rfl rfl rfl ?_
    refine o_as rfl rfl (o_z ?_)
    refine ewp_seq ?_
    obtain ⟨y48, hy49, hy41⟩ := bs hy41
    refine ewp_join (fun l' w' => ∃ (x51 : Unit) (O' : Lab), subs l' [(0, (.iface 94 (.pointer (some ⟨p0, 0, none⟩)))), (1, (.int .i64 x1)), (2, (.int .i64 x2)), (7, (.int .i64 s6.1)), (9, (.int .i64 n26)), (10, (.int .i64 n45)), (33, (.bool y48))] ∧ Bm w O0 w' O' ∧ Ob 2 w' O' (.pointer (some ⟨p0, 0, none⟩)) s6.2) ?_ ?_
    ·
     refine ewp_region (o_mv rfl rfl (o_mv rfl rfl (o_ltS rfl rfl rfl (fun c52 => ?_) fun c52 => ?_)))
     ·
      replace hy49 := ip hy49 c52
      refine o_mv rfl rfl (owp_yes rfl rfl (o_mv rfl rfl (owp_yes rfl rfl (o_mv rfl rfl (owp_yes rfl rfl (o_mv rfl rfl (owp_yes rfl rfl ?_)))))))
      obtain ⟨O53, v57, S54, ha56, h55, h58⟩ := BxR.opn h22 2 3 (by decide)
      obtain ⟨A59, c60, rfl⟩ := h58.form
      obtain ⟨q62, e63, hy49⟩ := bs hy49
      refine l_invA (O := O53) (A := All w36) (R := fun w' F v => Vb w' F v q62) (c_breadth_queue_Less (fun _ h => h) (h58).all r47 r28 e63) (mth_val (Blk.cell (i := 0) h55.1 rfl)) rfl rfl rfl fun v68 w64 O65 S66 h67 => ?_
      obtain rfl := h67.bool
      cases q62
      case false =>
       replace hy49 := iF hy49
       refine o_pt rfl rfl rfl (o_z ?_)
       replace h55 := h55.st S66
       replace h58 := h58.st S66
       obtain ⟨O69, S70, hz72, ha73, h71⟩ := BxR.shut (x := s6.2) (l0 := 2) (l1 := 3) (by decide) h55 h58
       obtain rfl := sm hy49
       replace hB := ((hB.st S54).st S66).st S70
       exact ⟨(), _, ⟨rfl, rfl, rfl, rfl, rfl, rfl, rfl, trivial⟩, hB, h71⟩
      replace hy49 := iT hy49
      refine o_pt rfl rfl rfl (o_z ?_)
      replace h55 := h55.st S66
      replace h58 := h58.st S66
      obtain ⟨O74, S75, hz77, ha78, h76⟩ := BxR.shut (x := s6.2) (l0 := 2) (l1 := 3) (by decide) h55 h58
      obtain rfl := sm hy49
      replace hB := ((hB.st S54).st S66).st S75
      exact ⟨(), _, ⟨rfl, rfl, rfl, rfl, rfl, rfl, rfl, trivial⟩, hB, h76⟩
     ·
      replace hy49 := im hy49 c52
      refine o_mv rfl rfl (owp_no rfl rfl rfl rfl (owp_no rfl rfl rfl rfl (owp_no rfl rfl rfl rfl (owp_no rfl rfl rfl rfl (o_pf rfl rfl rfl (o_z ?_))))))
      obtain rfl := sm hy49
      exact ⟨(), _, ⟨rfl, rfl, rfl, rfl, rfl, rfl, rfl, trivial⟩, hB, h22⟩
    rintro l79 w80 ⟨x51, O81, hs82, hB, h67⟩
    refine ewp_sub _ hs82 ?_
    refine ewp_cond rfl (fun c83 => ?_) (fun c83 => ?_)
    ·
     replace hy41 := ip hy41 c83
     refine ewp_region (o_mv rfl rfl (o_as rfl rfl (o_z ?_)))
     obtain rfl := sm hy41
     exact ⟨(), _, ⟨rfl, rfl, rfl, rfl, rfl, trivial⟩, hB, h67, r47⟩
    ·
     replace hy41 := im' hy41 c83
     refine ewp_skip ?_
     obtain rfl := sm hy41
     exact ⟨(), _, ⟨rfl, rfl, rfl, rfl, rfl, trivial⟩, hB, h67, r28⟩
   rintro l84 w85 ⟨x43, O86, hs87, hB, h62, r44⟩
   refine ewp_sub _ hs87 ?_
   refine ewp_seq (ewp_seq (ewp_region (o_mv rfl rfl (o_mv rfl rfl (o_mv rfl rfl ?_)))))
   obtain ⟨O88, v92, S89, ha91, h90, h93⟩ := BxR.opn h62 2 3 (by decide)
   obtain ⟨A94, c95, rfl⟩ := h93.form
   obtain ⟨q97, e98, hf14⟩ := bs hf14
   refine l_invA (O := O88) (A := All w85) (R := fun w' F v => Vb w' F v q97) (c_breadth_queue_Less (fun _ h => h) (h93).all r44 r21 e98) (mth_val (Blk.cell (i := 0) h90.1 rfl)) rfl rfl rfl fun v103 w99 O100 S101 h102 => ?_
   obtain rfl := h102.bool
   cases q97
   case false =>
    replace hf14 := iF hf14
    refine o_nf rfl rfl (o_z ?_)
    refine ewp_true rfl (ewp_exit ?_)
    replace h90 := h90.st S101
    replace h93 := h93.st S101
    obtain ⟨O104, S105, hz107, ha108, h106⟩ := BxR.shut (x := s6.2) (l0 := 2) (l1 := 3) (by decide) h90 h93
    obtain rfl := sm hf14
    refine (?_ : Exists _)
    replace hB := ((hB.st S89).st S101).st S105
    exact ⟨_, (), hbrk16 _ rfl, ⟨rfl, rfl, trivial⟩, _, hB, h106, r21⟩
   replace hf14 := iT hf14
   refine o_nt rfl rfl (o_z ?_)
   refine ewp_false rfl (ewp_skip (ewp_seq (ewp_region (o_mv rfl rfl (o_mv rfl rfl (o_mv rfl rfl ?_))))))
   obtain ⟨q109, e110, hf14⟩ := bs hf14
   replace h90 := h90.st S101
   replace h93 := h93.st S101
   refine l_invM (O := O100) (c_breadth_queue_Swap h93 r21 r44 e110) (mth_val (Blk.cell (i := 0) h90.1 rfl)) rfl rfl rfl fun v115 w111 O112 S113 h116 => ?_
   refine o_z ?_
   refine ewp_region (o_mv rfl rfl (o_as rfl rfl (o_z ?_)))
   replace h90 := h90.st S113
   obtain ⟨O117, S118, hz120, ha121, h119⟩ := BxR.shut (x := (⟨q109⟩ : BxR 98 96 Itm)) (l0 := 2) (l1 := 3) (by decide) (by have q := h90; rw [← h116.len.1.symm] at q; exact q) h116.relen
   obtain rfl := sm hf14
   refine (?_ : Exists _)
   replace hB := (((hB.st S89).st S101).st S113).st S118
   exact ⟨_, (), rfl, ⟨rfl, rfl, rfl, rfl, trivial⟩, _, hB, h119, r44⟩
 rintro l122 w123 ⟨s126, x127, rfl, hs125, O124, hB, h22, r21⟩
 replace hm := fin_done hm
 refine ewp_sub _ hs125 ?_
 refine ewp_seq ?_
 obtain ⟨y128, hy129, hm⟩ := bs hm
 refine ewp_join (fun l' w' => ∃ (x131 : Unit) (O' : Lab), subs l' [(6, (.bool y128))] ∧ Bm w O0 w' O' ∧ Ob 2 w' O' (.pointer (some ⟨p0, 0, none⟩)) s126.2) ?_ ?_
 ·
  refine ewp_region (o_mv rfl rfl (o_mv rfl rfl (o_gtS rfl rfl rfl (fun c132 => ?_) fun c132 => ?_)))
  ·
   replace hy129 := ip hy129 c132
   refine o_as rfl rfl (o_z ?_)
   obtain rfl := sm hy129
   exact ⟨(), _, ⟨rfl, trivial⟩, hB, h22⟩
  ·
   replace hy129 := im hy129 c132
   refine o_as rfl rfl (o_z ?_)
   obtain rfl := sm hy129
   exact ⟨(), _, ⟨rfl, trivial⟩, hB, h22⟩
 rintro l133 w134 ⟨x131, O135, hs136, hB, h22⟩
 refine ewp_sub _ hs136 ?_
 refine ewp_ret ?_
 obtain rfl := sm hm
 obtain ⟨O', hS', hz, hl⟩ := hE.leave (fun q => if q = 2 then i0 else 0) rfl hB
 exact ret1v rfl (res_tmp rfl) ⟨O', hS', (Ob.leave h22 hz (hl 2 (by decide) (by decide)) hx0.2), vBool⟩
noncomputable def m_container_heap_Push (x0 : BxR 98 96 Itm) (x1 : An 96 Itm) : Option (BxR 98 96 Itm) :=
  bnd (m_breadth_queue_Push x0 (⟨x1.x⟩ : An 96 Itm)) fun q9 => bnd (m_breadth_queue_Len q9.l) fun q26 => bnd (chkI (q26 - 1)) fun n34 => bnd (m_container_heap_up q9 n34) fun q42 => some q42
theorem c_container_heap_Push {w : World} {O : Lab} {p0 i0 : Nat} {x0 : BxR 98 96 Itm} (hx0 : Ob i0 w O (.pointer (some ⟨p0, 0, none⟩)) x0) {vx1 : Value} {x1 : An 96 Itm} (hx1 : Vb w (Fr 0 w O) vx1 x1) {r : (BxR 98 96 Itm)} (hm : m_container_heap_Push x0 x1 = some r) :
    Fn Try.prog 49 [(.iface 94 (.pointer (some ⟨p0, 0, none⟩))), vx1] w fun v w' => ∃ O', St (eT i0) w O w' O' ∧ Ob i0 w' O' (.pointer (some ⟨p0, 0, none⟩)) r := by
 obtain ⟨O0, hE, hz0, hl2⟩ := ent1 (w := w) (O := O) hx0.2
 have hx0' := Ob.leave hx0 hz0 hl2 (j := 2) (by decide)
 have hB : Bm w O0 w O0 := Bm.refl
 replace hx1 := hx1.mono hz0
 obtain ⟨v3, rfl, h4⟩ := hx1.any
 obtain ⟨cs5, rfl, rfl, r6, r7, r8⟩ := h4
 refine fn_enter Try.func49 rfl Try.ntmps49 rfl ?_
 unfold m_container_heap_Push at hm
 refine ewp_seq (ewp_region (o_mv rfl rfl (o_mv rfl rfl ?_)))
 obtain ⟨q9, e10, hm⟩ := bs hm
 refine l_invM (O := O0) (c_breadth_queue_Push hx0' (vAny (Vb.ofAgg (cs := [(.int .i64 x1.x.cost), (.int .i64 x1.x.order), (.int .i64 x1.x.id)]) (x := x1.x) rfl ⟨rfl, r6, r7, r8⟩)) e10) mth_ptr rfl rfl rfl fun v15 w11 O12 S13 h16 => ?_
 refine o_z ?_
 refine ewp_region (o_mv rfl rfl (o_mv rfl rfl ?_))
 obtain ⟨O17, v21, S18, ha20, h19, h22⟩ := BxR.opn h16 2 3 (by decide)
 obtain ⟨A23, c24, rfl⟩ := h22.form
 obtain ⟨q26, e27, hm⟩ := bs hm
 refine l_invA (O := O17) (A := All w11) (R := fun w' F v => Vb w' F v q26) (c_breadth_queue_Len (fun _ h => h) (h22).all e27) (mth_val (Blk.cell (i := 0) h19.1 rfl)) rfl rfl rfl fun v32 w28 O29 S30 h31 => ?_
 obtain ⟨rfl, r33⟩ := h31.int
 obtain ⟨n34, e35, hm⟩ := bs hm
 have r36 := (chkI_rng e35)
 refine o_sbE (he := e35) rfl rfl rfl ?_
 replace h19 := h19.st S30
 replace h22 := h22.st S30
 obtain ⟨O37, S38, hz40, ha41, h39⟩ := BxR.shut (x := q9) (l0 := 2) (l1 := 3) (by decide) h19 h22
 obtain ⟨q42, e43, hm⟩ := bs hm
 refine l_callM (O := O37) (c_container_heap_up h39 r36 e43) rfl rfl fun v48 w44 O45 S46 h49 => ?_
 refine o_z ?_
 obtain rfl := sm hm
 replace hB := ((((hB.st S13).st S18).st S30).st S38).st S46
 obtain ⟨O', hS', hz, hl⟩ := hE.leave (fun q => if q = 2 then i0 else 0) rfl hB
 exact ret0n rfl  ⟨O', hS', (Ob.leave h49 hz (hl 2 (by decide) (by decide)) hx0.2)⟩
noncomputable def m_container_heap_Pop (x0 : BxR 98 96 Itm) : Option ((An 96 Itm) × (BxR 98 96 Itm)) :=
  bnd (m_breadth_queue_Len x0.l) fun q11 => bnd (chkI (q11 - 1)) fun n19 => bnd (m_breadth_queue_Swap x0.l 0 n19) fun q22 => bnd (m_container_heap_down (⟨q22⟩ : BxR 98 96 Itm) 0 n19) fun q35 => bnd (m_breadth_queue_Pop q35.2) fun q44 => some ((⟨q44.1.x⟩ : An 96 Itm), q44.2)
theorem c_container_heap_Pop {w : World} {O : Lab} {p0 i0 : Nat} {x0 : BxR 98 96 Itm} (hx0 : Ob i0 w O (.pointer (some ⟨p0, 0, none⟩)) x0) {r : (An 96 Itm) × (BxR 98 96 Itm)} (hm : m_container_heap_Pop x0 = some r) :
    Fn Try.prog 48 [(.iface 94 (.pointer (some ⟨p0, 0, none⟩)))] w fun v w' => ∃ O', St (eT i0) w O w' O' ∧ Ob i0 w' O' (.pointer (some ⟨p0, 0, none⟩)) r.2 ∧ Vb w' (Fr 0 w' O') v r.1 := by
 obtain ⟨O0, hE, hz0, hl2⟩ := ent1 (w := w) (O := O) hx0.2
 have hx0' := Ob.leave hx0 hz0 hl2 (j := 2) (by decide)
 have hB : Bm w O0 w O0 := Bm.refl
 refine fn_enter Try.func48 rfl Try.ntmps48 rfl ?_
 unfold m_container_heap_Pop at hm
 refine ewp_seq (ewp_region (o_as rfl rfl (o_z ?_)))
 refine ewp_seq (ewp_region (o_mv rfl rfl ?_))
 obtain ⟨O2, v6, S3, ha5, h4, h7⟩ := BxR.opn hx0' 2 3 (by decide)
 obtain ⟨A8, c9, rfl⟩ := h7.form
 obtain ⟨q11, e12, hm⟩ := bs hm
 refine l_invA (O := O2) (A := All w) (R := fun w' F v => Vb w' F v q11) (c_breadth_queue_Len (fun _ h => h) (h7).all e12) (mth_val (Blk.cell (i := 0) h4.1 rfl)) rfl rfl rfl fun v17 w13 O14 S15 h16 => ?_
 obtain ⟨rfl, r18⟩ := h16.int
 obtain ⟨n19, e20, hm⟩ := bs hm
 have r21 := (chkI_rng e20)
 refine o_sbE (he := e20) rfl rfl rfl ?_
 refine o_as rfl rfl (o_z ?_)
 refine ewp_seq (ewp_region (o_mv rfl rfl (o_mv rfl rfl ?_)))
 obtain ⟨q22, e23, hm⟩ := bs hm
 replace h4 := h4.st S15
 replace h7 := h7.st S15
 refine l_invM (O := O14) (c_breadth_queue_Swap h7 (show inI64 (0) from by decide) r21 e23) (mth_val (Blk.cell (i := 0) h4.1 rfl)) rfl rfl rfl fun v28 w24 O25 S26 h29 => ?_
 refine o_z ?_
 refine ewp_seq (ewp_region (o_mv rfl rfl (o_mv rfl rfl ?_)))
 replace h4 := h4.st S26
 obtain ⟨O30, S31, hz33, ha34, h32⟩ := BxR.shut (x := (⟨q22⟩ : BxR 98 96 Itm)) (l0 := 2) (l1 := 3) (by decide) (by have q := h4; rw [← h29.len.1.symm] at q; exact q) h29.relen
 obtain ⟨q35, e36, hm⟩ := bs hm
 refine l_callM (O := O30) (c_container_heap_down h32 (show inI64 (0) from by decide) r21 e36) rfl rfl fun v41 w37 O38 S39 h40 => ?_
 obtain ⟨h42, h43⟩ := h40
 obtain rfl := h43.bool
 refine o_z ?_
 refine ewp_seq (ewp_region (o_mv rfl rfl ?_))
 obtain ⟨q44, e45, hm⟩ := bs hm
 refine l_invM (O := O38) (c_breadth_queue_Pop h42 e45) mth_ptr rfl rfl rfl fun v50 w46 O47 S48 h49 => ?_
 obtain ⟨h51, h52⟩ := h49
 obtain ⟨v53, rfl, h54⟩ := h52.any
 obtain ⟨cs55, rfl, rfl, r56, r57, r58⟩ := h54
 refine o_as rfl rfl (o_z ?_)
 refine ewp_ret ?_
 obtain rfl := sm hm
 replace hB := (((((hB.st S3).st S15).st S26).st S31).st S39).st S48
 obtain ⟨O', hS', hz, hl⟩ := hE.leave (fun q => if q = 2 then i0 else 0) rfl hB
 exact ret1v rfl (res_tmp rfl) ⟨O', hS', (Ob.leave h51 hz (hl 2 (by decide) (by decide)) hx0.2), (vAny (Vb.ofAgg (cs := [(.int .i64 q44.1.x.cost), (.int .i64 q44.1.x.order), (.int .i64 q44.1.x.id)]) (x := q44.1.x) rfl ⟨rfl, r56, r57, r58⟩))⟩
end
section
section
variable {α σ ρ : Type}
theorem fin_d {s : σ} {f : σ → Option ρ} : fin (.done s) f = f s := rfl
theorem if_t {x y : α} : (if true = true then x else y) = x := rfl
theorem if_f {x y : α} : (if false = true then x else y) = y := rfl
theorem rng_inv_from {f : Nat → α → σ → Option (Ctl σ ρ)} {I : Nat → σ → Prop} {R : ρ → Prop} : ∀ (ys : List α) (j : Nat) (s : σ), I j s →
    (∀ k x s, ys[k]? = some x → I (j + k) s → (∃ s', f (j + k) x s = some (.next s') ∧ I (j + k + 1) s') ∨ (∃ r, f (j + k) x s = some (.ret r) ∧ R r)) →
    (∃ s', rng f ys j s = some (.done s') ∧ I (j + ys.length) s') ∨ ∃ r, rng f ys j s = some (.ret r) ∧ R r
  | [], j, s, h0, _ => .inl ⟨s, rfl, h0⟩
  | y :: ys, j, s, h0, h => by
    rcases h 0 y s rfl h0 with ⟨s', h1, h2⟩ | ⟨r, h1, h2⟩
    · have h1' : f j y s = some (.next s') := h1
      simp only [rng, h1']
      rcases rng_inv_from (I := I) (R := R) ys (j + 1) s' h2 (fun k x s hk hI => by
        have := h (k + 1) x s (by simpa using hk) (by rwa [show j + (k + 1) = j + 1 + k from by omega])
        rwa [show j + (k + 1) = j + 1 + k from by omega] at this) with ⟨s2, h3, h4⟩ | h3
      · exact .inl ⟨s2, h3, by rw [List.length_cons, show j + (ys.length + 1) = j + 1 + ys.length from by omega]; exact h4⟩
      · exact .inr h3
    · have h1' : f j y s = some (.ret r) := h1
      simp only [rng, h1']
      exact .inr ⟨r, rfl, h2⟩
theorem rng_inv {f : Nat → α → σ → Option (Ctl σ ρ)} {xs : List α} {s₀ : σ} (I : Nat → σ → Prop) (R : ρ → Prop) (h0 : I 0 s₀)
    (h : ∀ k x s, xs[k]? = some x → I k s → (∃ s', f k x s = some (.next s') ∧ I (k + 1) s') ∨ (∃ r, f k x s = some (.ret r) ∧ R r)) :
    (∃ s', rng f xs 0 s₀ = some (.done s') ∧ I xs.length s') ∨ ∃ r, rng f xs 0 s₀ = some (.ret r) ∧ R r := by
  have := rng_inv_from (f := f) (I := I) (R := R) xs 0 s₀ h0 (fun k x s hk hI => by rw [Nat.zero_add] at hI ⊢; exact h k x s hk hI)
  rwa [Nat.zero_add] at this
/-- A loop that runs to its end. -/
theorem rng_all {f : Nat → α → σ → Option (Ctl σ ρ)} {xs : List α} {s₀ : σ} (I : Nat → σ → Prop) (h0 : I 0 s₀) (h : ∀ k x s, xs[k]? = some x → I k s → ∃ s', f k x s = some (.next s') ∧ I (k + 1) s') :
    ∃ s', rng f xs 0 s₀ = some (.done s') ∧ I xs.length s' := by
  rcases rng_inv I (fun _ => False) h0 (fun k x s hk hI => .inl (h k x s hk hI)) with h | ⟨_, _, h⟩
  · exact h
  · exact h.elim
end
end
section
section
variable {α σ ρ β : Type}
theorem lop_wf' {f : σ → Option (Ctl σ ρ)} (I : σ → Prop) (B : σ → Prop) (R : ρ → Prop) (μ : σ → Nat) (h : ∀ s, I s → (∃ s', f s = some (.next s') ∧ I s' ∧ μ s' < μ s) ∨ (∃ s', f s = some (.brk s') ∧ B s') ∨ ∃ r, f s = some (.ret r) ∧ R r) :
    ∀ s, I s → (∃ s', lop f s = some (.done s') ∧ B s') ∨ ∃ r, lop f s = some (.ret r) ∧ R r := by
  have key : ∀ (n : Nat) s, I s → μ s < n → (∃ s', lop f s = some (.done s') ∧ B s') ∨ ∃ r, lop f s = some (.ret r) ∧ R r := by
    intro n
    induction n with
    | zero => intro s _ hn; omega
    | succ n ih =>
      intro s hI hn
      rw [lop_eq]
      rcases h s hI with ⟨s', h1, h2, h3⟩ | ⟨s', h1, h2⟩ | ⟨r, h1, h2⟩
      · rw [h1]; exact ih s' h2 (by omega)
      · rw [h1]; exact .inl ⟨s', rfl, h2⟩
      · rw [h1]; exact .inr ⟨r, rfl, h2⟩
  exact fun s hI => key (μ s + 1) s hI (by omega)
/-- A loop, and what is said of what comes behind it. -/
theorem lop_ex {f : σ → Option (Ctl σ ρ)} {s₀ : σ} {k : Fin σ ρ → Option β} {P : β → Prop} (I : σ → Prop) (B : σ → Prop) (R : ρ → Prop) (μ : σ → Nat) (h0 : I s₀)
    (h : ∀ s, I s → (∃ s', f s = some (.next s') ∧ I s' ∧ μ s' < μ s) ∨ (∃ s', f s = some (.brk s') ∧ B s') ∨ ∃ r, f s = some (.ret r) ∧ R r)
    (hb : ∀ s, B s → ∃ r, k (.done s) = some r ∧ P r) (hr : ∀ q, R q → ∃ r, k (.ret q) = some r ∧ P r) : ∃ r, bnd (lop f s₀) k = some r ∧ P r := by
  rcases lop_wf' I B R μ h s₀ h0 with ⟨s, h1, h2⟩ | ⟨q, h1, h2⟩
  · rw [h1, bnd_some]; exact hb s h2
  · rw [h1, bnd_some]; exact hr q h2
theorem lop_bnd {f : σ → Option (Ctl σ ρ)} {s₀ : σ} {k : Fin σ ρ → Option β} {r : Option β} (I : σ → Prop) (B : σ → Prop) (μ : σ → Nat) (h0 : I s₀)
    (h : ∀ s, I s → (∃ s', f s = some (.next s') ∧ I s' ∧ μ s' < μ s) ∨ (∃ s', f s = some (.brk s') ∧ B s')) (hb : ∀ s, B s → k (.done s) = r) : bnd (lop f s₀) k = r := by
  rcases lop_wf' I B (fun _ => False) μ (fun s hI => (h s hI).imp id .inl) s₀ h0 with ⟨s, h1, h2⟩ | ⟨q, _, h2⟩
  · rw [h1, bnd_some]; exact hb s h2
  · exact h2.elim
theorem rng_ex {f : Nat → α → σ → Option (Ctl σ ρ)} {xs : List α} {s₀ : σ} {k : Fin σ ρ → Option β} {P : β → Prop} (I : Nat → σ → Prop) (R : ρ → Prop) (h0 : I 0 s₀)
    (h : ∀ i x s, xs[i]? = some x → I i s → (∃ s', f i x s = some (.next s') ∧ I (i + 1) s') ∨ ∃ q, f i x s = some (.ret q) ∧ R q)
    (hb : ∀ s, I xs.length s → ∃ r, k (.done s) = some r ∧ P r) (hr : ∀ q, R q → ∃ r, k (.ret q) = some r ∧ P r) : ∃ r, bnd (rng f xs 0 s₀) k = some r ∧ P r := by
  have key : ∀ (ys : List α) (j : Nat) (s : σ), (∀ i, ys[i]? = xs[j + i]?) → j + ys.length = xs.length → I j s → ∃ r, bnd (rng f ys j s) k = some r ∧ P r := by
    intro ys
    induction ys with
    | nil => intro j s _ hl hI; exact hb s (by simp at hl; rw [← hl]; exact hI)
    | cons y ys ih =>
      intro j s hg hl hI
      have hy : xs[j]? = some y := by have := hg 0; simpa using this.symm
      simp only [rng]
      rcases h j y s hy hI with ⟨s', h1, h2⟩ | ⟨q, h1, h2⟩
      · rw [h1]
        exact ih (j + 1) s' (fun i => by have := hg (i + 1); rw [show j + 1 + i = j + (i + 1) from by omega, ← this]; simp) (by simp at hl; omega) h2
      · rw [h1, bnd_some]; exact hr q h2
  exact key xs 0 s₀ (fun i => by rw [Nat.zero_add]) (by omega) h0
theorem rng_bnd {f : Nat → α → σ → Option (Ctl σ ρ)} {xs : List α} {s₀ : σ} {k : Fin σ ρ → Option β} {r : Option β} (I : Nat → σ → Prop) (h0 : I 0 s₀)
    (h : ∀ i x s, xs[i]? = some x → I i s → ∃ s', f i x s = some (.next s') ∧ I (i + 1) s') (hb : ∀ s, I xs.length s → k (.done s) = r) : bnd (rng f xs 0 s₀) k = r := by
  obtain ⟨s, h1, h2⟩ := rng_all I h0 h
  rw [h1, bnd_some]
  exact hb s h2
end
end
section
open Go Go.RowKit
attribute [local irreducible] ewp owp hwp hwq hws Ev Evg Fn retPost loud loudS Res1
noncomputable def m_base_Apply (x0 : Tsk) (x1 : List Int) (x2 : Int) : Option ((List Int) × Bool) :=
  bnd (if x2 < 0 then (some true) else (if (x0.ops.length : Int) ≤ x2 then (some true) else (bnd (atI x0.ops x2) fun a36 => bnd (m_base_Holds a36.pre x1) fun q57 => if q57 = true then some false else some true)) : Option Bool) fun y28 => if y28 = true then (some (([] : List Int), false)) else (bnd (appI 8 ([] : List Int) x1) fun u75 => bnd (atI x0.ops x2) fun a86 => bnd (rng (ρ := (List Int) × Bool) (fun (k113 : Nat) (a114 : Eff) (s111 : (List Int)) => bnd (m_base_Holds a114.cond x1) fun q148 => if q148 = true then bnd (atI s111 a114.var) fun a155 => some (.next (s111.set (a114.var : Int).toNat a114.val)) else some (.next s111)) a86.effs 0 u75) fun res109 => fin res109 fun (s173 : (List Int)) => some (s173, true))
theorem c_base_Apply {w : World} {A : Nat → Prop} (hA : ∀ k, A k → k < w.heap.size) {vx0 : Value} {x0 : Tsk} (hx0 : Vb w A vx0 x0) {vx1 : Value} {x1 : List Int} (hx1 : Vb w A vx1 x1) {x2 : Int} (rx2 : inI64 x2) {r : (List Int) × Bool} (hm : m_base_Apply x0 x1 x2 = some r) :
    Fn Try.prog 19 [vx0, vx1, (.int .i64 x2)] w fun v w' => Ext w w' ∧ T2 w' (upA A w w') v r := by
 obtain ⟨O, hB, hA0⟩ := enter hA
 replace hx0 := hx0.mono hA0
 obtain ⟨cs4, rfl, v5, v6, v7, v8, rfl, h9, h12, h15, h18⟩ := hx0
 obtain ⟨A10, c11, rfl⟩ := h9.form
 obtain ⟨A13, c14, rfl⟩ := h12.form
 obtain ⟨A16, c17, rfl⟩ := h15.form
 obtain ⟨A19, c20, rfl⟩ := h18.form
 replace hx1 := hx1.mono hA0
 obtain ⟨A21, c22, rfl⟩ := hx1.form
 refine fn_enter Try.func19 rfl Try.ntmps19 rfl ?_
 unfold m_base_Apply at hm
 refine ewp_seq (ewp_region (l_box 2 O rfl rfl fun g23 w24 O25 S26 h27 => ?_))
 replace h27 : Lc 2 w24 O25 g23 26 [(.slice A10 x0.vars.length c11), (.slice A13 x0.init.length c14), (.slice A16 x0.goal.length c17), (.slice A19 x0.ops.length c20)] := h27
 refine o_as rfl rfl (o_as rfl rfl (o_z ?_))
 refine ewp_seq (ewp_seq ?_)
 obtain ⟨y28, hy29, hm⟩ := bs hm
 refine ewp_join (fun l' w' => ∃ (x31 : Unit) (O' : Lab), subs l' [(1, (.slice A21 x1.length c22)), (2, (.int .i64 x2)), (3, (.pointer (some ⟨g23, 0, none⟩))), (30, (.bool y28))] ∧ Bs w A w' O' ∧ Vb w' (Fr 0 w' O') (.slice A21 x1.length c22) x1 ∧ Lc 2 w' O' g23 26 [(.slice A10 x0.vars.length c11), (.slice A13 x0.init.length c14), (.slice A16 x0.goal.length c17), (.slice A19 x0.ops.length c20)] ∧ Vb w' (Fr 0 w' O') (.slice A10 x0.vars.length c11) x0.vars ∧ Vb w' (Fr 0 w' O') (.slice A13 x0.init.length c14) x0.init ∧ Vb w' (Fr 0 w' O') (.slice A16 x0.goal.length c17) x0.goal ∧ Vb w' (Fr 0 w' O') (.slice A19 x0.ops.length c20) x0.ops) ?_ ?_
 ·
  refine ewp_region (o_mv rfl rfl (o_ltS rfl rfl rfl (fun c32 => ?_) fun c32 => ?_))
  ·
   replace hy29 := ip hy29 c32
   refine o_mv rfl rfl (owp_no rfl rfl rfl rfl (owp_no rfl rfl rfl rfl (owp_no rfl rfl rfl rfl (owp_no rfl rfl rfl rfl (owp_no rfl rfl rfl rfl (o_pt rfl rfl rfl (o_mv rfl rfl (owp_no rfl rfl rfl rfl (owp_no rfl rfl rfl rfl (owp_no rfl rfl rfl rfl (owp_no rfl rfl rfl rfl (owp_no rfl rfl rfl rfl (owp_no rfl rfl rfl rfl (owp_no rfl rfl rfl rfl ?_))))))))))))))
   refine owp_no rfl rfl rfl rfl (owp_no rfl rfl rfl rfl (o_pt rfl rfl rfl (o_z ?_)))
   obtain rfl := sm hy29
   replace hB := hB.st S26
   replace hx1 := hx1.st S26
   replace h9 := h9.st S26
   replace h12 := h12.st S26
   replace h15 := h15.st S26
   replace h18 := h18.st S26
   exact ⟨(), _, ⟨rfl, rfl, rfl, rfl, trivial⟩, hB, hx1, h27, h9, h12, h15, h18⟩
  ·
   replace hy29 := im hy29 c32
   refine o_mv rfl rfl (owp_yes rfl rfl (o_mv rfl rfl (owp_yes rfl rfl (o_fa rfl rfl (owp_yes rfl rfl (o_ld (hc := Blk.cell (i := 3) (h27.1) rfl) rfl rfl ?_))))))
   refine owp_yes rfl rfl (o_ln rfl rfl ?_)
   replace h18 := h18.st S26
   have l34 : x0.ops.length ≤ 9223372036854775807 := Nat.le_trans h18.len.2.1 h18.len.2.2
   have r33 : inI64 (x0.ops.length : Int) := rngNat l34
   refine owp_yes rfl rfl (o_geS rfl rfl rfl (fun c35 => ?_) fun c35 => ?_)
   ·
    replace hy29 := ip hy29 c35
    refine o_pf rfl rfl rfl (o_mv rfl rfl (owp_no rfl rfl rfl rfl (owp_no rfl rfl rfl rfl (owp_no rfl rfl rfl rfl (owp_no rfl rfl rfl rfl (owp_no rfl rfl rfl rfl (owp_no rfl rfl rfl rfl (owp_no rfl rfl rfl rfl (owp_no rfl rfl rfl rfl (owp_no rfl rfl rfl rfl (o_pt rfl rfl rfl (o_z ?_))))))))))))
    obtain rfl := sm hy29
    replace hB := hB.st S26
    replace hx1 := hx1.st S26
    replace h9 := h9.st S26
    replace h12 := h12.st S26
    replace h15 := h15.st S26
    exact ⟨(), _, ⟨rfl, rfl, rfl, rfl, trivial⟩, hB, hx1, h27, h9, h12, h15, h18⟩
   ·
    replace hy29 := im hy29 c35
    refine o_pf rfl rfl rfl (o_mv rfl rfl (owp_yes rfl rfl (o_fa rfl rfl (owp_yes rfl rfl (o_ld (hc := Blk.cell (i := 3) (h27.1) rfl) rfl rfl ?_)))))
    refine owp_yes rfl rfl (o_mv rfl rfl (owp_yes rfl rfl ?_))
    obtain ⟨a36, e37, hy29⟩ := bs hy29
    obtain ⟨p39, x38⟩ := atI_some' e37
    obtain ⟨b40, o41, ce42, hA43, hl44, hd45, v47, v48, rfl, h49, h52, r55, z56⟩ := h18.elem' x38
    obtain ⟨A50, c51, rfl⟩ := h49.form
    obtain ⟨A53, c54, rfl⟩ := h52.form
    refine o_iaE (hA := hA43) (hj := (Int.toNat_of_nonneg p39).symm) (hlt := hl44) rfl rfl rfl ?_
    refine owp_yes rfl rfl (o_fa rfl rfl (owp_yes rfl rfl (o_ld (hc := cat2 hd45) rfl rfl ?_)))
    refine owp_yes rfl rfl (o_mv rfl rfl (owp_yes rfl rfl ?_))
    obtain ⟨q57, e58, hy29⟩ := bs hy29
    replace hx1 := hx1.st S26
    refine l_callA (O := O25) (A := All w24) (R := fun w' F v => Vb w' F v q57) (c_base_Holds (fun _ h => h) (Vb.mono (F := Fr 0 w24 O25) h49 Fr.lt) (Vb.mono (F := Fr 0 w24 O25) hx1 Fr.lt) e58) rfl rfl fun v63 w59 O60 S61 h62 => ?_
    obtain rfl := h62.bool
    cases q57
    case false =>
     replace hy29 := iF hy29
     refine owp_yes rfl rfl (o_nf rfl rfl (o_pf rfl rfl rfl (o_z ?_)))
     obtain rfl := sm hy29
     replace hB := (hB.st S26).st S61
     replace hx1 := hx1.st S61
     replace h9 := (h9.st S26).st S61
     replace h12 := (h12.st S26).st S61
     replace h15 := (h15.st S26).st S61
     replace h18 := h18.st S61
     replace h27 := h27.st S61
     exact ⟨(), _, ⟨rfl, rfl, rfl, rfl, trivial⟩, hB, hx1, h27, h9, h12, h15, h18⟩
    replace hy29 := iT hy29
    refine owp_yes rfl rfl (o_nt rfl rfl (o_pf rfl rfl rfl (o_z ?_)))
    obtain rfl := sm hy29
    replace hB := (hB.st S26).st S61
    replace hx1 := hx1.st S61
    replace h9 := (h9.st S26).st S61
    replace h12 := (h12.st S26).st S61
    replace h15 := (h15.st S26).st S61
    replace h18 := h18.st S61
    replace h27 := h27.st S61
    exact ⟨(), _, ⟨rfl, rfl, rfl, rfl, trivial⟩, hB, hx1, h27, h9, h12, h15, h18⟩
 replace hB := hB.st S26
 replace hx1 := hx1.st S26
 replace h9 := h9.st S26
 replace h12 := h12.st S26
 replace h15 := h15.st S26
 replace h18 := h18.st S26
 rintro l64 w65 ⟨x31, O66, hs67, hB, hx1, h27, h9, h12, h15, h18⟩
 refine ewp_sub _ hs67 ?_
 refine ewp_cond rfl (fun c68 => ?_) (fun c68 => ?_)
 ·
  replace hm := ip hm c68
  refine ewp_seq (ewp_region (o_as rfl rfl (o_as rfl rfl (o_z ?_))))
  refine ewp_ret ?_
  obtain rfl := sm hm
  exact ret2 rfl (res_tmp rfl) (res_tmp rfl) ⟨hB.ext, _, _, rfl, (Vb.mono (F := Fr 0 w65 O66) (Vb.nil _ _) hB.out), vBool⟩
 ·
  replace hm := im' hm c68
  refine ewp_skip (ewp_seq (ewp_region (l_bslice 3 (by decide) O66 (xs := (([] : List Int) : List Int)) rfl rfl rfl rfl trivial (by decide) (by decide) rfl fun g69 w70 O71 S72 h73 => ?_)))
  refine o_mv rfl rfl ?_
  obtain ⟨u75, e76, hm⟩ := bs hm
  obtain ⟨e76, e77, e78⟩ := appI_some e76
  replace hx1 := hx1.st S72
  refine l_append rfl h73 (hx1.rd) rfl rfl (by decide) e77 e78 rfl fun A79 c80 w81 O82 S83 h84 => ?_
  rw [← e76] at h84 ⊢
  refine o_as rfl rfl (o_z ?_)
  refine ewp_seq (ewp_seq (ewp_region (o_fa rfl rfl ?_)))
  replace h27 := (h27.st S72).st S83
  refine o_ld (hc := Blk.cell (i := 3) (h27.1) rfl) rfl rfl ?_
  refine o_mv rfl rfl ?_
  obtain ⟨a86, e87, hm⟩ := bs hm
  obtain ⟨p89, x88⟩ := atI_some' e87
  replace h18 := (h18.st S72).st S83
  obtain ⟨b90, o91, ce92, hA93, hl94, hd95, v97, v98, rfl, h99, h102, r105, z106⟩ := h18.elem' x88
  obtain ⟨A100, c101, rfl⟩ := h99.form
  obtain ⟨A103, c104, rfl⟩ := h102.form
  refine o_iaE (hA := hA93) (hj := (Int.toNat_of_nonneg p89).symm) (hlt := hl94) rfl rfl rfl ?_
  refine o_fa rfl rfl (o_ld (hc := cat3 hd95) rfl rfl ?_)
  refine o_ln rfl rfl ?_
  have l108 : a86.effs.length ≤ 9223372036854775807 := Nat.le_trans h102.len.2.1 h102.len.2.2
  have r107 : inI64 (a86.effs.length : Int) := rngNat l108
  refine o_mv rfl rfl (o_z ?_)
  obtain ⟨res109, hL110, hm⟩ := bs hm
  refine ewp_join (aft res109 (fun (s111 : (List Int)) (x112 : Unit) => [(8, (.slice A79 u75.length c80))]) (fun s111 x112 w' => ∃ O' : Lab, Bs w A w' O' ∧ Rw 3 w' O' 3 (.slice A79 u75.length c80) s111)) ?_ ?_
  ·
   refine ewp_block ?_
   replace hB := (hB.st S72).st S83
   replace hx1 := hx1.st S83
   refine ewp_rng (σ := (List Int)) (X := Unit) (a86.effs.length) hL110 rfl l108 (fun (s111 : (List Int)) (x112 : Unit) => [(1, (.slice A21 x1.length c22)), (8, (.slice A79 u75.length c80)), (39, (.slice A103 a86.effs.length c104))]) _ (fun s111 x112 w' => ∃ O' : Lab, Bs w A w' O' ∧ Vb w' (Fr 0 w' O') (.slice A21 x1.length c22) x1 ∧ Rw 3 w' O' 3 (.slice A79 u75.length c80) s111 ∧ Vb w' (Fr 0 w' O') (.slice A103 a86.effs.length c104) a86.effs) _ () ⟨O82, hB, hx1, h84, h102⟩ ⟨rfl, rfl, rfl, rfl, rfl, trivial⟩ (fun _ _ => ⟨rfl, rfl⟩) (fun _ _ => ⟨rfl, trivial⟩) (fun _ _ _ ⟨O', hB, hx1, h126, h102⟩ => ⟨O', hB, h126⟩) ⟨rfl, rfl, rfl⟩ ⟨rfl, rfl⟩ ?_
   rintro k113 a114 s111 x112 w115 cc117 hx118 ⟨O116, hB, hx1, h126, h102⟩ hf119 hret120 hbrk121
   have rk113 : inI64 (k113 : Int) := rngK hx118 l108
   refine ewp_seq (ewp_region ?_)
   obtain ⟨b128, o129, ce130, hA131, hl132, hd133, v135, rfl, h136, r139, r140⟩ := h102.elem' hx118
   obtain ⟨A137, c138, rfl⟩ := h136.form
   refine o_iaE (hA := hA131) (hj := rfl) (hlt := hl132) rfl rfl rfl ?_
   refine o_la (hl := rfl) (hc := hd133) rfl rfl ?_
   refine l_alloc 4 O116 rfl fun g141 w142 O143 S144 h145 => ?_
   refine l_store h145 rfl rfl rfl (Nat.le_of_ble_eq_true rfl) (by first | exact allOne rfl | simp [Value.cells, Value.oneCell', errV_one]) fun w146 S147 h145 => ?_
   replace h145 : Lc 4 w146 O143 g141 59 [(.slice A137 a114.cond.length c138), (.int .i64 a114.var), (.int .i64 a114.val)] := h145
   refine o_z ?_
   refine ewp_seq (ewp_region (o_fa rfl rfl (o_ld (hc := Blk.cell (i := 0) (h145.1) rfl) rfl rfl ?_)))
   refine o_mv rfl rfl ?_
   obtain ⟨q148, e149, hf119⟩ := bs hf119
   replace hx1 := (hx1.st S144).st S147
   replace h136 := (h136.st S144).st S147
   refine l_callA (O := O143) (A := All w146) (R := fun w' F v => Vb w' F v q148) (c_base_Holds (fun _ h => h) (Vb.mono (F := Fr 0 w146 O143) h136 Fr.lt) (Vb.mono (F := Fr 0 w146 O143) hx1 Fr.lt) e149) rfl rfl fun v154 w150 O151 S152 h153 => ?_
   obtain rfl := h153.bool
   cases q148
   case false =>
    replace hf119 := iF hf119
    refine o_z ?_
    refine ewp_false rfl (ewp_skip ?_)
    obtain rfl := sm hf119
    refine (?_ : Exists _)
    replace hB := ((hB.st S144).st S147).st S152
    replace hx1 := hx1.st S152
    replace h102 := ((h102.st S144).st S147).st S152
    replace h126 := ((h126.st S144).st S147).st S152
    exact ⟨_, (), rfl, ⟨rfl, rfl, rfl, rfl, rfl, trivial⟩, _, hB, hx1, h126, h102⟩
   replace hf119 := iT hf119
   refine o_z ?_
   refine ewp_true rfl (ewp_region (o_mv rfl rfl (o_fa rfl rfl ?_)))
   replace h145 := h145.st S152
   refine o_ld (hc := Blk.cell (i := 1) (h145.1) rfl) rfl rfl ?_
   refine o_fa rfl rfl (o_ld (hc := Blk.cell (i := 2) (h145.1) rfl) rfl rfl ?_)
   obtain ⟨a155, e156, hf119⟩ := bs hf119
   obtain ⟨p158, x157⟩ := atI_some' e156
   replace h126 := ((h126.st S144).st S147).st S152
   obtain ⟨b159, o160, ce161, hA162, hl163, hd164, rfl, r166⟩ := h126.elem x157
   refine o_iaE (hA := hA162) (hj := (Int.toNat_of_nonneg p158).symm) (hlt := hl163) rfl rfl rfl ?_
   refine l_setE rfl h126 (a := a114.val) (vInt r140) hA162 rfl rfl (lt_of_get x157) fun w167 S168 h126 => ?_
   refine o_z ?_
   obtain rfl := sm hf119
   refine (?_ : Exists _)
   replace hB := (((hB.st S144).st S147).st S152).st S168
   replace hx1 := (hx1.st S152).st S168
   replace h102 := (((h102.st S144).st S147).st S152).st S168
   exact ⟨_, (), rfl, ⟨rfl, rfl, rfl, rfl, rfl, trivial⟩, _, hB, hx1, h126, h102⟩
  replace hB := (hB.st S72).st S83
  rintro l169 w170 ⟨s173, x174, rfl, hs172, O171, hB, h126⟩
  replace hm := fin_done hm
  refine ewp_sub _ hs172 ?_
  refine ewp_seq (ewp_region (o_mv rfl rfl (o_as rfl rfl (o_as rfl rfl (o_z ?_)))))
  refine ewp_ret ?_
  obtain ⟨O175, S176, h126⟩ := h126.freeze
  obtain rfl := sm hm
  replace hB := hB.st S176
  exact ret2 rfl (res_tmp rfl) (res_tmp rfl) ⟨hB.ext, _, _, rfl, (Vb.mono (F := Fr 0 w170 O175) h126 hB.out), vBool⟩
noncomputable def m_base_Cost (x0 : Tsk) (x1 : List Int) (x2 : List Int) : Option (Int × Bool) :=
  bnd (rng (ρ := Int × Bool) (fun (k36 : Nat) (a37 : Int) (s34 : (List Int) × Int) => bnd (m_base_Apply x0 s34.1 a37) fun q59 => if (!q59.2) = true then (some (.ret (0, false))) else (bnd (atI x0.ops a37) fun a73 => bnd (chkI (s34.2 + a73.cost)) fun n94 => some (.next (q59.1, n94)))) x2 0 (x1, 0)) fun res32 => fin res32 fun (s101 : (List Int) × Int) => bnd (bnd (m_base_Holds x0.goal s101.1) fun q107 => if q107 = true then some true else some false : Option Bool) fun y103 => some (s101.2, y103)
theorem c_base_Cost {w : World} {A : Nat → Prop} (hA : ∀ k, A k → k < w.heap.size) {vx0 : Value} {x0 : Tsk} (hx0 : Vb w A vx0 x0) {vx1 : Value} {x1 : List Int} (hx1 : Vb w A vx1 x1) {vx2 : Value} {x2 : List Int} (hx2 : Vb w A vx2 x2) {r : Int × Bool} (hm : m_base_Cost x0 x1 x2 = some r) :
    Fn Try.prog 18 [vx0, vx1, vx2] w fun v w' => Ext w w' ∧ T2 w' (upA A w w') v r := by
 obtain ⟨O, hB, hA0⟩ := enter hA
 replace hx0 := hx0.mono hA0
 obtain ⟨cs4, rfl, v5, v6, v7, v8, rfl, h9, h12, h15, h18⟩ := hx0
 obtain ⟨A10, c11, rfl⟩ := h9.form
 obtain ⟨A13, c14, rfl⟩ := h12.form
 obtain ⟨A16, c17, rfl⟩ := h15.form
 obtain ⟨A19, c20, rfl⟩ := h18.form
 replace hx1 := hx1.mono hA0
 obtain ⟨A21, c22, rfl⟩ := hx1.form
 replace hx2 := hx2.mono hA0
 obtain ⟨A23, c24, rfl⟩ := hx2.form
 refine fn_enter Try.func18 rfl Try.ntmps18 rfl ?_
 unfold m_base_Cost at hm
 refine ewp_seq (ewp_region (l_box 2 O rfl rfl fun g25 w26 O27 S28 h29 => ?_))
 replace h29 : Lc 2 w26 O27 g25 26 [(.slice A10 x0.vars.length c11), (.slice A13 x0.init.length c14), (.slice A16 x0.goal.length c17), (.slice A19 x0.ops.length c20)] := h29
 refine o_as rfl rfl (o_as rfl rfl (o_z ?_))
 refine ewp_seq (ewp_region (o_as rfl rfl (o_z ?_)))
 refine ewp_seq (ewp_seq (ewp_region (o_mv rfl rfl (o_ln rfl rfl ?_))))
 replace hx2 := hx2.st S28
 have l31 : x2.length ≤ 9223372036854775807 := Nat.le_trans hx2.len.2.1 hx2.len.2.2
 have r30 : inI64 (x2.length : Int) := rngNat l31
 refine o_mv rfl rfl (o_z ?_)
 obtain ⟨res32, hL33, hm⟩ := bs hm
 refine ewp_join (aft res32 (fun (s34 : (List Int) × Int) (x35 : (Option Addr × Nat)) => [(1, (.slice x35.1 s34.1.length x35.2)), (3, (.pointer (some ⟨g25, 0, none⟩))), (8, (.int .i64 s34.2))]) (fun s34 x35 w' => ∃ O' : Lab, Bs w A w' O' ∧ Vb w' (Fr 0 w' O') (.slice x35.1 s34.1.length x35.2) s34.1 ∧ Lc 2 w' O' g25 26 [(.slice A10 x0.vars.length c11), (.slice A13 x0.init.length c14), (.slice A16 x0.goal.length c17), (.slice A19 x0.ops.length c20)] ∧ Vb w' (Fr 0 w' O') (.slice A10 x0.vars.length c11) x0.vars ∧ Vb w' (Fr 0 w' O') (.slice A13 x0.init.length c14) x0.init ∧ Vb w' (Fr 0 w' O') (.slice A16 x0.goal.length c17) x0.goal ∧ Vb w' (Fr 0 w' O') (.slice A19 x0.ops.length c20) x0.ops ∧ inI64 s34.2)) ?_ ?_
 ·
  refine ewp_block ?_
  replace hB := hB.st S28
  replace hx1 := hx1.st S28
  replace h9 := h9.st S28
  replace h12 := h12.st S28
  replace h15 := h15.st S28
  replace h18 := h18.st S28
  refine ewp_rng (σ := (List Int) × Int) (X := (Option Addr × Nat)) (x2.length) hL33 rfl l31 (fun (s34 : (List Int) × Int) (x35 : (Option Addr × Nat)) => [(1, (.slice x35.1 s34.1.length x35.2)), (3, (.pointer (some ⟨g25, 0, none⟩))), (8, (.int .i64 s34.2)), (13, (.slice A23 x2.length c24))]) _ (fun s34 x35 w' => ∃ O' : Lab, Bs w A w' O' ∧ Vb w' (Fr 0 w' O') (.slice x35.1 s34.1.length x35.2) s34.1 ∧ Lc 2 w' O' g25 26 [(.slice A10 x0.vars.length c11), (.slice A13 x0.init.length c14), (.slice A16 x0.goal.length c17), (.slice A19 x0.ops.length c20)] ∧ Vb w' (Fr 0 w' O') (.slice A10 x0.vars.length c11) x0.vars ∧ Vb w' (Fr 0 w' O') (.slice A13 x0.init.length c14) x0.init ∧ Vb w' (Fr 0 w' O') (.slice A16 x0.goal.length c17) x0.goal ∧ Vb w' (Fr 0 w' O') (.slice A19 x0.ops.length c20) x0.ops ∧ Vb w' (Fr 0 w' O') (.slice A23 x2.length c24) x2 ∧ inI64 s34.2) _ (A21, c22) ⟨O27, hB, hx1, h29, h9, h12, h15, h18, hx2, (show inI64 (0) from by decide)⟩ ⟨rfl, rfl, rfl, rfl, rfl, rfl, trivial⟩ (fun _ _ => ⟨rfl, rfl⟩) (fun _ _ => ⟨rfl, rfl, rfl, trivial⟩) (fun _ _ _ ⟨O', hB, h49, h29, h9, h12, h15, h18, hx2, r50⟩ => ⟨O', hB, h49, h29, h9, h12, h15, h18, r50⟩) ⟨rfl, rfl, rfl⟩ ⟨rfl, rfl⟩ ?_
  rintro k36 a37 s34 x35 w38 cc40 hx41 ⟨O39, hB, h49, h29, h9, h12, h15, h18, hx2, r50⟩ hf42 hret43 hbrk44
  have rk36 : inI64 (k36 : Int) := rngK hx41 l31
  refine ewp_seq (ewp_region ?_)
  obtain ⟨b51, o52, ce53, hA54, hl55, hd56, rfl, r58⟩ := hx2.elem' hx41
  refine o_iaE (hA := hA54) (hj := rfl) (hlt := hl55) rfl rfl rfl ?_
  refine o_ld (hc := cat0 hd56) rfl rfl ?_
  refine o_as rfl rfl (o_z ?_)
  refine ewp_seq (ewp_region (o_la (hl := rfl) (hc := (h29.1).cellsAt) rfl rfl ?_))
  refine o_mv rfl rfl (o_mv rfl rfl ?_)
  obtain ⟨q59, e60, hf42⟩ := bs hf42
  refine l_call (O := O39) (R := fun w' F v => T2 w' F v q59) (c_base_Apply Fr.lt (Vb.ofAgg (cs := [(.slice A10 x0.vars.length c11), (.slice A13 x0.init.length c14), (.slice A16 x0.goal.length c17), (.slice A19 x0.ops.length c20)]) (x := x0) rfl ⟨_, _, _, _, rfl, h9, h12, h15, h18⟩) h49 r58 e60) rfl rfl fun v65 w61 O62 S63 h64 => ?_
  obtain ⟨v66, v67, rfl, h68, h69⟩ := h64
  obtain ⟨A70, c71, rfl⟩ := h68.form
  obtain rfl := h69.bool
  refine o_mv rfl rfl (o_ex rfl rfl rfl (o_ex rfl rfl rfl (o_as rfl rfl (o_as rfl rfl (o_z ?_)))))
  refine ewp_seq (ewp_seq (ewp_region (o_mv rfl rfl (o_nn rfl rfl (o_z ?_)))))
  refine ewp_cond rfl (fun c72 => ?_) (fun c72 => ?_)
  ·
   replace hf42 := ip hf42 c72
   refine ewp_seq (ewp_region (o_as rfl rfl (o_as rfl rfl (o_z ?_))))
   refine ewp_ret ?_
   obtain rfl := sm hf42
   obtain rfl := hret43 _ rfl
   obtain rfl := sm (fin_ret hm)
   replace hB := hB.st S63
   exact ret2 rfl (res_tmp rfl) (res_tmp rfl) ⟨hB.ext, _, _, rfl, (vInt (show inI64 (0) from by decide)), vBool⟩
  ·
   replace hf42 := im' hf42 c72
   refine ewp_skip (ewp_seq (ewp_region (o_mv rfl rfl (o_as rfl rfl (o_z ?_)))))
   refine ewp_region (o_mv rfl rfl (o_fa rfl rfl ?_))
   replace h29 := h29.st S63
   refine o_ld (hc := Blk.cell (i := 3) (h29.1) rfl) rfl rfl ?_
   refine o_mv rfl rfl ?_
   obtain ⟨a73, e74, hf42⟩ := bs hf42
   obtain ⟨p76, x75⟩ := atI_some' e74
   replace h18 := h18.st S63
   obtain ⟨b77, o78, ce79, hA80, hl81, hd82, v84, v85, rfl, h86, h89, r92, z93⟩ := h18.elem' x75
   obtain ⟨A87, c88, rfl⟩ := h86.form
   obtain ⟨A90, c91, rfl⟩ := h89.form
   refine o_iaE (hA := hA80) (hj := (Int.toNat_of_nonneg p76).symm) (hlt := hl81) rfl rfl rfl ?_
   refine o_fa rfl rfl (o_ld (hc := cat1 hd82) rfl rfl ?_)
   obtain ⟨n94, e95, hf42⟩ := bs hf42
   have r96 := (chkI_rng e95)
   refine o_adE (he := e95) rfl rfl rfl ?_
   refine o_as rfl rfl (o_z ?_)
   obtain rfl := sm hf42
   refine (?_ : Exists _)
   replace hB := hB.st S63
   replace hx2 := hx2.st S63
   replace h9 := h9.st S63
   replace h12 := h12.st S63
   replace h15 := h15.st S63
   exact ⟨_, (A70, c71), rfl, ⟨rfl, rfl, rfl, rfl, rfl, rfl, trivial⟩, _, hB, h68, h29, h9, h12, h15, h18, hx2, r96⟩
 replace hB := hB.st S28
 replace h9 := h9.st S28
 replace h12 := h12.st S28
 replace h15 := h15.st S28
 replace h18 := h18.st S28
 rintro l97 w98 ⟨s101, x102, rfl, hs100, O99, hB, h49, h29, h9, h12, h15, h18, r50⟩
 replace hm := fin_done hm
 refine ewp_sub _ hs100 ?_
 refine ewp_seq ?_
 obtain ⟨y103, hy104, hm⟩ := bs hm
 refine ewp_join (fun l' w' => ∃ (x106 : Unit) (O' : Lab), subs l' [(6, (.int .i64 s101.2)), (7, (.bool y103))] ∧ Bs w A w' O') ?_ ?_
 ·
  refine ewp_region (o_mv rfl rfl (o_fa rfl rfl (o_ld (hc := Blk.cell (i := 2) (h29.1) rfl) rfl rfl ?_)))
  refine o_mv rfl rfl ?_
  obtain ⟨q107, e108, hy104⟩ := bs hy104
  refine l_callA (O := O99) (A := All w98) (R := fun w' F v => Vb w' F v q107) (c_base_Holds (fun _ h => h) (Vb.mono (F := Fr 0 w98 O99) h15 Fr.lt) (Vb.mono (F := Fr 0 w98 O99) h49 Fr.lt) e108) rfl rfl fun v113 w109 O110 S111 h112 => ?_
  obtain rfl := h112.bool
  cases q107
  case false =>
   replace hy104 := iF hy104
   refine o_as rfl rfl (o_as rfl rfl (o_z ?_))
   obtain rfl := sm hy104
   replace hB := hB.st S111
   exact ⟨(), _, ⟨rfl, rfl, trivial⟩, hB⟩
  replace hy104 := iT hy104
  refine o_as rfl rfl (o_as rfl rfl (o_z ?_))
  obtain rfl := sm hy104
  replace hB := hB.st S111
  exact ⟨(), _, ⟨rfl, rfl, trivial⟩, hB⟩
 rintro l114 w115 ⟨x106, O116, hs117, hB⟩
 refine ewp_sub _ hs117 ?_
 refine ewp_ret ?_
 obtain rfl := sm hm
 exact ret2 rfl (res_tmp rfl) (res_tmp rfl) ⟨hB.ext, _, _, rfl, (vInt r50), vBool⟩
end
section
open Go Go.RowKit
/-- The state after an operator's effects. -/
def effsOn (s : List Int) : List Eff → List Int → List Int
  | [], out => out
  | e :: r, out => effsOn s r (if holdsB e.cond s = true then out.set e.var.toNat e.val else out)
def succ (o : Opr) (s : List Int) : List Int := effsOn s o.effs s
end
section
open Go Go.RowKit
structure QEn where
  key : Int
  tie : Int
  item : Int
  number : Int
theorem take_get' {α : Type} {l : List α} {m i : Nat} {x : α} (h : (l.take m)[i]? = some x) : l[i]? = some x := by
  by_cases hi : i < m
  · rwa [List.getElem?_take_of_lt hi] at h
  · rw [List.getElem?_take_eq_none (by omega)] at h; cases h
/-- Comes first: by key, tie, number. -/
def bfr (x y : QEn) : Prop := x.key < y.key ∨ (x.key = y.key ∧ (x.tie < y.tie ∨ (x.tie = y.tie ∧ x.number < y.number)))
instance (x y : QEn) : Decidable (bfr x y) := by unfold bfr; infer_instance
/-- Does not come first. -/
def nb (x y : QEn) : Prop := ¬ bfr x y
theorem nb_trans {x y z : QEn} (h1 : nb x y) (h2 : nb y z) : nb x z := by unfold nb bfr at *; omega
theorem nb_of {x y : QEn} (h : bfr x y) : nb y x := by unfold nb bfr at *; omega
theorem nb_rfl (x : QEn) : nb x x := by unfold nb bfr; omega
def HeapOk (l : List QEn) : Prop := ∀ (j : Nat) x y, 0 < j → l[j]? = some x → l[(j - 1) / 2]? = some y → nb x y
def Over (l : List QEn) (i : Nat) : Prop := ∀ (j : Nat) x y, 0 < i → 0 < j → (j - 1) / 2 = i → l[j]? = some x → l[(i - 1) / 2]? = some y → nb x y
def DownI (l : List QEn) (i : Nat) : Prop := (∀ (j : Nat) x y, 0 < j → (j - 1) / 2 ≠ i → l[j]? = some x → l[(j - 1) / 2]? = some y → nb x y) ∧ Over l i
theorem swp_get {l : List QEn} {i j : Nat} {a b : QEn} (hi : l[i]? = some a) (hj : l[j]? = some b) (hne : i ≠ j) (k : Nat) : ((l.set i b).set j a)[k]? = if k = j then some a else if k = i then some b else l[k]? := by
  by_cases h1 : k = j
  · subst h1; rw [if_pos rfl, List.getElem?_set_self (by simpa using lt_of_get hj)]
  · rw [if_neg h1, List.getElem?_set_ne (by omega)]
    by_cases h2 : k = i
    · subst h2; rw [if_pos rfl, List.getElem?_set_self (lt_of_get hi)]
    · rw [if_neg h2, List.getElem?_set_ne (by omega)]
theorem swp_perm {l : List QEn} {i j : Nat} {a b : QEn} (hi : l[i]? = some a) (hj : l[j]? = some b) : ((l.set i b).set j a).Perm l := by
  have h1 := lt_of_get hi
  have h2 := lt_of_get hj
  have e1 : l[i] = a := by rw [List.getElem?_eq_getElem h1] at hi; exact Option.some.inj hi
  have e2 : l[j] = b := by rw [List.getElem?_eq_getElem h2] at hj; exact Option.some.inj hj
  rw [← e1, ← e2]
  exact List.set_set_perm h1 h2
theorem DownI.step {l : List QEn} {i c : Nat} {a b : QEn} (h : DownI l i) (hc : c = 2 * i + 1 ∨ c = 2 * i + 2) (hi : l[i]? = some a) (hj : l[c]? = some b) (hb : bfr b a) (hs : ∀ (j : Nat) x, 0 < j → (j - 1) / 2 = i → l[j]? = some x → nb x b) : DownI ((l.set i b).set c a) c := by
  have hne : i ≠ c := by omega
  have hcp : (c - 1) / 2 = i := by omega
  constructor
  · intro j x y hj0 hjp hx hy
    rw [swp_get hi hj hne] at hx hy
    rw [if_neg hjp] at hy
    by_cases e1 : j = c
    · subst e1
      rw [if_pos rfl] at hx
      rw [if_pos hcp] at hy
      obtain rfl := Option.some.inj hx
      obtain rfl := Option.some.inj hy
      exact nb_of hb
    · rw [if_neg e1] at hx
      by_cases e2 : j = i
      · subst e2
        rw [if_pos rfl] at hx
        rw [if_neg (by omega)] at hy
        obtain rfl := Option.some.inj hx
        exact h.2 c _ y hj0 (by omega) hcp hj hy
      · rw [if_neg e2] at hx
        by_cases e3 : (j - 1) / 2 = i
        · rw [if_pos e3] at hy
          obtain rfl := Option.some.inj hy
          exact hs j x hj0 e3 hx
        · rw [if_neg e3] at hy
          exact h.1 j x y hj0 e3 hx hy
  · intro j x y hc0 hj0 hjc hx hy
    rw [swp_get hi hj hne] at hx hy
    rw [if_neg (by omega), if_neg (by omega)] at hx
    rw [if_neg (by omega), if_pos hcp] at hy
    obtain rfl := Option.some.inj hy
    exact h.1 j x _ hj0 (by omega) hx (by rw [hjc]; exact hj)
theorem DownI.heap {l : List QEn} {i : Nat} (h : DownI l i) (hi : ∀ (j : Nat) x y, 0 < j → (j - 1) / 2 = i → l[j]? = some x → l[i]? = some y → nb x y) : HeapOk l := fun j x y hj hx hy => by
  by_cases e : (j - 1) / 2 = i
  · exact hi j x y hj e hx (by rw [← e]; exact hy)
  · exact h.1 j x y hj e hx hy
theorem heap_root {l : List QEn} (h : HeapOk l) {e : QEn} (he : l[0]? = some e) : ∀ x ∈ l, nb x e := by
  have key : ∀ (n j : Nat) x, j ≤ n → l[j]? = some x → nb x e := by
    intro n
    induction n with
    | zero =>
      intro j x hj hx
      have hj0 : j = 0 := by omega
      rw [hj0, he] at hx
      rw [← Option.some.inj hx]
      exact nb_rfl _
    | succ n ih =>
      intro j x hj hx
      by_cases h0 : j = 0
      · exact ih j x (by omega) hx
      · obtain ⟨y, hy⟩ := some_of_lt (l := l) (k := (j - 1) / 2) (by have := lt_of_get hx; omega)
        exact nb_trans (h j x y (by omega) hx hy) (ih ((j - 1) / 2) y (by omega) hy)
  intro x hx
  obtain ⟨j, hj⟩ := List.getElem?_of_mem hx
  exact key j j x (by omega) hj
end
section
open Go Go.RowKit
abbrev BQ := BxR 98 96 Itm
abbrev AI := An 96 Itm
def toQ (x : Itm) : QEn := ⟨x.cost, 0, x.id, x.order⟩
def qs (l : List Itm) : List QEn := l.map toQ
theorem qs_len (l : List Itm) : (qs l).length = l.length := by simp [qs]
theorem qs_get {l : List Itm} {i : Nat} {x : Itm} (h : l[i]? = some x) : (qs l)[i]? = some (toQ x) := by unfold qs; rw [List.getElem?_map, h]; rfl
theorem qs_set (l : List Itm) (i : Nat) (x : Itm) : qs (l.set i x) = (qs l).set i (toQ x) := by unfold qs; rw [List.map_set]
theorem qs_take (l : List Itm) (n : Nat) : qs (l.take n) = (qs l).take n := by unfold qs; rw [List.map_take]
theorem bLess_eq {l : List Itm} {i j : Nat} {a b : Itm} (ha : l[i]? = some a) (hb : l[j]? = some b) : m_breadth_queue_Less l (i : Int) (j : Int) = some (decide (bfr (toQ a) (toQ b))) := by
  unfold m_breadth_queue_Less
  rw [atI_eq, ha, bnd_some, atI_eq, hb, bnd_some, bnd_some, bnd_some, bnd_some, bnd_some]
  unfold bfr toQ
  by_cases h1 : a.cost < b.cost
  · rw [if_pos h1, bnd_some]; simp [h1]
  · rw [if_neg h1]
    by_cases h2 : a.cost = b.cost
    · rw [if_pos h2]
      by_cases h3 : a.order < b.order
      · rw [if_pos h3, bnd_some]; simp [h2, h3]
      · rw [if_neg h3, bnd_some]; simp [h2, h3]
    · rw [if_neg h2, bnd_some]; simp [h1, h2]
theorem bSwap_eq {l : List Itm} {i j : Nat} {a b : Itm} (ha : l[i]? = some a) (hb : l[j]? = some b) : m_breadth_queue_Swap l (i : Int) (j : Int) = some ((l.set i b).set j a) := by
  have hil := lt_of_get ha
  have hjl := lt_of_get hb
  obtain ⟨c, hc⟩ := some_of_lt (l := l.set i b) (k := j) (by simp; exact hjl)
  unfold m_breadth_queue_Swap
  rw [atI_eq, hb, bnd_some, atI_eq, ha, bnd_some, bnd_some, Int.toNat_natCast, atI_eq, hc, bnd_some, Int.toNat_natCast]
theorem hdown_eq {q : BQ} {n : Nat} (hn : n ≤ q.l.length) (hl : q.l.length ≤ 1000000) (h : DownI (qs (q.l.take n)) 0) : ∃ r, m_container_heap_down q 0 (n : Int) = some r ∧ HeapOk (qs (r.2.l.take n)) ∧ (qs (r.2.l.take n)).Perm (qs (q.l.take n)) ∧ r.2.l.drop n = q.l.drop n ∧ r.2.l.length = q.l.length := by
  unfold m_container_heap_down
  refine lop_ex (fun s => ∃ i : Nat, s.1 = (i : Int) ∧ DownI (qs (s.2.l.take n)) i ∧ i ≤ n ∧ (qs (s.2.l.take n)).Perm (qs (q.l.take n)) ∧ s.2.l.drop n = q.l.drop n ∧ s.2.l.length = q.l.length) (fun s => HeapOk (qs (s.2.l.take n)) ∧ (qs (s.2.l.take n)).Perm (qs (q.l.take n)) ∧ s.2.l.drop n = q.l.drop n ∧ s.2.l.length = q.l.length) (fun _ => False) (fun s => n - s.1.toNat) ⟨0, rfl, h, by omega, List.Perm.refl _, rfl, rfl⟩ ?_ ?_ (fun s hs => hs.elim)
  · rintro ⟨c, s⟩ ⟨i, hc, hd, hi, hp, hdr, hsl⟩
    dsimp only at hc hd hi hp hdr hsl ⊢
    subst hc
    rw [chkI_eq (by unfold inI64; omega), bnd_some, chkI_eq (by unfold inI64; omega), bnd_some]
    by_cases h1 : (n : Int) ≤ 2 * (i : Int) + 1
    · rw [if_pos h1, bnd_some, if_t]
      refine .inr (.inl ⟨_, rfl, hd.heap fun j x y hj hji hx _ => ?_, hp, hdr, hsl⟩)
      have := lt_of_get hx
      rw [qs_len, List.length_take] at this
      omega
    rw [if_neg h1, if_neg (by omega), bnd_some, if_f]
    obtain ⟨a, ha⟩ := some_of_lt (l := s.l) (k := i) (by omega)
    obtain ⟨b, hb⟩ := some_of_lt (l := s.l) (k := 2 * i + 1) (by omega)
    have tk : ∀ {k : Nat} {x : Itm}, k < n → s.l[k]? = some x → (qs (s.l.take n))[k]? = some (toQ x) := fun {k x} hk hx => qs_get (by rw [List.getElem?_take_of_lt hk]; exact hx)
    have cast1 : 2 * (i : Int) + 1 = ((2 * i + 1 : Nat) : Int) := by omega
    have cast2 : 2 * (i : Int) + 1 + 1 = ((2 * i + 2 : Nat) : Int) := by omega
    have rest : ∀ (c : Nat) (d : Itm), (c = 2 * i + 1 ∨ c = 2 * i + 2) → c < n → s.l[c]? = some d → (∀ (j : Nat) x, 0 < j → (j - 1) / 2 = i → (qs (s.l.take n))[j]? = some x → nb x (toQ d)) → (∃ s', (bnd (m_breadth_queue_Less s.l (c : Int) (i : Int)) fun q97 => if q97 = true then bnd (m_breadth_queue_Swap s.l (i : Int) (c : Int)) fun q109 => some (Ctl.next (ρ := Bool × BQ) ((c : Int), (⟨q109⟩ : BQ))) else some (.brk ((i : Int), s))) = some (.next s') ∧ (∃ i : Nat, s'.1 = (i : Int) ∧ DownI (qs (s'.2.l.take n)) i ∧ i ≤ n ∧ (qs (s'.2.l.take n)).Perm (qs (q.l.take n)) ∧ s'.2.l.drop n = q.l.drop n ∧ s'.2.l.length = q.l.length) ∧ n - s'.1.toNat < n - ((i : Int)).toNat) ∨ (∃ s', (bnd (m_breadth_queue_Less s.l (c : Int) (i : Int)) fun q97 => if q97 = true then bnd (m_breadth_queue_Swap s.l (i : Int) (c : Int)) fun q109 => some (Ctl.next (ρ := Bool × BQ) ((c : Int), (⟨q109⟩ : BQ))) else some (.brk ((i : Int), s))) = some (.brk s') ∧ HeapOk (qs (s'.2.l.take n)) ∧ (qs (s'.2.l.take n)).Perm (qs (q.l.take n)) ∧ s'.2.l.drop n = q.l.drop n ∧ s'.2.l.length = q.l.length) ∨ ∃ r, (bnd (m_breadth_queue_Less s.l (c : Int) (i : Int)) fun q97 => if q97 = true then bnd (m_breadth_queue_Swap s.l (i : Int) (c : Int)) fun q109 => some (Ctl.next (ρ := Bool × BQ) ((c : Int), (⟨q109⟩ : BQ))) else some (.brk ((i : Int), s))) = some (.ret r) ∧ False := by
      intro c d hc hcn hd' hs
      rw [bLess_eq hd' ha, bnd_some]
      have e1 : qs (((s.l.set i d).set c a).take n) = ((qs (s.l.take n)).set i (toQ d)).set c (toQ a) := by
        rw [List.take_set, List.take_set, qs_set, qs_set]
      by_cases hda : bfr (toQ d) (toQ a)
      · rw [decide_eq_true hda, if_t, bSwap_eq ha hd', bnd_some]
        refine .inl ⟨_, rfl, ⟨c, rfl, ?_, by omega, ?_, ?_, by simp; exact hsl⟩, ?_⟩
        · dsimp only; rw [e1]; exact hd.step hc (tk (by omega) ha) (tk hcn hd') hda hs
        · dsimp only; rw [e1]; exact (swp_perm (tk (by omega) ha) (tk hcn hd')).trans hp
        · dsimp only
          rw [← hdr]
          apply List.ext_getElem?
          intro k
          rw [List.getElem?_drop, List.getElem?_drop, List.getElem?_set_ne (by omega), List.getElem?_set_ne (by omega)]
        · dsimp only; omega
      · rw [decide_eq_false hda, if_f]
        refine .inr (.inl ⟨_, rfl, hd.heap fun j x y hj hji hx hy => ?_, hp, hdr, hsl⟩)
        rw [tk (by omega) ha] at hy
        obtain rfl := Option.some.inj hy
        exact nb_trans (hs j x hj hji hx) hda
    rw [chkI_eq (by unfold inI64; omega), bnd_some]
    by_cases h2 : 2 * (i : Int) + 1 + 1 < (n : Int)
    · obtain ⟨d, hd'⟩ := some_of_lt (l := s.l) (k := 2 * i + 2) (by omega)
      rw [if_pos h2, cast2, cast1, bLess_eq hd' hb, bnd_some]
      by_cases hdb : bfr (toQ d) (toQ b)
      · rw [decide_eq_true hdb, if_t, bnd_some, if_t, bnd_some]
        refine rest (2 * i + 2) d (.inr rfl) (by omega) hd' fun j x hj hji hx => ?_
        have : j = 2 * i + 1 ∨ j = 2 * i + 2 := by omega
        rcases this with rfl | rfl
        · rw [tk (by omega) hb] at hx; obtain rfl := Option.some.inj hx; exact nb_of hdb
        · rw [tk (by omega) hd'] at hx; obtain rfl := Option.some.inj hx; exact nb_rfl _
      · rw [decide_eq_false hdb, if_f, bnd_some, if_f, bnd_some]
        refine rest (2 * i + 1) b (.inl rfl) (by omega) hb fun j x hj hji hx => ?_
        have : j = 2 * i + 1 ∨ j = 2 * i + 2 := by omega
        rcases this with rfl | rfl
        · rw [tk (by omega) hb] at hx; obtain rfl := Option.some.inj hx; exact nb_rfl _
        · rw [tk (by omega) hd'] at hx; obtain rfl := Option.some.inj hx; exact hdb
    · rw [if_neg h2, bnd_some, if_f, bnd_some, cast1]
      refine rest (2 * i + 1) b (.inl rfl) (by omega) hb fun j x hj hji hx => ?_
      have : j = 2 * i + 1 := by have := lt_of_get hx; rw [qs_len, List.length_take] at this; omega
      subst this
      rw [tk (by omega) hb] at hx; obtain rfl := Option.some.inj hx; exact nb_rfl _
  · intro s hs
    by_cases hz : 0 < s.1
    · rw [fin_d, if_pos hz, bnd_some]; exact ⟨_, rfl, hs⟩
    · rw [fin_d, if_neg hz, bnd_some]; exact ⟨_, rfl, hs⟩
theorem hpop_eq {q : BQ} (h : HeapOk (qs q.l)) (h0 : 0 < q.l.length) (hl : q.l.length ≤ 900000) : ∃ r, m_container_heap_Pop q = some r ∧ ∃ (e : Itm) (q' : BQ), r = ((⟨e⟩ : AI), q') ∧ HeapOk (qs q'.l) ∧ (qs q.l).Perm (toQ e :: qs q'.l) ∧ ∀ x ∈ qs q.l, nb x (toQ e) := by
  obtain ⟨e, he⟩ := some_of_lt (l := q.l) (k := 0) h0
  obtain ⟨z, hz⟩ := some_of_lt (l := q.l) (k := q.l.length - 1) (by omega)
  have cz : ((q.l.length : Int) - 1) = ((q.l.length - 1 : Nat) : Int) := by omega
  have sw : m_breadth_queue_Swap q.l 0 ((q.l.length - 1 : Nat) : Int) = some ((q.l.set 0 z).set (q.l.length - 1) e) := bSwap_eq (i := 0) he hz
  unfold m_container_heap_Pop m_breadth_queue_Len
  rw [bnd_some, chkI_eq (by unfold inI64; omega), bnd_some, cz, sw, bnd_some]
  have tk : ((q.l.set 0 z).set (q.l.length - 1) e).take (q.l.length - 1) = (q.l.set 0 z).take (q.l.length - 1) := by
    rw [List.take_set]
    exact List.set_eq_of_length_le (by simp)
  have hperm : (qs q.l).Perm (toQ e :: qs ((q.l.set 0 z).take (q.l.length - 1))) := by
    have : q.l.Perm (e :: (q.l.set 0 z).take (q.l.length - 1)) := by
      cases hq : q.l with
      | nil => rw [hq] at h0; simp at h0
      | cons a tl =>
        rw [hq] at he hz
        simp at he
        subst he
        cases htl : tl.reverse with
        | nil =>
          have : tl = [] := by simpa using htl
          subst this
          simp
        | cons w r =>
          have htl' : tl = r.reverse ++ [w] := by have := congrArg List.reverse htl; simpa using this
          subst htl'
          simp at hz
          subst hz
          simp
    exact this.map toQ
  obtain ⟨r, r1, r2, r3, r4, r5⟩ := hdown_eq (q := ⟨(q.l.set 0 z).set (q.l.length - 1) e⟩) (n := q.l.length - 1) (by simp) (by simp; omega) (by
    dsimp only
    rw [tk]
    refine ⟨fun j x y hj hjp hx hy => ?_, fun j x y h1 => by omega⟩
    rw [qs_take, qs_set] at hx hy
    have hx' := take_get' hx
    have hy' := take_get' hy
    rw [List.getElem?_set_ne (by omega)] at hx' hy'
    exact h j x y hj hx' hy')
  dsimp only at r3 r4 r5
  rw [tk] at r3
  simp only [List.length_set] at r5
  rw [r1, bnd_some]
  unfold m_breadth_queue_Pop
  have hlast : r.2.l[q.l.length - 1]? = some e := by
    have : (r.2.l.drop (q.l.length - 1))[0]? = some e := by
      rw [r4, List.getElem?_drop, Nat.add_zero, List.getElem?_set_self (by simp; omega)]
    rwa [List.getElem?_drop, Nat.add_zero] at this
  have hcut : cutI r.2.l 0 ((q.l.length - 1 : Nat) : Int) = some (r.2.l.take (q.l.length - 1)) := by
    unfold cutI
    rw [if_pos (by simp; omega)]
    simp
  rw [r5, cz, chkI_eq (by unfold inI64; omega), bnd_some, atI_eq, hlast, bnd_some, hcut, bnd_some, bnd_some]
  exact ⟨_, rfl, e, ⟨r.2.l.take (q.l.length - 1)⟩, rfl, r2, hperm.trans (List.Perm.cons _ r3.symm), heap_root h (qs_get he)⟩
end
section
open Go Go.RowKit
attribute [local irreducible] ewp owp hwp hwq hws Ev Evg Fn retPost loud loudS Res1
structure Rsl where
  verdict : Int
  plan : List Int
  cost : Int
  expanded : Int
instance : Rp Rsl where
  isAgg := true
  size := 4
  R w F cs x := ∃ v0, cs = [.int .i64 x.verdict, v0, .int .i64 x.cost, .int .i64 x.expanded] ∧ Vb w F v0 x.plan ∧ inI64 x.verdict ∧ inI64 x.cost ∧ inI64 x.expanded
  len := by rintro w F cs x ⟨v0, rfl, h0, h1, h2, h3⟩; rfl
  one := by rintro w F cs x ⟨v0, rfl, h0, h1, h2, h3⟩ u hu; simp at hu; rcases hu with rfl | rfl | rfl | rfl <;> first | rfl | exact Vb.one rfl (by assumption)
  agree := by rintro w w' F cs x ⟨v0, rfl, h0, h1, h2, h3⟩ ha; exact ⟨v0, rfl, h0.agree ha, h1, h2, h3⟩
  mono := by rintro w F G cs x ⟨v0, rfl, h0, h1, h2, h3⟩ ha; exact ⟨v0, rfl, h0.mono ha, h1, h2, h3⟩
end
section
open Go Go.RowKit
theorem ex_next {σ ρ : Type} {x : Option (Ctl σ ρ)} {I : σ → Prop} (h : ∃ r, x = some r ∧ ∃ s', r = Ctl.next s' ∧ I s') : ∃ s', x = some (.next s') ∧ I s' := by
  obtain ⟨_, h1, s', rfl, h2⟩ := h
  exact ⟨s', h1, h2⟩
def FldOk (W : Nat) (f : PFd) (n : Int) : Prop := ∃ k b w : Nat, f = ⟨k, b, w, n⟩ ∧ k < W ∧ b + w ≤ 64 ∧ w ≤ 6 ∧ n ≤ 2 ^ w
/-- Fields that lie behind one another, one for each variable. -/
def PkOk (vars : List Int) (p : Pkr) : Prop := p.fields.length = vars.length ∧ (∃ W : Nat, p.words = (W : Int) ∧ 1 ≤ W ∧ W ≤ vars.length + 1 ∧ ∀ (i : Nat) f n, p.fields[i]? = some f → vars[i]? = some n → FldOk W f n) ∧
  ∀ (i j : Nat) f g, i < j → p.fields[i]? = some f → p.fields[j]? = some g → f.word < g.word ∨ (f.word = g.word ∧ f.bit + f.width ≤ g.bit)
theorem shl_one : ∀ {w : Nat}, w ≤ 6 → shlI 1 (w : Int) = some ((2 ^ w : Nat) : Int) := by
  intro w h
  have : w = 0 ∨ w = 1 ∨ w = 2 ∨ w = 3 ∨ w = 4 ∨ w = 5 ∨ w = 6 := by omega
  rcases this with rfl | rfl | rfl | rfl | rfl | rfl | rfl <;> rfl
theorem pow_le6 {w : Nat} {n : Int} (hw : w ≤ 6) (h : ((2 ^ w : Nat) : Int) < n) (hn : n ≤ 64) : w < 6 := by
  rcases Nat.lt_or_ge w 6 with hh | hh
  · exact hh
  · obtain rfl : w = 6 := by omega
    simp at h; omega
/-- All fields lie before a place. -/
def PkI (vars : List Int) (B W : Nat) (fs : List PFd) : Prop := (∀ (i : Nat) f n, fs[i]? = some f → vars[i]? = some n → FldOk W f n) ∧
  (∀ (i j : Nat) f g, i < j → fs[i]? = some f → fs[j]? = some g → f.word < g.word ∨ (f.word = g.word ∧ f.bit + f.width ≤ g.bit)) ∧ ∀ (i : Nat) f, fs[i]? = some f → f.word + 1 < (W : Int) ∨ (f.word + 1 = (W : Int) ∧ f.bit + f.width ≤ (B : Int))
theorem PkI.over {vars : List Int} {B W : Nat} {fs : List PFd} (h : PkI vars B W fs) : PkI vars 0 (W + 1) fs :=
  ⟨fun i f n hf hn => by obtain ⟨k, b, w, e, e1, e2⟩ := h.1 i f n hf hn; exact ⟨k, b, w, e, by omega, e2⟩, h.2.1, fun i f hf => by have := h.2.2 i f hf; omega⟩
theorem app_get {α : Type} {l : List α} {x y : α} {i : Nat} (h : (l ++ [x])[i]? = some y) : l[i]? = some y ∨ (i = l.length ∧ y = x) := by
  rcases Nat.lt_trichotomy i l.length with hi | hi | hi
  · rw [List.getElem?_append_left hi] at h; exact .inl h
  · subst hi; simp at h; exact .inr ⟨rfl, h.symm⟩
  · rw [List.getElem?_append_right (by omega)] at h
    rw [List.getElem?_eq_none (by simp; omega)] at h
    cases h
theorem PkI.add {vars : List Int} {B W w : Nat} {fs : List PFd} {n : Int} (h : PkI vars B W fs) (hW : 1 ≤ W) (hn : vars[fs.length]? = some n) (hB : B + w ≤ 64) (hw : w ≤ 6) (hnw : n ≤ 2 ^ w) : PkI vars (B + w) W (fs ++ [⟨(W : Int) - 1, (B : Int), (w : Int), n⟩]) := by
  refine ⟨fun i f n' hf hn' => ?_, fun i j f g hij hf hg => ?_, fun i f hf => ?_⟩
  · rcases app_get hf with hh | ⟨rfl, rfl⟩
    · exact h.1 i f n' hh hn'
    · rw [hn] at hn'
      obtain rfl := Option.some.inj hn'
      exact ⟨W - 1, B, w, by congr 1; omega, by omega, hB, hw, hnw⟩
  · rcases app_get hg with hh | ⟨rfl, rfl⟩
    · rcases app_get hf with hk | ⟨rfl, rfl⟩
      · exact h.2.1 i j f g hij hk hh
      · have := lt_of_get hh; omega
    · rcases app_get hf with hk | ⟨rfl, rfl⟩
      · have := h.2.2 i f hk
        dsimp only
        omega
      · omega
  · rcases app_get hf with hh | ⟨rfl, rfl⟩
    · have := h.2.2 i f hh; omega
    · dsimp only; omega
/-- The packer of proper variables. -/
theorem packNew_eq {vars : List Int} (hl : vars.length ≤ 64) (hv : ∀ (i : Nat) n, vars[i]? = some n → 1 ≤ n ∧ n ≤ 64) : ∃ r, m_pack_New vars = some r ∧ ∃ p, r = (some p, ⟨0⟩) ∧ PkOk vars p := by
  unfold m_pack_New
  rw [if_neg (by omega)]
  refine rng_ex (fun m s => ∃ B W : Nat, s.1 = (B : Int) ∧ B ≤ 64 ∧ s.2.words = (W : Int) ∧ 1 ≤ W ∧ W ≤ m + 1 ∧ s.2.fields.length = m ∧ PkI vars B W s.2.fields) (fun _ => False)
    ⟨0, 1, rfl, by omega, rfl, by omega, by omega, rfl, fun i f n h => by simp at h, fun i j f g _ h => by simp at h, fun i f h => by simp at h⟩ ?_ ?_ (fun q hq => hq.elim)
  · rintro m n ⟨s1, s2⟩ hm ⟨B, W, hs1, hB, hW, hW1, hWm, hlen, hI⟩
    dsimp only at hs1 hW hlen hI
    subst hs1
    obtain ⟨hn1, hn2⟩ := hv m n hm
    have hml := lt_of_get hm
    refine .inl (ex_next ?_)
    rw [if_neg (by omega), if_neg (by omega), bnd_some, if_f]
    refine lop_ex (fun c => ∃ w : Nat, c = (w : Int) ∧ w ≤ 6) (fun c => ∃ w : Nat, c = (w : Int) ∧ w ≤ 6 ∧ n ≤ 2 ^ w) (fun _ => False) (fun c => 7 - c.toNat) ⟨0, rfl, by omega⟩ ?_ ?_ (fun q hq => hq.elim)
    · rintro c ⟨w, rfl, hw⟩
      rw [shl_one hw, bnd_some]
      by_cases hlt : ((2 ^ w : Nat) : Int) < n
      · have := pow_le6 hw hlt hn2
        rw [if_pos hlt, chkI_eq (by unfold inI64; omega), bnd_some]
        exact .inl ⟨_, rfl, ⟨w + 1, by omega, by omega⟩, by omega⟩
      · rw [if_neg hlt]
        refine .inr (.inl ⟨_, rfl, w, rfl, hw, ?_⟩)
        have : ((2 ^ w : Nat) : Int) = (2 : Int) ^ w := by simp
        omega
    · rintro c ⟨w, rfl, hw, hnw⟩
      rw [fin_d, chkI_eq (by unfold inI64; omega), bnd_some]
      have fin' : ∀ (B' W' : Nat) (q : Pkr), B' + w ≤ 64 → 1 ≤ W' → W' ≤ m + 2 → q.words = (W' : Int) → q.fields = s2.fields → PkI vars B' W' s2.fields → ∃ r, (bnd (chkI (q.words - 1)) fun n133 => bnd (appI 32 q.fields [(⟨n133, (B' : Int), (w : Int), n⟩ : PFd)]) fun u142 => bnd (chkI ((B' : Int) + (w : Int))) fun n155 => some (Ctl.next (ρ := (Option Pkr) × Err) (n155, (⟨u142, q.words⟩ : Pkr)))) = some r ∧ ∃ s', r = Ctl.next s' ∧ ∃ B W : Nat, s'.1 = (B : Int) ∧ B ≤ 64 ∧ s'.2.words = (W : Int) ∧ 1 ≤ W ∧ W ≤ m + 1 + 1 ∧ s'.2.fields.length = m + 1 ∧ PkI vars B W s'.2.fields := by
        intro B' W' q hB' hW' hWm' hq1 hq2 hI'
        rw [hq1, hq2, chkI_eq (by unfold inI64; omega), bnd_some, appI_eq (by simp; omega) (by simp; omega), bnd_some, chkI_eq (by unfold inI64; omega), bnd_some]
        exact ⟨_, rfl, _, rfl, B' + w, W', by simp, hB', rfl, hW', by omega, by simp [hlen], hI'.add hW' (by rw [hlen]; exact hm) hB' hw hnw⟩
      by_cases hover : 64 < (B : Int) + (w : Int)
      · rw [if_pos hover]
        dsimp only
        rw [hW, chkI_eq (by unfold inI64; omega), bnd_some, bnd_some]
        exact fin' 0 (W + 1) ⟨s2.fields, (W : Int) + 1⟩ (by omega) (by omega) (by omega) (by simp) rfl hI.over
      · rw [if_neg hover, bnd_some]
        exact fin' B W s2 (by omega) hW1 (by omega) hW rfl hI
  · rintro ⟨s1, s2⟩ ⟨B, W, hs1, hB, hW, hW1, hWm, hlen, hI⟩
    exact ⟨_, rfl, s2, rfl, hlen, ⟨W, hW, hW1, hWm, hI.1⟩, hI.2.1⟩
/-- A bit that a field's value sets. -/
def InF (f : PFd) (x : Int) (k c : Nat) : Prop := f.word = (k : Int) ∧ f.bit ≤ (c : Int) ∧ (c : Int) < f.bit + f.width ∧ x.toNat.testBit (c - f.bit.toNat) = true
def Bits (fs : List PFd) (s : List Int) (p : Nat → Prop) (ws : List U64) : Prop := ∀ (k c : Nat) a, ws[k]? = some a → c < 64 → (a.getLsbD c = true ↔ ∃ (i : Nat) (f : PFd) (x : Int), p i ∧ fs[i]? = some f ∧ s[i]? = some x ∧ InF f x k c)
theorem ones {w : Nat} (h : w ≤ 6) : ((1 : U64) <<< w) - (1 : U64) = BitVec.ofNat 64 (2 ^ w - 1) := by
  have : w = 0 ∨ w = 1 ∨ w = 2 ∨ w = 3 ∨ w = 4 ∨ w = 5 ∨ w = 6 := by omega
  rcases this with rfl | rfl | rfl | rfl | rfl | rfl | rfl <;> rfl
theorem mask_bit {w b c : Nat} (hw : w ≤ 6) (hc : c < 64) : ((((1 : U64) <<< w) - (1 : U64)) <<< b).getLsbD c = (decide (b ≤ c) && decide (c < b + w)) := by
  rw [ones hw, BitVec.getLsbD_shiftLeft, BitVec.getLsbD_ofNat, Nat.testBit_two_pow_sub_one]
  by_cases h1 : b ≤ c <;> by_cases h2 : c < b + w <;> simp [h1, h2, hc] <;> omega
theorem val_bit {x : Int} {w j : Nat} (h0 : 0 ≤ x) (h1 : x < 2 ^ w) (ht : x.toNat.testBit j = true) : j < w := by
  rcases Nat.lt_or_ge j w with h | h
  · exact h
  · have h2 : x.toNat < 2 ^ w := by
      have : ((2 ^ w : Nat) : Int) = (2 : Int) ^ w := by simp
      omega
    rw [Nat.testBit_lt_two_pow (Nat.lt_of_lt_of_le h2 (Nat.pow_le_pow_right (by omega) h))] at ht
    cases ht
theorem PkOk.field {vars : List Int} {p : Pkr} (h : PkOk vars p) {s : List Int} (hs : StateOk vars s) {i : Nat} {f : PFd} (hf : p.fields[i]? = some f) : ∃ (k b w : Nat) (n x : Int), f = ⟨k, b, w, n⟩ ∧ (k : Int) < p.words ∧ b + w ≤ 64 ∧ w ≤ 6 ∧ s[i]? = some x ∧ 0 ≤ x ∧ x < n ∧ x < 2 ^ w := by
  obtain ⟨h1, ⟨W, hW, _, _, h2⟩, h3⟩ := h
  have hi := lt_of_get hf
  obtain ⟨n, hn⟩ := some_of_lt (l := vars) (k := i) (by omega)
  obtain ⟨x, hx⟩ := some_of_lt (l := s) (k := i) (by have := hs.1; omega)
  obtain ⟨k, b, w, e, e1, e2, e3, e4⟩ := h2 i f n hf hn
  have := hs.2 i x n hx hn
  exact ⟨k, b, w, n, x, e, by omega, e2, e3, hx, this.1, this.2, by omega⟩
theorem PkOk.same {vars : List Int} {p : Pkr} (h : PkOk vars p) {i j : Nat} {f g : PFd} {k c : Nat} (hf : p.fields[i]? = some f) (hg : p.fields[j]? = some g) (h1 : f.word = (k : Int) ∧ f.bit ≤ (c : Int) ∧ (c : Int) < f.bit + f.width) (h2 : g.word = (k : Int) ∧ g.bit ≤ (c : Int) ∧ (c : Int) < g.bit + g.width) : i = j := by
  rcases Nat.lt_trichotomy i j with hh | hh | hh
  · have := h.2.2 i j f g hh hf hg; omega
  · exact hh
  · have := h.2.2 j i g f hh hg hf; omega
theorem pack_eq {vars : List Int} {p : Pkr} (h : PkOk vars p) (hl : vars.length ≤ 64) {s : List Int} (hs : StateOk vars s) : ∃ r, m_pack_Packer_Pack p s = some r ∧ r.2 = ⟨0⟩ ∧ (r.1.length : Int) = p.words ∧ Bits p.fields s (fun _ => True) r.1 := by
  obtain ⟨W, hW, hW1, hW2, _⟩ := h.2.1
  unfold m_pack_Packer_Pack
  rw [if_neg (by have := h.1; have := hs.1; omega), hW, mkI_eq (by omega) (by omega), bnd_some]
  refine rng_ex (fun m ws => (ws.length : Int) = (W : Int) ∧ Bits p.fields s (fun i => i < m) ws) (fun _ => False) ⟨by simp, ?_⟩ ?_ ?_ (fun q hq => hq.elim)
  · intro k c a ha _
    have := List.eq_of_mem_replicate (List.mem_of_getElem? ha)
    subst this
    constructor
    · intro hh; simp at hh
    · rintro ⟨i, _, _, hi, _⟩; omega
  · rintro m f ws hm ⟨hwl, hb⟩
    refine .inl (ex_next ?_)
    obtain ⟨k, b, w, n, x, rfl, hk, hbw, hw, hx, hx0, hxn, hxw⟩ := h.field hs hm
    dsimp only
    obtain ⟨a, ha⟩ := some_of_lt (l := ws) (k := k) (by omega)
    rw [hx, bnd_some, if_neg (by omega), bnd_some, if_neg (by omega), bnd_some, if_f, atI_eq, ha, bnd_some, bnd_some]
    unfold shlU
    rw [if_pos (by omega), bnd_some, bnd_some]
    refine ⟨_, rfl, _, rfl, by simpa using hwl, ?_⟩
    simp only [Int.toNat_natCast]
    have hxb : ∀ c : Nat, c < 64 → ((a ||| (BitVec.ofInt 64 x <<< b)).getLsbD c = true ↔ a.getLsbD c = true ∨ (b ≤ c ∧ x.toNat.testBit (c - b) = true)) := by
      intro c hc
      have hofi : BitVec.ofInt 64 x = BitVec.ofNat 64 x.toNat := by
        rw [← BitVec.ofInt_natCast, Int.toNat_of_nonneg hx0]
      rw [BitVec.getLsbD_or, BitVec.getLsbD_shiftLeft, hofi, BitVec.getLsbD_ofNat]
      by_cases h1 : b ≤ c
      · have : c - b < 64 := by omega
        simp [hc, h1, this, Nat.not_lt.2 h1]
      · simp [hc, h1, Nat.lt_of_not_le h1]
    intro k' c a' ha' hc
    by_cases e : k = k'
    · subst e
      rw [List.getElem?_set_self (lt_of_get ha)] at ha'
      obtain rfl := Option.some.inj ha'
      rw [hxb c hc, hb k c a ha hc]
      constructor
      · rintro (⟨i, f, y, hi, hr⟩ | ⟨h1, h2⟩)
        · exact ⟨i, f, y, by omega, hr⟩
        · have := val_bit hx0 hxw h2
          exact ⟨m, _, x, by omega, hm, hx, rfl, by dsimp only; omega, by dsimp only; omega, by simpa using h2⟩
      · rintro ⟨i, f, y, hi, hf, hy, hin⟩
        by_cases he : i = m
        · subst he
          rw [hm] at hf
          obtain rfl := Option.some.inj hf
          rw [hx] at hy
          obtain rfl := Option.some.inj hy
          obtain ⟨_, i2, i3, i4⟩ := hin
          dsimp only at i2 i3 i4
          exact .inr ⟨by omega, by simpa using i4⟩
        · exact .inl ⟨i, f, y, by omega, hf, hy, hin⟩
    · rw [List.getElem?_set_ne e] at ha'
      rw [hb k' c a' ha' hc]
      constructor
      · rintro ⟨i, f, y, hi, hr⟩; exact ⟨i, f, y, by omega, hr⟩
      · rintro ⟨i, f, y, hi, hf, hy, hin⟩
        by_cases he : i = m
        · subst he
          rw [hm] at hf
          obtain rfl := Option.some.inj hf
          have := hin.1
          dsimp only at this
          omega
        · exact ⟨i, f, y, by omega, hf, hy, hin⟩
  · rintro ws ⟨hwl, hb⟩
    refine ⟨_, rfl, rfl, hwl, fun k c a ha hc => ?_⟩
    rw [hb k c a ha hc]
    constructor
    · rintro ⟨i, f, x, _, hr⟩; exact ⟨i, f, x, trivial, hr⟩
    · rintro ⟨i, f, x, _, hf, hr⟩; exact ⟨i, f, x, lt_of_get hf, hf, hr⟩
theorem mask_eq {k b w : Nat} {n : Int} : m_pack_field_mask ⟨k, b, w, n⟩ = some ((((1 : U64) <<< w) - (1 : U64)) <<< b) := by
  unfold m_pack_field_mask shlU
  dsimp only
  rw [if_pos (by omega), bnd_some, if_pos (by omega), bnd_some]
  simp
theorem get_eq {vars : List Int} {p : Pkr} (h : PkOk vars p) {s : List Int} (hs : StateOk vars s) {ws : List U64} (hwl : (ws.length : Int) = p.words) (hb : Bits p.fields s (fun _ => True) ws) {i : Nat} {f : PFd} {x : Int} (hf : p.fields[i]? = some f) (hx : s[i]? = some x) : m_pack_field_get f ws = some x := by
  obtain ⟨k, b, w, n, x', rfl, hk, hbw, hw, hx', hx0, hxn, hxw⟩ := h.field hs hf
  rw [hx] at hx'
  obtain rfl := Option.some.inj hx'
  obtain ⟨a, ha⟩ := some_of_lt (l := ws) (k := k) (by omega)
  unfold m_pack_field_get
  dsimp only
  rw [atI_eq, ha, bnd_some, mask_eq, bnd_some]
  unfold shrU
  rw [if_pos (by omega), bnd_some]
  have hval : (a &&& ((((1 : U64) <<< w) - (1 : U64)) <<< b)) >>> b = BitVec.ofNat 64 x.toNat := by
    apply BitVec.eq_of_getLsbD_eq
    intro j hj
    rw [BitVec.getLsbD_ushiftRight, BitVec.getLsbD_and, BitVec.getLsbD_ofNat]
    by_cases hjb : b + j < 64
    · rw [mask_bit hw hjb]
      by_cases hjw : j < w
      · have h1 := hb k (b + j) a ha hjb
        have h2 : a.getLsbD (b + j) = x.toNat.testBit j := by
          cases ht : x.toNat.testBit j with
          | true => exact h1.2 ⟨i, _, x, trivial, hf, hx, rfl, by dsimp only; omega, by dsimp only; omega, by simpa using ht⟩
          | false =>
            cases hg : a.getLsbD (b + j) with
            | false => rfl
            | true =>
              obtain ⟨i', f', x', _, hf', hx', hin⟩ := h1.1 hg
              have hii := h.same (k := k) (c := b + j) hf hf' ⟨rfl, by dsimp only; omega, by dsimp only; omega⟩ ⟨hin.1, hin.2.1, hin.2.2.1⟩
              subst hii
              rw [hf] at hf'
              obtain rfl := Option.some.inj hf'
              rw [hx] at hx'
              obtain rfl := Option.some.inj hx'
              have := hin.2.2.2
              simp at this
              rw [this] at ht
              cases ht
        rw [h2]
        simp [hj, hjw]
      · have hf0 : x.toNat.testBit j = false := by
          cases ht : x.toNat.testBit j with
          | false => rfl
          | true => exact absurd (val_bit hx0 hxw ht) hjw
        simp [hf0, hjw]
    · have hf0 : x.toNat.testBit j = false := by
        cases ht : x.toNat.testBit j with
        | false => rfl
        | true => have := val_bit hx0 hxw ht; omega
      rw [BitVec.getLsbD_of_ge _ _ (by omega)]
      simp [hf0]
  have h64 : (2 : Int) ^ w ≤ 64 := by
    have : w = 0 ∨ w = 1 ∨ w = 2 ∨ w = 3 ∨ w = 4 ∨ w = 5 ∨ w = 6 := by omega
    rcases this with rfl | rfl | rfl | rfl | rfl | rfl | rfl <;> decide
  simp only [Int.toNat_natCast]
  rw [hval]
  congr 1
  rw [BitVec.toInt_eq_toNat_of_lt (by rw [BitVec.toNat_ofNat]; omega), BitVec.toNat_ofNat]
  omega
theorem unpack_eq {vars : List Int} {p : Pkr} (h : PkOk vars p) (hl : vars.length ≤ 64) {s : List Int} (hs : StateOk vars s) {ws : List U64} (hwl : (ws.length : Int) = p.words) (hb : Bits p.fields s (fun _ => True) ws) : m_pack_Packer_Unpack p ws = some (s, ⟨0⟩) := by
  obtain ⟨W, hW, hW1, hW2, _⟩ := h.2.1
  have hsl := hs.1
  have hfl := h.1
  unfold m_pack_Packer_Unpack
  rw [if_neg (by omega), mkI_eq (by omega) (by omega), bnd_some]
  unfold m_slices_Clone_Luint64_uint64
  rw [if_pos (by omega), bnd_some]
  refine rng_bnd (fun m st => st.1.length = s.length ∧ (∀ (i : Nat) x, i < m → s[i]? = some x → st.1[i]? = some x) ∧ st.2.length = ws.length ∧ Bits p.fields s (fun i => m ≤ i) st.2) ⟨by simp; omega, fun i x hi => by omega, rfl, ?_⟩ ?_ ?_
  · intro k c a ha hc
    rw [hb k c a ha hc]
    constructor
    · rintro ⟨i, f, x, _, hr⟩; exact ⟨i, f, x, by omega, hr⟩
    · rintro ⟨i, f, x, _, hr⟩; exact ⟨i, f, x, trivial, hr⟩
  · rintro m f ⟨out, rest⟩ hm ⟨i1, i2, i3, i4⟩
    dsimp only at i1 i2 i3 i4 ⊢
    obtain ⟨k, b, w, n, x, rfl, hk, hbw, hw, hx, hx0, hxn, hxw⟩ := h.field hs hm
    have hml := lt_of_get hx
    obtain ⟨u, hu⟩ := some_of_lt (l := out) (k := m) (by omega)
    obtain ⟨a, ha⟩ := some_of_lt (l := rest) (k := k) (by omega)
    rw [get_eq h hs hwl hb hm hx, bnd_some, hu, bnd_some, List.getElem?_set_self (by omega), bnd_some]
    dsimp only
    rw [if_neg (by omega), atI_eq, ha, bnd_some, mask_eq, bnd_some, bnd_some]
    refine ⟨_, rfl, by simpa using i1, fun i y hi hy => ?_, by simpa using i3, ?_⟩
    · by_cases e : i = m
      · subst e
        rw [hx] at hy
        obtain rfl := Option.some.inj hy
        exact List.getElem?_set_self (by omega)
      · show (out.set m x)[i]? = _
        rw [List.getElem?_set_ne (by omega)]
        exact i2 i y (by omega) hy
    · show Bits p.fields s _ (rest.set ((k : Int)).toNat _)
      simp only [Int.toNat_natCast]
      intro k' c a' ha' hc
      by_cases e : k = k'
      · subst e
        rw [List.getElem?_set_self (lt_of_get ha)] at ha'
        obtain rfl := Option.some.inj ha'
        rw [BitVec.getLsbD_and, BitVec.getLsbD_not, mask_bit hw hc]
        have h1 := i4 k c a ha hc
        constructor
        · intro hh
          simp only [Bool.and_eq_true, Bool.not_eq_true', decide_eq_true_eq] at hh
          obtain ⟨i, f, y, hi, hf, hy, hin⟩ := h1.1 hh.1
          refine ⟨i, f, y, ?_, hf, hy, hin⟩
          rcases Nat.lt_or_ge m i with hlt | hge
          · exact hlt
          · exfalso
            obtain rfl : i = m := by omega
            rw [hm] at hf
            obtain rfl := Option.some.inj hf
            obtain ⟨_, j2, j3, _⟩ := hin
            dsimp only at j2 j3
            have h2 := hh.2.2
            rw [show decide (b ≤ c) = true from by simp; omega, show decide (c < b + w) = true from by simp; omega] at h2
            cases h2
        · rintro ⟨i, f, y, hi, hf, hy, hin⟩
          have hg := h1.2 ⟨i, f, y, by omega, hf, hy, hin⟩
          have hno : ¬ (b ≤ c ∧ c < b + w) := fun hh => by
            have := h.same (k := k) (c := c) hm hf ⟨rfl, by dsimp only; omega, by dsimp only; omega⟩ ⟨hin.1, hin.2.1, hin.2.2.1⟩
            omega
          rw [hg]
          by_cases q1 : b ≤ c
          · have q2 : ¬ c < b + w := fun hh => hno ⟨q1, hh⟩
            simp [hc, q1, q2]
          · simp [hc, q1]
      · rw [List.getElem?_set_ne e] at ha'
        rw [i4 k' c a' ha' hc]
        constructor
        · rintro ⟨i, f, y, hi, hf, hy, hin⟩
          refine ⟨i, f, y, ?_, hf, hy, hin⟩
          rcases Nat.lt_or_ge m i with hlt | hge
          · exact hlt
          · exfalso
            obtain rfl : i = m := by omega
            rw [hm] at hf
            obtain rfl := Option.some.inj hf
            have := hin.1
            dsimp only at this
            omega
        · rintro ⟨i, f, y, hi, hr⟩; exact ⟨i, f, y, by omega, hr⟩
  · rintro ⟨out, rest⟩ ⟨i1, i2, i3, i4⟩
    dsimp only at i1 i2 i3 i4
    rw [fin_d]
    dsimp only
    have hout : out = s := by
      apply List.ext_getElem?
      intro i
      rcases Nat.lt_or_ge i s.length with hi | hi
      · obtain ⟨x, hx⟩ := some_of_lt (l := s) (k := i) hi
        rw [hx]; exact i2 i x (by omega) hx
      · rw [List.getElem?_eq_none hi, List.getElem?_eq_none (by omega)]
    subst hout
    refine rng_bnd (fun _ _ => True) trivial (fun k a _ hk _ => ⟨(), ?_, trivial⟩) (fun _ _ => rfl)
    obtain ⟨a', ha'⟩ := some_of_lt (l := rest) (k := k) (by have := lt_of_get hk; omega)
    rw [ha', bnd_some]
    have hz : a' = 0 := by
      apply BitVec.eq_of_getLsbD_eq
      intro c hc
      cases hg : a'.getLsbD c with
      | false => simp
      | true =>
        obtain ⟨i, f, x, hi, hf, _⟩ := (i4 k c a' ha' hc).1 hg
        have := lt_of_get hf
        omega
    subst hz
    rw [if_neg (by simp)]
theorem pack_inj {vars : List Int} {p : Pkr} (h : PkOk vars p) (hl : vars.length ≤ 64) {s s' : List Int} (hs : StateOk vars s) (hs' : StateOk vars s') {ws : List U64} (h1 : m_pack_Packer_Pack p s = some (ws, ⟨0⟩)) (h2 : m_pack_Packer_Pack p s' = some (ws, ⟨0⟩)) : s = s' := by
  obtain ⟨r, r1, r2, r3, r4⟩ := pack_eq h hl hs
  obtain ⟨q, q1, q2, q3, q4⟩ := pack_eq h hl hs'
  rw [h1] at r1
  rw [h2] at q1
  obtain rfl := Option.some.inj r1
  obtain rfl := Option.some.inj q1
  have e1 := unpack_eq h hl hs r3 r4
  have e2 := unpack_eq h hl hs' q3 q4
  rw [e1] at e2
  have := Option.some.inj e2
  exact congrArg Prod.fst this
end
section
open Go Go.RowKit
theorem mget_mput {K V : Type} [MKey K] (z : V) (k k' : K) (v : V) : ∀ l : List (K × V), mget z (mput l k v) k' = if k = k' then v else mget z l k'
  | [] => by simp only [mput, mget]
  | p :: r => by
    have ih := mget_mput z k k' v r
    simp only [mput]
    by_cases h1 : p.1 = k
    · rw [if_pos h1]
      simp only [mget]
      by_cases h2 : k = k'
      · rw [if_pos h2, if_pos h2]
      · rw [if_neg h2, if_neg h2, if_neg (by rw [h1]; exact h2)]
    · rw [if_neg h1]
      simp only [mget, ih]
      by_cases h2 : k = k'
      · rw [if_pos h2, if_pos h2, if_neg (by rw [← h2]; exact h1)]
      · rw [if_neg h2, if_neg h2]
theorem hash_some (p : Pkr) (ws : List U64) : ∃ h, m_pack_Packer_Hash p ws = some h := by
  have : ∃ r, m_pack_Packer_Hash p ws = some r ∧ True := by
    unfold m_pack_Packer_Hash
    refine rng_ex (fun _ _ => True) (fun _ => False) trivial (fun i x s _ _ => .inl ?_) (fun s _ => ?_) (fun q hq => hq.elim)
    · exact ⟨_, rfl, trivial⟩
    · exact ⟨_, rfl, trivial⟩
  obtain ⟨h, h1, _⟩ := this
  exact ⟨h, h1⟩
theorem eqU_eq (a b : List U64) : m_slices_Equal_Luint64_uint64 a b = some (decide (a = b)) := by
  unfold m_slices_Equal_Luint64_uint64
  by_cases hl : (a.length : Int) = (b.length : Int)
  · rw [if_neg (by omega)]
    have : ∃ r, (bnd (rng (ρ := Bool) (fun (k18 : Nat) (a19 : U64) (_ : Unit) => bnd (b[k18]?) fun a36 => if (a19.toNat : Int) ≠ (a36.toNat : Int) then (some (.ret false)) else (some (.next ()))) a 0 ()) fun res14 => fin res14 fun (_ : Unit) => some true) = some r ∧ r = decide (a = b) := by
      refine rng_ex (fun m _ => ∀ (i : Nat), i < m → a[i]? = b[i]?) (fun r => r = false ∧ a ≠ b) (fun i hi => by omega) ?_ ?_ ?_
      · intro i x _ hx hI
        obtain ⟨y, hy⟩ := some_of_lt (l := b) (k := i) (by have := lt_of_get hx; omega)
        rw [hy, bnd_some]
        by_cases he : x = y
        · subst he
          rw [if_neg (by simp)]
          refine .inl ⟨(), rfl, fun j hj => ?_⟩
          by_cases e : j = i
          · subst e; rw [hx, hy]
          · exact hI j (by omega)
        · rw [if_pos (fun h => he (BitVec.eq_of_toNat_eq (by omega)))]
          refine .inr ⟨_, rfl, rfl, fun h => he ?_⟩
          rw [h, hy] at hx
          exact (Option.some.inj hx).symm
      · intro _ hI
        refine ⟨_, rfl, ?_⟩
        symm
        rw [decide_eq_true_eq]
        apply List.ext_getElem?
        intro i
        rcases Nat.lt_or_ge i a.length with h | h
        · exact hI i h
        · rw [List.getElem?_eq_none h, List.getElem?_eq_none (by omega)]
      · rintro q ⟨rfl, hne⟩
        exact ⟨_, rfl, by simp [hne]⟩
    obtain ⟨r, h1, h2⟩ := this
    rw [h1, h2]
  · rw [if_pos hl]
    congr 1
    symm
    rw [decide_eq_false_iff_not]
    exact fun h => hl (by rw [h])
/-- A registry that holds these states. -/
structure RegI (vars : List Int) (r : Reg) (L : List (List Int)) : Prop where
  pk : PkOk vars r.packer
  len : r.entries.length = L.length
  st : ∀ (i : Nat) s, L[i]? = some s → StateOk vars s
  words : ∀ (i : Nat) s e, L[i]? = some s → r.entries[i]? = some e → m_pack_Packer_Pack r.packer s = some (e.words, ⟨0⟩)
  nodup : ∀ (i j : Nat) s, L[i]? = some s → L[j]? = some s → i = j
  tab : ∀ (i : Nat) e, r.entries[i]? = some e → ∃ h, m_pack_Packer_Hash r.packer e.words = some h ∧ (i : Int) ∈ mget ([] : List Int) r.table.l h
  val : ∀ h a, a ∈ mget ([] : List Int) r.table.l h → ∃ i : Nat, a = (i : Int) ∧ i < L.length
  few : ∀ h, (mget ([] : List Int) r.table.l h).length ≤ L.length
def links (r : Reg) : List RLk := r.entries.map (·.link)
theorem regNew_eq {vars : List Int} (hl : vars.length ≤ 64) (hv : ∀ (i : Nat) n, vars[i]? = some n → 1 ≤ n ∧ n ≤ 64) : ∃ r, m_registry_New vars = some r ∧ ∃ q, r = (some q, ⟨0⟩) ∧ RegI vars q [] ∧ links q = [] := by
  obtain ⟨r, h1, p, rfl, hp⟩ := packNew_eq hl hv
  unfold m_registry_New
  rw [h1, bnd_some, if_neg (by simp), bnd_some]
  exact ⟨_, rfl, _, rfl, ⟨hp, rfl, fun i s h => by simp at h, fun i s e h => by simp at h, fun i j s h => by simp at h, fun i e h => by simp at h, fun h a ha => by simp [mget] at ha, fun h => by simp [mget]⟩, rfl⟩
theorem regFind_eq {vars : List Int} (hl : vars.length ≤ 64) {r : Reg} {L : List (List Int)} (h : RegI vars r L) {s : List Int} (hs : StateOk vars s) : ∃ (ws : List U64) (hh : Int), m_pack_Packer_Pack r.packer s = some (ws, ⟨0⟩) ∧ m_pack_Packer_Hash r.packer ws = some hh ∧
    ((∃ i : Nat, L[i]? = some s ∧ m_registry_Registry_find r s = some (ws, hh, (i : Int), ⟨0⟩)) ∨ ((∀ i : Nat, L[i]? ≠ some s) ∧ m_registry_Registry_find r s = some (ws, hh, -1, ⟨0⟩))) := by
  obtain ⟨⟨ws, er⟩, p1, p2, p3, p4⟩ := pack_eq h.pk hl hs
  dsimp only at p2 p3 p4
  subst p2
  obtain ⟨hh, hhe⟩ := hash_some r.packer ws
  refine ⟨ws, hh, p1, hhe, ?_⟩
  have key : ∃ res, m_registry_Registry_find r s = some res ∧ ((∃ i : Nat, L[i]? = some s ∧ res = (ws, hh, (i : Int), ⟨0⟩)) ∨ ((∀ i : Nat, L[i]? ≠ some s) ∧ res = (ws, hh, -1, ⟨0⟩))) := by
    unfold m_registry_Registry_find
    rw [p1, bnd_some, if_neg (by simp), hhe, bnd_some]
    refine rng_ex (fun m _ => ∀ (j : Nat) (i : Nat), j < m → (mget ([] : List Int) r.table.l hh)[j]? = some (i : Int) → L[i]? ≠ some s) (fun res => ∃ i : Nat, L[i]? = some s ∧ res = (ws, hh, (i : Int), ⟨0⟩)) (fun j i hj => by omega) ?_ ?_ ?_
    · intro m a _ hm hI
      obtain ⟨i, rfl, hi⟩ := h.val hh a (List.mem_of_getElem? hm)
      obtain ⟨e, he⟩ := some_of_lt (l := r.entries) (k := i) (by rw [h.len]; exact hi)
      obtain ⟨s', hs'⟩ := some_of_lt (l := L) (k := i) hi
      have hw := h.words i s' e hs' he
      rw [atI_eq, he, bnd_some, eqU_eq, bnd_some]
      by_cases hew : e.words = ws
      · rw [decide_eq_true hew, if_t]
        rw [hew] at hw
        have := pack_inj h.pk hl (h.st i s' hs') hs hw p1
        subst this
        exact .inr ⟨_, rfl, i, hs', rfl⟩
      · rw [decide_eq_false hew, if_f]
        refine .inl ⟨(), rfl, fun j i' hj hi' => ?_⟩
        by_cases e1 : j = m
        · subst e1
          rw [hm] at hi'
          have e2 : i = i' := by have := Option.some.inj hi'; omega
          subst e2
          intro hL
          rw [hL] at hs'
          obtain rfl := Option.some.inj hs'
          rw [p1] at hw
          exact hew (congrArg Prod.fst (Option.some.inj hw)).symm
        · exact hI j i' (by omega) hi'
    · intro _ hI
      refine ⟨_, rfl, .inr ⟨fun i hL => ?_, rfl⟩⟩
      obtain ⟨e, he⟩ := some_of_lt (l := r.entries) (k := i) (by rw [h.len]; exact lt_of_get hL)
      have hw := h.words i s e hL he
      rw [p1] at hw
      have hwe : ws = e.words := congrArg Prod.fst (Option.some.inj hw)
      obtain ⟨h', t1, t2⟩ := h.tab i e he
      rw [← hwe, hhe] at t1
      obtain rfl := Option.some.inj t1
      obtain ⟨j, hj⟩ := List.getElem?_of_mem t2
      exact hI j i (lt_of_get hj) hj hL
    · rintro q ⟨i, hi, rfl⟩
      exact ⟨_, rfl, .inl ⟨i, hi, rfl⟩⟩
  obtain ⟨res, k1, k2⟩ := key
  rcases k2 with ⟨i, hi, rfl⟩ | ⟨hn, rfl⟩
  · exact .inl ⟨i, hi, k1⟩
  · exact .inr ⟨hn, k1⟩
theorem regAdd_eq {vars : List Int} (hl : vars.length ≤ 64) {r : Reg} {L : List (List Int)} (h : RegI vars r L) {s : List Int} (hs : StateOk vars s) (hL : L.length < 65536) :
    (∃ i : Nat, L[i]? = some s ∧ m_registry_Registry_Add r s = some ((i : Int), false, ⟨0⟩, r)) ∨ ((∀ i : Nat, L[i]? ≠ some s) ∧ ∃ r', m_registry_Registry_Add r s = some ((L.length : Int), true, ⟨0⟩, r') ∧ RegI vars r' (L ++ [s]) ∧ links r' = links r ++ [⟨-1, -1, 0⟩]) := by
  obtain ⟨ws, hh, p1, p2, hf⟩ := regFind_eq hl h hs
  unfold m_registry_Registry_Add
  have hlen := h.len
  rcases hf with ⟨i, hi, hf⟩ | ⟨hno, hf⟩
  · refine .inl ⟨i, hi, ?_⟩
    rw [hf, bnd_some, if_neg (by simp), if_pos (by dsimp only; omega)]
  · refine .inr ⟨hno, ?_⟩
    have hfew := h.few hh
    rw [hf, bnd_some, if_neg (by simp), if_neg (by dsimp only; omega), if_neg (by omega)]
    dsimp only
    rw [appI_eq (by simp; omega) (by simp; omega), bnd_some, appI_eq (by simp; omega) (by simp; omega), bnd_some, hlen]
    have hget : ∀ k, mget ([] : List Int) (mput r.table.l hh (mget ([] : List Int) r.table.l hh ++ [(L.length : Int)])) k = if hh = k then mget ([] : List Int) r.table.l hh ++ [(L.length : Int)] else mget ([] : List Int) r.table.l k := fun k => mget_mput _ _ _ _ _
    refine ⟨_, rfl, ⟨h.pk, by simp [hlen], ?_, ?_, ?_, ?_, ?_, ?_⟩, by simp [links]⟩
    · intro i s' hi
      rcases app_get hi with hi | ⟨_, rfl⟩
      · exact h.st i s' hi
      · exact hs
    · intro i s' e hi he
      rcases app_get hi with hi | ⟨hi, rfl⟩
      · rcases app_get he with he | ⟨he, _⟩
        · exact h.words i s' e hi he
        · have := lt_of_get hi; omega
      · rcases app_get he with he | ⟨he, rfl⟩
        · have := lt_of_get he; omega
        · exact p1
    · intro i j s' hi hj
      rcases app_get hi with hi2 | ⟨hi2, hs2⟩
      · rcases app_get hj with hj2 | ⟨hj2, hs2⟩
        · exact h.nodup i j s' hi2 hj2
        · exact absurd (hs2 ▸ hi2) (hno i)
      · rcases app_get hj with hj2 | ⟨hj2, _⟩
        · exact absurd (hs2 ▸ hj2) (hno j)
        · omega
    · intro i e he
      rcases app_get he with he | ⟨hi, rfl⟩
      · obtain ⟨k, k1, k2⟩ := h.tab i e he
        refine ⟨k, k1, ?_⟩
        dsimp only
        rw [hget]
        by_cases e1 : hh = k
        · subst e1; rw [if_pos rfl]; exact List.mem_append_left _ k2
        · rw [if_neg e1]; exact k2
      · refine ⟨hh, p2, ?_⟩
        dsimp only
        rw [hget, if_pos rfl, hi, hlen]
        simp
    · intro k a ha
      dsimp only at ha
      rw [hget] at ha
      simp only [List.length_append, List.length_singleton]
      by_cases e1 : hh = k
      · rw [if_pos e1] at ha
        rcases List.mem_append.1 ha with ha | ha
        · obtain ⟨i, h1, h2⟩ := h.val hh a ha; exact ⟨i, h1, by omega⟩
        · exact ⟨L.length, by simpa using ha, by omega⟩
      · rw [if_neg e1] at ha
        obtain ⟨i, h1, h2⟩ := h.val k a ha; exact ⟨i, h1, by omega⟩
    · intro k
      dsimp only
      rw [hget]
      have := h.few k
      simp only [List.length_append, List.length_singleton]
      by_cases e1 : hh = k
      · rw [if_pos e1]; simp; omega
      · rw [if_neg e1]; omega
theorem regHas_eq {vars : List Int} {r : Reg} {L : List (List Int)} (h : RegI vars r L) {i : Nat} (hi : i < L.length) : m_registry_Registry_has r (i : Int) = some true := by
  unfold m_registry_Registry_has
  rw [if_pos (by omega), if_pos (by rw [h.len]; omega)]
  rfl
theorem regState_eq {vars : List Int} (hl : vars.length ≤ 64) {r : Reg} {L : List (List Int)} (h : RegI vars r L) {i : Nat} {s : List Int} (hi : L[i]? = some s) : m_registry_Registry_State r (i : Int) = some (s, ⟨0⟩) := by
  obtain ⟨e, he⟩ := some_of_lt (l := r.entries) (k := i) (by rw [h.len]; exact lt_of_get hi)
  have hs := h.st i s hi
  obtain ⟨⟨ws, er⟩, p1, p2, p3, p4⟩ := pack_eq h.pk hl hs
  have hw := h.words i s e hi he
  rw [p1] at hw
  have hwe : ws = e.words := congrArg Prod.fst (Option.some.inj hw)
  dsimp only at p3 p4
  rw [hwe] at p3 p4
  unfold m_registry_Registry_State
  rw [regHas_eq h (lt_of_get hi), bnd_some, if_t, atI_eq, he, bnd_some, unpack_eq h.pk hl hs p3 p4, bnd_some]
theorem rev_eq {xs : List Int} (hl : xs.length ≤ 1000000) : m_slices_Reverse_Lint_int xs = some xs.reverse := by
  unfold m_slices_Reverse_Lint_int
  rw [chkI_eq (by unfold inI64; omega), bnd_some]
  refine lop_bnd (fun s => ∃ i : Nat, s.2.1 = (i : Int) ∧ s.2.1 + s.2.2 = (xs.length : Int) - 1 ∧ i ≤ xs.length ∧ s.1.length = xs.length ∧ ∀ k : Nat, k < xs.length → s.1[k]? = if k < i ∨ xs.length - 1 - k < i then xs[xs.length - 1 - k]? else xs[k]?) (fun s => s.1 = xs.reverse) (fun s => (s.2.2 - s.2.1 + 1).toNat) ⟨0, rfl, by dsimp only; omega, by omega, rfl, fun k hk => by rw [if_neg (by omega)]⟩ ?_ (fun s hs => by rw [fin_d, hs])
  rintro ⟨ys, i', j⟩ ⟨i, hi, hij, hil, hlen, hg⟩
  dsimp only at hi hij hlen hg ⊢
  subst hi
  by_cases hlt : (i : Int) < j
  · obtain ⟨jn, rfl⟩ : ∃ jn : Nat, j = (jn : Int) := ⟨j.toNat, by omega⟩
    obtain ⟨a, ha⟩ := some_of_lt (l := ys) (k := jn) (by omega)
    obtain ⟨b, hb⟩ := some_of_lt (l := ys) (k := i) (by omega)
    rw [if_pos hlt, atI_eq, ha, bnd_some, atI_eq, hb, bnd_some, bnd_some, Int.toNat_natCast, Int.toNat_natCast, atI_eq, List.getElem?_set_ne (by omega), ha, bnd_some, chkI_eq (by unfold inI64; omega), bnd_some, chkI_eq (by unfold inI64; omega), bnd_some]
    refine .inl ⟨_, rfl, ⟨i + 1, by dsimp only; omega, by dsimp only; omega, by omega, by simp [hlen], fun k hk => ?_⟩, by dsimp only; omega⟩
    dsimp only
    have hga := hg jn (by omega)
    rw [ha, if_neg (by omega)] at hga
    have hgb := hg i (by omega)
    rw [hb, if_neg (by omega)] at hgb
    by_cases e1 : k = jn
    · subst e1
      rw [List.getElem?_set_self (by simp; omega), if_pos (by omega), hgb]
      congr 1; omega
    · rw [List.getElem?_set_ne (by omega)]
      by_cases e2 : k = i
      · subst e2
        rw [List.getElem?_set_self (by omega), if_pos (by omega), hga]
        congr 1; omega
      · rw [List.getElem?_set_ne (by omega), hg k hk]
        by_cases e3 : k < i ∨ xs.length - 1 - k < i
        · rw [if_pos e3, if_pos (by omega)]
        · rw [if_neg e3, if_neg (by omega)]
  · rw [if_neg hlt]
    refine .inr ⟨_, rfl, ?_⟩
    dsimp only
    apply List.ext_getElem?
    intro k
    rcases Nat.lt_or_ge k xs.length with hk | hk
    · rw [List.getElem?_reverse hk, hg k hk]
      by_cases e3 : k < i ∨ xs.length - 1 - k < i
      · rw [if_pos e3]
      · rw [if_neg e3]; congr 1; omega
    · rw [List.getElem?_eq_none (by omega), List.getElem?_eq_none (by simp; omega)]
/-- The operators on the way from the root. -/
inductive PathL (lk : List RLk) : Nat → List Int → Prop
  | root {i : Nat} {k : RLk} : lk[i]? = some k → k.parent < 0 → PathL lk i []
  | step {i j : Nat} {k : RLk} {p : List Int} : lk[i]? = some k → k.parent = (j : Int) → PathL lk j p → PathL lk i (p ++ [k.op])
theorem path_eq {vars : List Int} {r : Reg} {L : List (List Int)} (h : RegI vars r L) (hL : L.length ≤ 65536) {i : Nat} {p : List Int} (hp : PathL (links r) i p) (hl : p.length ≤ L.length) : m_registry_Registry_Path r (i : Int) = some (p, ⟨0⟩) := by
  have hget : ∀ {i : Nat} {k : RLk}, (links r)[i]? = some k → ∃ e : REn, r.entries[i]? = some e ∧ e.link = k := by
    intro i k hk
    unfold links at hk
    rw [List.getElem?_map] at hk
    cases he : r.entries[i]? with
    | none => rw [he] at hk; cases hk
    | some e => rw [he] at hk; exact ⟨e, rfl, by simpa using hk⟩
  have hil : i < L.length := by
    have : ∃ k, (links r)[i]? = some k := by cases hp with | root h1 _ => exact ⟨_, h1⟩ | step h1 _ _ => exact ⟨_, h1⟩
    obtain ⟨k, hk⟩ := this
    obtain ⟨e, he, _⟩ := hget hk
    rw [← h.len]; exact lt_of_get he
  unfold m_registry_Registry_Path
  rw [regHas_eq h hil, bnd_some, if_t]
  have key : ∀ {i p}, PathL (links r) i p → ∀ acc : List Int, acc.length + p.length ≤ L.length → lop (ρ := (List Int) × Err) (fun (s14 : Int × (List Int)) => bnd (atI r.entries s14.1) fun a48 => if a48.link.parent < 0 then (bnd (m_slices_Reverse_Lint_int s14.2) fun q74 => some (.ret (q74, (⟨0⟩ : Err)))) else (bnd (appI 8 s14.2 [a48.link.op]) fun u89 => if (r.entries.length : Int) < (u89.length : Int) then (some (.ret (([] : List Int), (⟨21⟩ : Err)))) else (some (.next (a48.link.parent, u89))))) ((i : Int), acc) = some (.ret (p ++ acc.reverse, ⟨0⟩)) := by
    intro i p hp
    induction hp with
    | root h1 h2 =>
      intro acc ha
      obtain ⟨e, he, rfl⟩ := hget h1
      rw [lop_eq]
      dsimp only
      rw [atI_eq, he, bnd_some, if_pos h2, rev_eq (by omega), bnd_some]
      rfl
    | @step i j k p h1 h2 _ ih =>
      intro acc ha
      obtain ⟨e, he, rfl⟩ := hget h1
      simp at ha
      rw [lop_eq]
      dsimp only
      rw [atI_eq, he, bnd_some, if_neg (by omega), appI_eq (by simp; omega) (by simp; omega), bnd_some, if_neg (by rw [h.len]; simp; omega), h2]
      dsimp only
      rw [ih (acc ++ [e.link.op]) (by simp; omega)]
      simp
  rw [key hp [] (by simpa using hl), bnd_some]
  simp [fin]
end
end Go.Proofs.Ythomfnkaicjmbaa

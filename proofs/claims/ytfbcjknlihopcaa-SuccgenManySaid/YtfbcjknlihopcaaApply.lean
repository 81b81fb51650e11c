/- Own text: contracts of slices.Clone at []int and []Fact, of stratagembase.Apply, of the reference's Applicable and Looked. -/
import Derived.Test.YtfbcjknlihopcaaGood
namespace Go.Proofs.Ytfbcjknlihopcaa
open Go Go.RowKit
attribute [local irreducible] ewp owp hwp hwq hws Ev Evg Fn retPost loud loudS Res1
theorem cloneInts {w : World} {sv : Value} {xs : List Int} (hs : V w sv xs) (hl : xs.length * 8 ≤ 140737488355328) :
    Fn Try.prog 34 [sv] w fun v w' => Own w' w.heap.size (All w) 3 v xs ∧ Ext w w' := by
  obtain ⟨A, c, rfl⟩ := hs.form
  refine fn_enter Try.func34 rfl Try.ntmps34 rfl ?_
  cases A with
  | none =>
    have hx : xs = [] := by
      cases xs with
      | nil => rfl
      | cons x xs => obtain ⟨_, _, _, h, _⟩ := hs.elem (k := 0) (x := x) rfl; cases h
    subst hx
    ((repeat (first | refine ewp_seq ?_ | refine ewp_block ?_ | refine ewp_region ?_ | refine ewp_skip ?_ | refine ewp_exit ?_ | refine ewp_ret ?_ | refine ewp_true rfl ?_ | refine ewp_false rfl ?_)) <;> (refine o_as rfl rfl ?_ <;> (first | refine owp_nilT ?_ | refine owp_nilB ?_ | refine owp_nilBB ?_ | refine owp_nil ?_)) <;> (repeat (first | refine ewp_seq ?_ | refine ewp_block ?_ | refine ewp_region ?_ | refine ewp_skip ?_ | refine ewp_exit ?_ | refine ewp_ret ?_ | refine ewp_true rfl ?_ | refine ewp_false rfl ?_)) <;> (refine o_mv rfl rfl ?_ <;> refine o_sn rfl rfl ?_ <;> (first | refine owp_nilT ?_ | refine owp_nilB ?_ | refine owp_nilBB ?_ | refine owp_nil ?_)) <;> (repeat (first | refine ewp_seq ?_ | refine ewp_block ?_ | refine ewp_region ?_ | refine ewp_skip ?_ | refine ewp_exit ?_ | refine ewp_ret ?_ | refine ewp_true rfl ?_ | refine ewp_false rfl ?_)) <;> (refine o_as rfl rfl ?_ <;> (first | refine owp_nilT ?_ | refine owp_nilB ?_ | refine owp_nilBB ?_ | refine owp_nil ?_)) <;> (repeat (first | refine ewp_seq ?_ | refine ewp_block ?_ | refine ewp_region ?_ | refine ewp_skip ?_ | refine ewp_exit ?_ | refine ewp_ret ?_ | refine ewp_true rfl ?_ | refine ewp_false rfl ?_)))
    exact ret1 rfl rfl ⟨Own.nil _ _ _ _, Below.refl _ _⟩
  | some ad =>
    ((repeat (first | refine ewp_seq ?_ | refine ewp_block ?_ | refine ewp_region ?_ | refine ewp_skip ?_ | refine ewp_exit ?_ | refine ewp_ret ?_ | refine ewp_true rfl ?_ | refine ewp_false rfl ?_)) <;> (refine o_as rfl rfl ?_ <;> (first | refine owp_nilT ?_ | refine owp_nilB ?_ | refine owp_nilBB ?_ | refine owp_nil ?_)) <;> (repeat (first | refine ewp_seq ?_ | refine ewp_block ?_ | refine ewp_region ?_ | refine ewp_skip ?_ | refine ewp_exit ?_ | refine ewp_ret ?_ | refine ewp_true rfl ?_ | refine ewp_false rfl ?_)) <;> (refine o_mv rfl rfl ?_ <;> refine o_sn rfl rfl ?_ <;> (first | refine owp_nilT ?_ | refine owp_nilB ?_ | refine owp_nilBB ?_ | refine owp_nil ?_)) <;> (repeat (first | refine ewp_seq ?_ | refine ewp_block ?_ | refine ewp_region ?_ | refine ewp_skip ?_ | refine ewp_exit ?_ | refine ewp_ret ?_ | refine ewp_true rfl ?_ | refine ewp_false rfl ?_)))
    refine owp_slice rfl rfl rfl (by simp) (by decide) rfl fun w1 hN => ?_
    have hE := hN.ext
    have hown : Own w1 w.heap.size (All w) 3 (.slice (some ⟨w.heap.size, 0, none⟩) 0 0) ([] : List Int) := Own.made hN rfl rfl (Nat.lt_irrefl _) (by decide)
    (refine o_mv rfl rfl ?_)
    refine owp_appendS rfl rfl rfl hown (fun k hk => Nat.lt_of_lt_of_le hk hE.size) hE.size (Vb.agree hs (hE.agree fun _ h => h)) (by decide) (by simpa using hl) (by simp; omega) rfl fun v' w2 ho hK => ?_
    (refine o_as rfl rfl ?_ <;> (first | refine owp_nilT ?_ | refine owp_nilB ?_ | refine owp_nilBB ?_ | refine owp_nil ?_))
    repeat (first | refine ewp_seq ?_ | refine ewp_block ?_ | refine ewp_region ?_ | refine ewp_skip ?_ | refine ewp_exit ?_ | refine ewp_ret ?_ | refine ewp_true rfl ?_ | refine ewp_false rfl ?_)
    refine ret1 rfl rfl ⟨by simpa using ho, hE.trans (hown.fits (Nat.le_refl _) hE.size hK)⟩
theorem cloneFacts {w : World} {sv : Value} {xs : List Fct} (hs : V w sv xs) (hl : xs.length * 16 ≤ 140737488355328) :
    Fn Try.prog 43 [sv] w fun v w' => Own w' w.heap.size (All w) 28 v xs ∧ Ext w w' := by
  obtain ⟨A, c, rfl⟩ := hs.form
  refine fn_enter Try.func43 rfl Try.ntmps43 rfl ?_
  cases A with
  | none =>
    have hx : xs = [] := by
      cases xs with
      | nil => rfl
      | cons x xs => obtain ⟨_, _, _, h, _⟩ := hs.elem (k := 0) (x := x) rfl; cases h
    subst hx
    ((repeat (first | refine ewp_seq ?_ | refine ewp_block ?_ | refine ewp_region ?_ | refine ewp_skip ?_ | refine ewp_exit ?_ | refine ewp_ret ?_ | refine ewp_true rfl ?_ | refine ewp_false rfl ?_)) <;> (refine o_as rfl rfl ?_ <;> (first | refine owp_nilT ?_ | refine owp_nilB ?_ | refine owp_nilBB ?_ | refine owp_nil ?_)) <;> (repeat (first | refine ewp_seq ?_ | refine ewp_block ?_ | refine ewp_region ?_ | refine ewp_skip ?_ | refine ewp_exit ?_ | refine ewp_ret ?_ | refine ewp_true rfl ?_ | refine ewp_false rfl ?_)) <;> (refine o_mv rfl rfl ?_ <;> refine o_sn rfl rfl ?_ <;> (first | refine owp_nilT ?_ | refine owp_nilB ?_ | refine owp_nilBB ?_ | refine owp_nil ?_)) <;> (repeat (first | refine ewp_seq ?_ | refine ewp_block ?_ | refine ewp_region ?_ | refine ewp_skip ?_ | refine ewp_exit ?_ | refine ewp_ret ?_ | refine ewp_true rfl ?_ | refine ewp_false rfl ?_)) <;> (refine o_as rfl rfl ?_ <;> (first | refine owp_nilT ?_ | refine owp_nilB ?_ | refine owp_nilBB ?_ | refine owp_nil ?_)) <;> (repeat (first | refine ewp_seq ?_ | refine ewp_block ?_ | refine ewp_region ?_ | refine ewp_skip ?_ | refine ewp_exit ?_ | refine ewp_ret ?_ | refine ewp_true rfl ?_ | refine ewp_false rfl ?_)))
    exact ret1 rfl rfl ⟨Own.nil _ _ _ _, Below.refl _ _⟩
  | some ad =>
    ((repeat (first | refine ewp_seq ?_ | refine ewp_block ?_ | refine ewp_region ?_ | refine ewp_skip ?_ | refine ewp_exit ?_ | refine ewp_ret ?_ | refine ewp_true rfl ?_ | refine ewp_false rfl ?_)) <;> (refine o_as rfl rfl ?_ <;> (first | refine owp_nilT ?_ | refine owp_nilB ?_ | refine owp_nilBB ?_ | refine owp_nil ?_)) <;> (repeat (first | refine ewp_seq ?_ | refine ewp_block ?_ | refine ewp_region ?_ | refine ewp_skip ?_ | refine ewp_exit ?_ | refine ewp_ret ?_ | refine ewp_true rfl ?_ | refine ewp_false rfl ?_)) <;> (refine o_mv rfl rfl ?_ <;> refine o_sn rfl rfl ?_ <;> (first | refine owp_nilT ?_ | refine owp_nilB ?_ | refine owp_nilBB ?_ | refine owp_nil ?_)) <;> (repeat (first | refine ewp_seq ?_ | refine ewp_block ?_ | refine ewp_region ?_ | refine ewp_skip ?_ | refine ewp_exit ?_ | refine ewp_ret ?_ | refine ewp_true rfl ?_ | refine ewp_false rfl ?_)))
    refine owp_slice rfl rfl rfl (by simp) (by decide) rfl fun w1 hN => ?_
    have hE := hN.ext
    have hown : Own w1 w.heap.size (All w) 28 (.slice (some ⟨w.heap.size, 0, none⟩) 0 0) ([] : List Fct) := Own.made hN rfl rfl (Nat.lt_irrefl _) (by decide)
    (refine o_mv rfl rfl ?_)
    refine owp_appendS rfl rfl rfl hown (fun k hk => Nat.lt_of_lt_of_le hk hE.size) hE.size (Vb.agree hs (hE.agree fun _ h => h)) (by decide) (by simpa using hl) (by simp; omega) rfl fun v' w2 ho hK => ?_
    (refine o_as rfl rfl ?_ <;> (first | refine owp_nilT ?_ | refine owp_nilB ?_ | refine owp_nilBB ?_ | refine owp_nil ?_))
    repeat (first | refine ewp_seq ?_ | refine ewp_block ?_ | refine ewp_region ?_ | refine ewp_skip ?_ | refine ewp_exit ?_ | refine ewp_ret ?_ | refine ewp_true rfl ?_ | refine ewp_false rfl ?_)
    refine ret1 rfl rfl ⟨by simpa using ho, hE.trans (hown.fits (Nat.le_refl _) hE.size hK)⟩

/-- The state after an operator's effects. -/
def effsOn (s : List Int) : List Eff → List Int → List Int
  | [], out => out
  | e :: r, out => effsOn s r (if holdsB e.cond s = true then out.set e.var.toNat e.val else out)
theorem effsOn_append (s : List Int) : ∀ (a b : List Eff) (out : List Int), effsOn s (a ++ b) out = effsOn s b (effsOn s a out)
  | [], _, _ => rfl
  | e :: a, b, out => by simp [effsOn, effsOn_append s a b]
theorem effsOn_length (s : List Int) : ∀ (a : List Eff) (out : List Int), (effsOn s a out).length = out.length
  | [], _ => rfl
  | e :: a, out => by
    rw [effsOn, effsOn_length s a]
    split <;> simp
theorem effsOn_step (s : List Int) {l : List Eff} {k : Nat} {e : Eff} (h : l[k]? = some e) (out : List Int) : effsOn s (l.take (k + 1)) out = if holdsB e.cond s = true then (effsOn s (l.take k) out).set e.var.toNat e.val else effsOn s (l.take k) out := by
  rw [List.take_add_one, h, effsOn_append]; rfl
/-- The effects name variables of the state. -/
def EffsIn (s : List Int) (l : List Eff) : Prop := ∀ (i : Nat) e, l[i]? = some e → 0 ≤ e.var ∧ e.var < s.length
def succ (o : Opr) (s : List Int) : List Int := effsOn s o.effs s
theorem baseApply {w : World} {tv sv : Value} {t : Tsk} {s : List Int} {op : Int} (ht : V w tv t) (hs : V w sv s) (hl : s.length ≤ 1000000) (hef : ∀ (i : Nat) o, t.ops[i]? = some o → EffsIn s o.effs) :
    Fn Try.prog 33 [tv, sv, .int .i64 op] w fun v w' => Ext w w' ∧
      ((∃ (j : Nat) (o : Opr) (u : Value), op = (j : Int) ∧ t.ops[j]? = some o ∧ holdsB o.pre s = true ∧ v = .tuple #[u, .bool true] ∧ Own w' w.heap.size (All w) 3 u (succ o s)) ∨
       (v = .tuple #[.slice none 0 0, .bool false] ∧ ∀ (j : Nat) o, op = (j : Int) → t.ops[j]? = some o → holdsB o.pre s = false)) := by
  obtain ⟨cs, rfl, a, b, c, d, rfl, hvars, hinit, hgoal, hops⟩ := ht
  obtain ⟨Av, cv, rfl⟩ := hvars.form
  obtain ⟨Ai, ci, rfl⟩ := hinit.form
  obtain ⟨Ag, cg, rfl⟩ := hgoal.form
  obtain ⟨Ao, co, rfl⟩ := hops.form
  obtain ⟨As, cs', rfl⟩ := hs.form
  refine fn_enter Try.func33 rfl Try.ntmps33 rfl ?_
  repeat (first | refine ewp_seq ?_ | refine ewp_block ?_ | refine ewp_region ?_ | refine ewp_skip ?_ | refine ewp_exit ?_ | refine ewp_ret ?_ | refine ewp_true rfl ?_ | refine ewp_false rfl ?_)
  refine owp_box rfl rfl fun w1 hN => ?_
  have hb1 := hN.blk
  have hE1 : Ext w w1 := hN.ext
  (refine o_as rfl rfl ?_ <;> refine o_as rfl rfl ?_ <;> (first | refine owp_nilT ?_ | refine owp_nilB ?_ | refine owp_nilBB ?_ | refine owp_nil ?_))
  repeat (first | refine ewp_seq ?_ | refine ewp_block ?_ | refine ewp_region ?_ | refine ewp_skip ?_ | refine ewp_exit ?_ | refine ewp_ret ?_ | refine ewp_true rfl ?_ | refine ewp_false rfl ?_)
  by_cases hop : 0 ≤ op ∧ op < t.ops.length
  case neg =>
    (refine o_mv rfl rfl ?_ <;> (first | refine o_ltT rfl rfl rfl ?_ | refine o_ltF rfl rfl rfl ?_ | refine o_ltS rfl rfl rfl (fun _ => ?_) fun _ => ?_) <;> refine o_mv rfl rfl ?_ <;> (first | (refine owp_yes rfl rfl ?_; refine o_mv rfl rfl ?_) | refine owp_no rfl rfl rfl rfl ?_) <;> (first | (refine owp_yes rfl rfl ?_; refine o_fa rfl rfl ?_) | refine owp_no rfl rfl rfl rfl ?_) <;> (first | (refine owp_yes rfl rfl ?_; refine o_ld rfl rfl ?_) | refine owp_no rfl rfl rfl rfl ?_) <;> (first | (refine owp_yes rfl rfl ?_; refine o_ln rfl rfl ?_) | refine owp_no rfl rfl rfl rfl ?_) <;> (first | (refine owp_yes rfl rfl ?_; (first | refine o_geT rfl rfl rfl ?_ | refine o_geF rfl rfl rfl ?_ | refine o_geS rfl rfl rfl (fun _ => ?_) fun _ => ?_)) | refine owp_no rfl rfl rfl rfl ?_) <;> (first | refine o_pt rfl rfl rfl ?_ | refine o_pf rfl rfl rfl ?_) <;> refine o_mv rfl rfl ?_ <;> (first | (refine owp_yes rfl rfl ?_; refine o_fa rfl rfl ?_) | refine owp_no rfl rfl rfl rfl ?_) <;> (first | (refine owp_yes rfl rfl ?_; refine o_ld rfl rfl ?_) | refine owp_no rfl rfl rfl rfl ?_) <;> (first | (refine owp_yes rfl rfl ?_; refine o_mv rfl rfl ?_) | refine owp_no rfl rfl rfl rfl ?_) <;> (first | (refine owp_yes rfl rfl ?_; refine o_ia rfl rfl rfl ?_) | refine owp_no rfl rfl rfl rfl ?_) <;> (first | (refine owp_yes rfl rfl ?_; refine o_fa rfl rfl ?_) | refine owp_no rfl rfl rfl rfl ?_) <;> (first | (refine owp_yes rfl rfl ?_; refine o_ld rfl rfl ?_) | refine owp_no rfl rfl rfl rfl ?_) <;> (first | (refine owp_yes rfl rfl ?_; refine o_mv rfl rfl ?_) | refine owp_no rfl rfl rfl rfl ?_))
    all_goals
      refine owp_no rfl rfl rfl rfl ?_
      ((first | (refine owp_yes rfl rfl ?_; (first | refine o_nt rfl rfl ?_ | refine o_nf rfl rfl ?_ | refine o_nn rfl rfl ?_)) | refine owp_no rfl rfl rfl rfl ?_) <;> (first | refine o_pt rfl rfl rfl ?_ | refine o_pf rfl rfl rfl ?_) <;> (first | refine owp_nilT ?_ | refine owp_nilB ?_ | refine owp_nilBB ?_ | refine owp_nil ?_))
      repeat (first | refine ewp_seq ?_ | refine ewp_block ?_ | refine ewp_region ?_ | refine ewp_skip ?_ | refine ewp_exit ?_ | refine ewp_ret ?_ | refine ewp_true rfl ?_ | refine ewp_false rfl ?_)
      ((repeat (first | refine ewp_seq ?_ | refine ewp_block ?_ | refine ewp_region ?_ | refine ewp_skip ?_ | refine ewp_exit ?_ | refine ewp_ret ?_ | refine ewp_true rfl ?_ | refine ewp_false rfl ?_)) <;> (refine o_as rfl rfl ?_ <;> refine o_as rfl rfl ?_ <;> (first | refine owp_nilT ?_ | refine owp_nilB ?_ | refine owp_nilBB ?_ | refine owp_nil ?_)) <;> (repeat (first | refine ewp_seq ?_ | refine ewp_block ?_ | refine ewp_region ?_ | refine ewp_skip ?_ | refine ewp_exit ?_ | refine ewp_ret ?_ | refine ewp_true rfl ?_ | refine ewp_false rfl ?_)))
      exact ret2 rfl (res_tmp rfl) (res_tmp rfl) ⟨hE1, .inr ⟨rfl, fun j o hj ho => by have := lt_of_some ho; omega⟩⟩
  obtain ⟨j, hj1⟩ := Int.eq_ofNat_of_zero_le hop.1
  obtain ⟨o, ho⟩ := some_of_lt (l := t.ops) (k := j) (by omega)
  obtain ⟨b2, o2, ce, rfl, hbl, _, hd0, p, q, rfl, hp, hq, hc, hn⟩ := hops.elem ho
  obtain ⟨Ap, cp, rfl⟩ := hp.form
  obtain ⟨Aq, cq, rfl⟩ := hq.form
  have hql := hq.len
  have hd1 := cells_ext hd0 hbl hE1
  (refine o_mv rfl rfl ?_ <;> (first | refine o_ltT rfl rfl rfl ?_ | refine o_ltF rfl rfl rfl ?_ | refine o_ltS rfl rfl rfl (fun _ => ?_) fun _ => ?_) <;> refine o_mv rfl rfl ?_ <;> (first | (refine owp_yes rfl rfl ?_; refine o_mv rfl rfl ?_) | refine owp_no rfl rfl rfl rfl ?_) <;> (first | (refine owp_yes rfl rfl ?_; refine o_fa rfl rfl ?_) | refine owp_no rfl rfl rfl rfl ?_) <;> (first | (refine owp_yes rfl rfl ?_; refine o_ld rfl rfl ?_) | refine owp_no rfl rfl rfl rfl ?_) <;> (first | (refine owp_yes rfl rfl ?_; refine o_ln rfl rfl ?_) | refine owp_no rfl rfl rfl rfl ?_) <;> (first | (refine owp_yes rfl rfl ?_; (first | refine o_geT rfl rfl rfl ?_ | refine o_geF rfl rfl rfl ?_ | refine o_geS rfl rfl rfl (fun _ => ?_) fun _ => ?_)) | refine owp_no rfl rfl rfl rfl ?_) <;> (first | refine o_pt rfl rfl rfl ?_ | refine o_pf rfl rfl rfl ?_) <;> refine o_mv rfl rfl ?_ <;> (first | (refine owp_yes rfl rfl ?_; refine o_fa rfl rfl ?_) | refine owp_no rfl rfl rfl rfl ?_) <;> (first | (refine owp_yes rfl rfl ?_; refine o_ld rfl rfl ?_) | refine owp_no rfl rfl rfl rfl ?_) <;> (first | (refine owp_yes rfl rfl ?_; refine o_mv rfl rfl ?_) | refine owp_no rfl rfl rfl rfl ?_) <;> (first | (refine owp_yes rfl rfl ?_; refine o_ia rfl rfl rfl ?_) | refine owp_no rfl rfl rfl rfl ?_) <;> (first | (refine owp_yes rfl rfl ?_; refine o_fa rfl rfl ?_) | refine owp_no rfl rfl rfl rfl ?_) <;> (first | (refine owp_yes rfl rfl ?_; refine o_ld rfl rfl ?_) | refine owp_no rfl rfl rfl rfl ?_) <;> (first | (refine owp_yes rfl rfl ?_; refine o_mv rfl rfl ?_) | refine owp_no rfl rfl rfl rfl ?_))
  refine owp_yes rfl rfl ?_
  refine owp_callB rfl rfl (baseHolds (hp.ext hE1) (hs.ext hE1)) ?_ ?_
  case refine_2 =>
    intro w2 hP hE2
    ((first | (refine owp_yes rfl rfl ?_; (first | refine o_nt rfl rfl ?_ | refine o_nf rfl rfl ?_ | refine o_nn rfl rfl ?_)) | refine owp_no rfl rfl rfl rfl ?_) <;> (first | refine o_pt rfl rfl rfl ?_ | refine o_pf rfl rfl rfl ?_) <;> (first | refine owp_nilT ?_ | refine owp_nilB ?_ | refine owp_nilBB ?_ | refine owp_nil ?_))
    repeat (first | refine ewp_seq ?_ | refine ewp_block ?_ | refine ewp_region ?_ | refine ewp_skip ?_ | refine ewp_exit ?_ | refine ewp_ret ?_ | refine ewp_true rfl ?_ | refine ewp_false rfl ?_)
    ((repeat (first | refine ewp_seq ?_ | refine ewp_block ?_ | refine ewp_region ?_ | refine ewp_skip ?_ | refine ewp_exit ?_ | refine ewp_ret ?_ | refine ewp_true rfl ?_ | refine ewp_false rfl ?_)) <;> (refine o_as rfl rfl ?_ <;> refine o_as rfl rfl ?_ <;> (first | refine owp_nilT ?_ | refine owp_nilB ?_ | refine owp_nilBB ?_ | refine owp_nil ?_)) <;> (repeat (first | refine ewp_seq ?_ | refine ewp_block ?_ | refine ewp_region ?_ | refine ewp_skip ?_ | refine ewp_exit ?_ | refine ewp_ret ?_ | refine ewp_true rfl ?_ | refine ewp_false rfl ?_)))
    refine ret2 rfl (res_tmp rfl) (res_tmp rfl) ⟨hE1.trans' hE2, .inr ⟨rfl, fun j' o' hj' ho' => ?_⟩⟩
    have : j' = j := by omega
    subst this
    rw [ho] at ho'; injection ho' with ho'; subst ho'
    simpa using hP
  intro w2 hpre hE2
  replace hb1 := hb1.ext hE2
  replace hE2 : Ext w w2 := hE1.trans' hE2
  ((first | (refine owp_yes rfl rfl ?_; (first | refine o_nt rfl rfl ?_ | refine o_nf rfl rfl ?_ | refine o_nn rfl rfl ?_)) | refine owp_no rfl rfl rfl rfl ?_) <;> (first | refine o_pt rfl rfl rfl ?_ | refine o_pf rfl rfl rfl ?_) <;> (first | refine owp_nilT ?_ | refine owp_nilB ?_ | refine owp_nilBB ?_ | refine owp_nil ?_))
  repeat (first | refine ewp_seq ?_ | refine ewp_block ?_ | refine ewp_region ?_ | refine ewp_skip ?_ | refine ewp_exit ?_ | refine ewp_ret ?_ | refine ewp_true rfl ?_ | refine ewp_false rfl ?_)
  skip
  refine owp_slice rfl rfl rfl (by simp) (by decide) rfl fun w3 hN3 => ?_
  replace hb1 := hb1.ext hN3.ext
  have hE3 : Ext w w3 := hE2.trans' hN3.ext
  have hown0 : Own w3 w.heap.size (All w) 3 (.slice (some ⟨w2.heap.size, 0, none⟩) 0 0) ([] : List Int) := (Own.made (xs := ([] : List Int)) hN3 rfl rfl (by have := hE2.size; simp; omega) (by decide)).lower hE2.size
  (refine o_mv rfl rfl ?_)
  refine owp_appendS rfl rfl rfl hown0 (fun k hk => Nat.lt_of_lt_of_le hk hE3.size) hE3.size (Vb.agree hs (hE3.agree fun _ h => h)) (by decide) (by simp; omega) (by simp; omega) rfl fun v4 w4 hown hK => ?_
  replace hb1 := hK.blk hb1 (hown0.blk_ne hb1 (by decide))
  have hE4 : Ext w w4 := hE3.trans (hown0.fits (Nat.le_refl _) hE3.size hK)
  rw [List.nil_append] at hown
  replace hd1 := cells_ext hd0 hbl hE4
  (refine o_as rfl rfl ?_ <;> (first | refine owp_nilT ?_ | refine owp_nilB ?_ | refine owp_nilBB ?_ | refine owp_nil ?_))
  repeat (first | refine ewp_seq ?_ | refine ewp_block ?_ | refine ewp_region ?_ | refine ewp_skip ?_ | refine ewp_exit ?_ | refine ewp_ret ?_ | refine ewp_true rfl ?_ | refine ewp_false rfl ?_)
  ((repeat (first | refine ewp_seq ?_ | refine ewp_block ?_ | refine ewp_region ?_ | refine ewp_skip ?_ | refine ewp_exit ?_ | refine ewp_ret ?_ | refine ewp_true rfl ?_ | refine ewp_false rfl ?_)) <;> (refine o_fa rfl rfl ?_ <;> refine o_ld rfl rfl ?_ <;> refine o_mv rfl rfl ?_ <;> refine o_ia rfl rfl rfl ?_ <;> refine o_fa rfl rfl ?_ <;> refine o_ld rfl rfl ?_ <;> refine o_ln rfl rfl ?_ <;> refine o_mv rfl rfl ?_ <;> (first | refine owp_nilT ?_ | refine owp_nilB ?_ | refine owp_nilBB ?_ | refine owp_nil ?_)) <;> (repeat (first | refine ewp_seq ?_ | refine ewp_block ?_ | refine ewp_region ?_ | refine ewp_skip ?_ | refine ewp_exit ?_ | refine ewp_ret ?_ | refine ewp_true rfl ?_ | refine ewp_false rfl ?_)))
  refine ewp_range o.effs.length (by omega) (fun _ : Unit => [(1, .slice As s.length cs'), (8, v4), (39, .slice Aq o.effs.length cq)]) (fun k _ w' => Ext w w' ∧ Own w' w.heap.size (All w) 3 v4 (effsOn s (o.effs.take k) s)) ()
    ⟨hE4, hown⟩ ⟨rfl, rfl, rfl, rfl, rfl, trivial⟩ (fun _ => ⟨rfl, rfl⟩) ⟨rfl, rfl, rfl⟩ ⟨rfl, rfl⟩ ?_ ?_
  · rintro k _ w5 hk ⟨hE5, hown⟩
    obtain ⟨e, he⟩ := some_of_lt hk
    have hin := hef j o ho k e he
    obtain ⟨b3, o3, ce, rfl, hbl3, _, hd1, cv', rfl, hcn, hr1, hr2⟩ := (hq.ext hE5).elem he
    obtain ⟨Acn, ccn, rfl⟩ := hcn.form
    ((repeat (first | refine ewp_seq ?_ | refine ewp_block ?_ | refine ewp_region ?_ | refine ewp_skip ?_ | refine ewp_exit ?_ | refine ewp_ret ?_ | refine ewp_true rfl ?_ | refine ewp_false rfl ?_)) <;> (refine o_ia rfl rfl rfl ?_ <;> refine o_la rfl rfl ?_) <;> (repeat (first | refine ewp_seq ?_ | refine ewp_block ?_ | refine ewp_region ?_ | refine ewp_skip ?_ | refine ewp_exit ?_ | refine ewp_ret ?_ | refine ewp_true rfl ?_ | refine ewp_false rfl ?_)))
    refine owp_local rfl rfl rfl (by simp [Value.cells, Value.oneCell']) fun w6 hN6 => ?_
    have hb2 := hN6.blk
    have hE6 : Ext w w6 := hE5.trans' hN6.ext
    replace hown := hown.ext hN6.ext (fun k hk => Nat.lt_of_lt_of_le hk hE5.size)
    ((first | refine owp_nilT ?_ | refine owp_nilB ?_ | refine owp_nilBB ?_ | refine owp_nil ?_))
    repeat (first | refine ewp_seq ?_ | refine ewp_block ?_ | refine ewp_region ?_ | refine ewp_skip ?_ | refine ewp_exit ?_ | refine ewp_ret ?_ | refine ewp_true rfl ?_ | refine ewp_false rfl ?_)
    (refine o_fa rfl rfl ?_ <;> refine o_ld rfl rfl ?_ <;> refine o_mv rfl rfl ?_)
    refine owp_callB rfl rfl (baseHolds (hcn.ext hN6.ext) (hs.ext hE6)) ?_ ?_
    · intro w7 hP hE7
      replace hb2 := hb2.ext hE7
      replace hown := hown.ext hE7 (fun k hk => Nat.lt_of_lt_of_le hk hE6.size)
      replace hE7 : Ext w w7 := hE6.trans' hE7
      obtain ⟨m, hm⟩ := Int.eq_ofNat_of_zero_le hin.1
      have hlen : (effsOn s (o.effs.take k) s).length = s.length := effsOn_length _ _ _
      obtain ⟨g, cap, _, _, rfl, _⟩ := hown.open (by omega)
      ((first | refine owp_nilT ?_ | refine owp_nilB ?_ | refine owp_nilBB ?_ | refine owp_nil ?_))
      repeat (first | refine ewp_seq ?_ | refine ewp_block ?_ | refine ewp_region ?_ | refine ewp_skip ?_ | refine ewp_exit ?_ | refine ewp_ret ?_ | refine ewp_true rfl ?_ | refine ewp_false rfl ?_)
      have hj2 := hm
      have hml : m < (effsOn s (o.effs.take k) s).length := by omega
      (refine o_mv rfl rfl ?_ <;> refine o_fa rfl rfl ?_ <;> refine o_ld rfl rfl ?_ <;> refine o_fa rfl rfl ?_ <;> refine o_ld rfl rfl ?_ <;> refine o_ia rfl rfl rfl ?_)
      refine owp_setElem rfl rfl rfl hown hml (show Vb w7 (All w) (.int .i64 e.val) e.val from ⟨rfl, hr2⟩) fun w8 hown8 hK8 hz8 => ?_
      ((first | refine owp_nilT ?_ | refine owp_nilB ?_ | refine owp_nilBB ?_ | refine owp_nil ?_))
      repeat (first | refine ewp_seq ?_ | refine ewp_block ?_ | refine ewp_region ?_ | refine ewp_skip ?_ | refine ewp_exit ?_ | refine ewp_ret ?_ | refine ewp_true rfl ?_ | refine ewp_false rfl ?_)
      refine ⟨(), ⟨rfl, rfl, rfl, rfl, rfl, trivial⟩, hE7.trans (hown.fits (Nat.le_refl _) hE7.size hK8), ?_⟩
      rw [effsOn_step s he, if_pos hP, hm]
      exact hown8
    · intro w7 hP hE7
      ((first | refine owp_nilT ?_ | refine owp_nilB ?_ | refine owp_nilBB ?_ | refine owp_nil ?_))
      repeat (first | refine ewp_seq ?_ | refine ewp_block ?_ | refine ewp_region ?_ | refine ewp_skip ?_ | refine ewp_exit ?_ | refine ewp_ret ?_ | refine ewp_true rfl ?_ | refine ewp_false rfl ?_)
      refine ⟨(), ⟨rfl, rfl, rfl, rfl, rfl, trivial⟩, hE6.trans' hE7, ?_⟩
      rw [effsOn_step s he, if_neg hP]
      exact hown.ext hE7 (fun k hk => Nat.lt_of_lt_of_le hk hE6.size)
  rintro _ w5 ⟨hE5, hown⟩
  repeat (first | refine ewp_seq ?_ | refine ewp_block ?_ | refine ewp_region ?_ | refine ewp_skip ?_ | refine ewp_exit ?_ | refine ewp_ret ?_ | refine ewp_true rfl ?_ | refine ewp_false rfl ?_)
  ((repeat (first | refine ewp_seq ?_ | refine ewp_block ?_ | refine ewp_region ?_ | refine ewp_skip ?_ | refine ewp_exit ?_ | refine ewp_ret ?_ | refine ewp_true rfl ?_ | refine ewp_false rfl ?_)) <;> (refine o_mv rfl rfl ?_ <;> refine o_as rfl rfl ?_ <;> refine o_as rfl rfl ?_ <;> (first | refine owp_nilT ?_ | refine owp_nilB ?_ | refine owp_nilBB ?_ | refine owp_nil ?_)) <;> (repeat (first | refine ewp_seq ?_ | refine ewp_block ?_ | refine ewp_region ?_ | refine ewp_skip ?_ | refine ewp_exit ?_ | refine ewp_ret ?_ | refine ewp_true rfl ?_ | refine ewp_false rfl ?_)))
  rw [List.take_length] at hown
  exact ret2 rfl (res_tmp rfl) (res_tmp rfl) ⟨hE5, .inl ⟨j, o, v4, hj1, ho, hpre, rfl, hown⟩⟩

/-- The applicable operators, ascending. -/
def applK (t : Tsk) (s : List Int) (k : Nat) : List Int := ((List.range k).filter fun i => match t.ops[i]? with | some o => holdsB o.pre s | none => false).map fun i : Nat => (i : Int)
def appl (t : Tsk) (s : List Int) : List Int := applK t s t.ops.length
theorem applK_step {t : Tsk} {s : List Int} {k : Nat} {o : Opr} (h : t.ops[k]? = some o) : applK t s (k + 1) = applK t s k ++ if holdsB o.pre s = true then [(k : Int)] else [] := by
  unfold applK
  rw [List.range_succ, List.filter_append, List.map_append]
  congr 1
  by_cases hb : holdsB o.pre s = true <;> simp [h, hb]
theorem applK_len (t : Tsk) (s : List Int) (k : Nat) : (applK t s k).length ≤ k := by
  unfold applK
  rw [List.length_map]
  exact Nat.le_trans (List.length_filter_le _ _) (by simp)
theorem refApplicable {w : World} {tv sv : Value} {t : Tsk} {s : List Int} (ht : V w tv t) (hs : V w sv s) (hn : t.ops.length ≤ 1000000) :
    Fn Try.prog 27 [tv, sv] w fun v w' => Own w' w.heap.size (All w) 3 v (appl t s) ∧ Ext w w' := by
  obtain ⟨cs, rfl, a, b, c, d, rfl, hvars, hinit, hgoal, hops⟩ := ht
  obtain ⟨Av, cv, rfl⟩ := hvars.form
  obtain ⟨Ai, ci, rfl⟩ := hinit.form
  obtain ⟨Ag, cg, rfl⟩ := hgoal.form
  obtain ⟨Ao, co, rfl⟩ := hops.form
  obtain ⟨As, cs', rfl⟩ := hs.form
  have hF : ∀ {w'}, Ext w w' → ∀ k, All w k → k < w'.heap.size := fun hE k hk => Nat.lt_of_lt_of_le hk hE.size
  refine fn_enter Try.func27 rfl Try.ntmps27 rfl ?_
  repeat (first | refine ewp_seq ?_ | refine ewp_block ?_ | refine ewp_region ?_ | refine ewp_skip ?_ | refine ewp_exit ?_ | refine ewp_ret ?_ | refine ewp_true rfl ?_ | refine ewp_false rfl ?_)
  refine owp_box rfl rfl fun w1 hN => ?_
  have hb1 := hN.blk
  have hE1 : Ext w w1 := hN.ext
  (refine o_as rfl rfl ?_ <;> (first | refine owp_nilT ?_ | refine owp_nilB ?_ | refine owp_nilBB ?_ | refine owp_nil ?_))
  repeat (first | refine ewp_seq ?_ | refine ewp_block ?_ | refine ewp_region ?_ | refine ewp_skip ?_ | refine ewp_exit ?_ | refine ewp_ret ?_ | refine ewp_true rfl ?_ | refine ewp_false rfl ?_)
  ((repeat (first | refine ewp_seq ?_ | refine ewp_block ?_ | refine ewp_region ?_ | refine ewp_skip ?_ | refine ewp_exit ?_ | refine ewp_ret ?_ | refine ewp_true rfl ?_ | refine ewp_false rfl ?_)) <;> (refine o_as rfl rfl ?_ <;> (first | refine owp_nilT ?_ | refine owp_nilB ?_ | refine owp_nilBB ?_ | refine owp_nil ?_)) <;> (repeat (first | refine ewp_seq ?_ | refine ewp_block ?_ | refine ewp_region ?_ | refine ewp_skip ?_ | refine ewp_exit ?_ | refine ewp_ret ?_ | refine ewp_true rfl ?_ | refine ewp_false rfl ?_)) <;> (refine o_fa rfl rfl ?_ <;> refine o_ld rfl rfl ?_ <;> refine o_ln rfl rfl ?_ <;> refine o_mv rfl rfl ?_ <;> (first | refine owp_nilT ?_ | refine owp_nilB ?_ | refine owp_nilBB ?_ | refine owp_nil ?_)) <;> (repeat (first | refine ewp_seq ?_ | refine ewp_block ?_ | refine ewp_region ?_ | refine ewp_skip ?_ | refine ewp_exit ?_ | refine ewp_ret ?_ | refine ewp_true rfl ?_ | refine ewp_false rfl ?_)))
  refine ewp_range t.ops.length (by omega) (fun v : Value => [(1, .slice As s.length cs'), (2, .pointer (some ⟨w.heap.size, 0, none⟩)), (5, v)]) (fun k v w' => Ext w w' ∧ Blk w' w.heap.size 26 [.slice Av t.vars.length cv, .slice Ai t.init.length ci, .slice Ag t.goal.length cg, .slice Ao t.ops.length co] ∧ Own w' w.heap.size (All w) 3 v (applK t s k)) (.slice none 0 0)
    ⟨hE1, hb1, Own.nil _ _ _ _⟩ ⟨rfl, rfl, rfl, rfl, rfl, trivial⟩ (fun _ => ⟨rfl, rfl⟩) ⟨rfl, rfl, rfl⟩ ⟨rfl, rfl⟩ ?_ ?_
  · rintro k v w2 hk ⟨hE2, hb1, hown⟩
    obtain ⟨o, ho⟩ := some_of_lt hk
    obtain ⟨b2, o2, ce, rfl, hbl, _, hd1, p, q, rfl, hp, hq, hc, hnm⟩ := (hops.ext hE2).elem ho
    obtain ⟨Ap, cp, rfl⟩ := hp.form
    have hln := applK_len t s k
    ((repeat (first | refine ewp_seq ?_ | refine ewp_block ?_ | refine ewp_region ?_ | refine ewp_skip ?_ | refine ewp_exit ?_ | refine ewp_ret ?_ | refine ewp_true rfl ?_ | refine ewp_false rfl ?_)) <;> (refine o_mv rfl rfl ?_ <;> refine o_as rfl rfl ?_ <;> (first | refine owp_nilT ?_ | refine owp_nilB ?_ | refine owp_nilBB ?_ | refine owp_nil ?_)) <;> (repeat (first | refine ewp_seq ?_ | refine ewp_block ?_ | refine ewp_region ?_ | refine ewp_skip ?_ | refine ewp_exit ?_ | refine ewp_ret ?_ | refine ewp_true rfl ?_ | refine ewp_false rfl ?_)) <;> (refine o_fa rfl rfl ?_ <;> refine o_ld rfl rfl ?_ <;> refine o_mv rfl rfl ?_ <;> refine o_ia rfl rfl rfl ?_ <;> refine o_fa rfl rfl ?_ <;> refine o_ld rfl rfl ?_ <;> refine o_mv rfl rfl ?_) <;> (repeat (first | refine ewp_seq ?_ | refine ewp_block ?_ | refine ewp_region ?_ | refine ewp_skip ?_ | refine ewp_exit ?_ | refine ewp_ret ?_ | refine ewp_true rfl ?_ | refine ewp_false rfl ?_)))
    refine owp_callB rfl rfl (baseHolds hp (hs.ext hE2)) ?_ ?_
    · intro w3 hP hE3
      replace hb1 := hb1.ext hE3
      replace hown := hown.ext hE3 (hF hE2)
      replace hE3 : Ext w w3 := hE2.trans' hE3
      ((first | refine owp_nilT ?_ | refine owp_nilB ?_ | refine owp_nilBB ?_ | refine owp_nil ?_))
      repeat (first | refine ewp_seq ?_ | refine ewp_block ?_ | refine ewp_region ?_ | refine ewp_skip ?_ | refine ewp_exit ?_ | refine ewp_ret ?_ | refine ewp_true rfl ?_ | refine ewp_false rfl ?_)
      (refine o_mv rfl rfl ?_ <;> refine o_mv rfl rfl ?_)
      refine owp_append1 (a := (k : Int)) rfl rfl rfl hown (hF hE3) hE3.size ⟨rfl, by omega, by omega⟩ (by decide) (by decide) (by omega) (by omega) ⟨rfl, rfl⟩ fun v' w4 hown4 hK => ?_
      (refine o_as rfl rfl ?_ <;> (first | refine owp_nilT ?_ | refine owp_nilB ?_ | refine owp_nilBB ?_ | refine owp_nil ?_))
      repeat (first | refine ewp_seq ?_ | refine ewp_block ?_ | refine ewp_region ?_ | refine ewp_skip ?_ | refine ewp_exit ?_ | refine ewp_ret ?_ | refine ewp_true rfl ?_ | refine ewp_false rfl ?_)
      exact ⟨v', ⟨rfl, rfl, rfl, rfl, rfl, trivial⟩, hE3.trans (hown.fits (Nat.le_refl _) hE3.size hK), hK.blk hb1 (hown.blk_ne hb1 (by decide)), by rw [applK_step ho, if_pos hP]; exact hown4⟩
    · intro w3 hP hE3
      ((first | refine owp_nilT ?_ | refine owp_nilB ?_ | refine owp_nilBB ?_ | refine owp_nil ?_))
      repeat (first | refine ewp_seq ?_ | refine ewp_block ?_ | refine ewp_region ?_ | refine ewp_skip ?_ | refine ewp_exit ?_ | refine ewp_ret ?_ | refine ewp_true rfl ?_ | refine ewp_false rfl ?_)
      exact ⟨v, ⟨rfl, rfl, rfl, rfl, rfl, trivial⟩, hE2.trans' hE3, hb1.ext hE3, by rw [applK_step ho, if_neg hP, List.append_nil]; exact hown.ext hE3 (hF hE2)⟩
  rintro v w2 ⟨hE2, hb1, hown⟩
  repeat (first | refine ewp_seq ?_ | refine ewp_block ?_ | refine ewp_region ?_ | refine ewp_skip ?_ | refine ewp_exit ?_ | refine ewp_ret ?_ | refine ewp_true rfl ?_ | refine ewp_false rfl ?_)
  ((repeat (first | refine ewp_seq ?_ | refine ewp_block ?_ | refine ewp_region ?_ | refine ewp_skip ?_ | refine ewp_exit ?_ | refine ewp_ret ?_ | refine ewp_true rfl ?_ | refine ewp_false rfl ?_)) <;> (refine o_mv rfl rfl ?_ <;> refine o_as rfl rfl ?_ <;> (first | refine owp_nilT ?_ | refine owp_nilB ?_ | refine owp_nilBB ?_ | refine owp_nil ?_)) <;> (repeat (first | refine ewp_seq ?_ | refine ewp_block ?_ | refine ewp_region ?_ | refine ewp_skip ?_ | refine ewp_exit ?_ | refine ewp_ret ?_ | refine ewp_true rfl ?_ | refine ewp_false rfl ?_)))
  exact ret1 rfl rfl ⟨hown, hE2⟩
end Go.Proofs.Ytfbcjknlihopcaa

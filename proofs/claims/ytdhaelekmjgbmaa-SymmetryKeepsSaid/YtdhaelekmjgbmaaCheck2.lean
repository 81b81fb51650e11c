/- Own text: contract of task.Check: the number of a task's first error; it is 0 exactly for the right tasks. -/
import Derived.Test.YtdhaelekmjgbmaaCheck
import Derived.Test.YtdhaelekmjgbmaaErr
namespace Go.Proofs.Ytdhaelekmjgbmaa
open Go Go.RowKit
attribute [local irreducible] ewp owp hwp hwq hws Ev Evg Fn retPost loud loudS Res1
/-- An error by its number. -/
def VarsOk (t : Tsk) : Prop := ∀ (i : Nat) n, t.vars[i]? = some n → 1 ≤ n ∧ n ≤ 64
def CostsOk (t : Tsk) : Prop := ∀ (i : Nat) o, t.ops[i]? = some o → 0 ≤ o.cost ∧ o.cost ≤ 1048576
def CondsOk (t : Tsk) : Prop := ∀ (i : Nat) f, (conds t)[i]? = some f → FactsOk t.vars f
def EffsOk (t : Tsk) : Prop := ∀ (i : Nat) o, t.ops[i]? = some o → ∀ (j : Nat) e, o.effs[j]? = some e → FactOk t.vars ⟨e.var, e.val⟩
def NamesOk (t : Tsk) : Prop := ∀ (i : Nat) o, t.ops[i]? = some o → NameOk o.name
/-- The number of a task's first error. -/
noncomputable def checkN (t : Tsk) : Int :=
  if bof (Large t) = true then 5 else if bof (VarsOk t ∧ CostsOk t) = false then 1 else if bof (StateOk t.vars t.init ∧ CondsOk t ∧ EffsOk t) = false then 2 else if bof (NamesOk t) = false then 8 else 0
theorem taskCheck {w : World} {tv : Value} {t : Tsk} (ht : V w tv t) : Fn Try.prog 38 [tv] w fun v w' => v = errV (checkN t) ∧ Ext w w' := by
  have ht0 := ht
  obtain ⟨cs, rfl, a, b, c, d, rfl, hvars, hinit, hgoal, hops⟩ := ht
  obtain ⟨Av, cv, rfl⟩ := hvars.form
  obtain ⟨Ai, ci, rfl⟩ := hinit.form
  obtain ⟨Ag, cg, rfl⟩ := hgoal.form
  obtain ⟨Ao, co, rfl⟩ := hops.form
  have hvl := hvars.len
  have hol := hops.len
  refine fn_enter Try.func38 rfl Try.ntmps38 rfl ?_
  repeat (first | refine ewp_seq ?_ | refine ewp_block ?_ | refine ewp_region ?_ | refine ewp_skip ?_ | refine ewp_exit ?_ | refine ewp_ret ?_ | refine ewp_true rfl ?_ | refine ewp_false rfl ?_)
  refine owp_box rfl rfl fun w1 hN => ?_
  have hb1 := hN.blk
  have hE1 : Ext w w1 := hN.ext
  (refine o_as rfl rfl ?_ <;> (first | refine owp_nilT ?_ | refine owp_nilB ?_ | refine owp_nilBB ?_ | refine owp_nil ?_))
  repeat (first | refine ewp_seq ?_ | refine ewp_block ?_ | refine ewp_region ?_ | refine ewp_skip ?_ | refine ewp_exit ?_ | refine ewp_ret ?_ | refine ewp_true rfl ?_ | refine ewp_false rfl ?_)
  (refine o_la rfl rfl ?_)
  refine owp_callB rfl rfl (taskLarge (ht0.ext hE1)) ?_ ?_
  case refine_1 =>
    intro w2 hP hE2
    ((first | refine owp_nilT ?_ | refine owp_nilB ?_ | refine owp_nilBB ?_ | refine owp_nil ?_))
    repeat (first | refine ewp_seq ?_ | refine ewp_block ?_ | refine ewp_region ?_ | refine ewp_skip ?_ | refine ewp_exit ?_ | refine ewp_ret ?_ | refine ewp_true rfl ?_ | refine ewp_false rfl ?_)
    ((repeat (first | refine ewp_seq ?_ | refine ewp_block ?_ | refine ewp_region ?_ | refine ewp_skip ?_ | refine ewp_exit ?_ | refine ewp_ret ?_ | refine ewp_true rfl ?_ | refine ewp_false rfl ?_)) <;> (refine o_mi rfl rfl ?_ <;> refine o_as rfl rfl ?_ <;> (first | refine owp_nilT ?_ | refine owp_nilB ?_ | refine owp_nilBB ?_ | refine owp_nil ?_)) <;> (repeat (first | refine ewp_seq ?_ | refine ewp_block ?_ | refine ewp_region ?_ | refine ewp_skip ?_ | refine ewp_exit ?_ | refine ewp_ret ?_ | refine ewp_true rfl ?_ | refine ewp_false rfl ?_)))
    refine ret1 rfl rfl ⟨?_, hE1.trans' hE2⟩
    rw [checkN, bof_t hP]; rfl
  intro w2 hlarge hE2
  replace hb1 := hb1.ext hE2
  replace hE2 : Ext w w2 := hE1.trans' hE2
  have hm : ∀ (i : Nat) o, t.ops[i]? = some o → o.effs.length ≤ 64 := fun i o ho => Nat.le_of_not_lt fun h => hlarge (.inr (.inr (.inl ⟨i, o, ho, h⟩)))
  have hn4 : t.ops.length ≤ 4096 := Nat.le_of_not_lt fun h => hlarge (.inr (.inl h))
  have c1 : checkN t = if bof (VarsOk t ∧ CostsOk t) = false then 1 else if bof (StateOk t.vars t.init ∧ CondsOk t ∧ EffsOk t) = false then 2 else if bof (NamesOk t) = false then 8 else 0 := by rw [checkN, bof_f hlarge]; rfl
  ((first | refine owp_nilT ?_ | refine owp_nilB ?_ | refine owp_nilBB ?_ | refine owp_nil ?_))
  repeat (first | refine ewp_seq ?_ | refine ewp_block ?_ | refine ewp_region ?_ | refine ewp_skip ?_ | refine ewp_exit ?_ | refine ewp_ret ?_ | refine ewp_true rfl ?_ | refine ewp_false rfl ?_)
  ((repeat (first | refine ewp_seq ?_ | refine ewp_block ?_ | refine ewp_region ?_ | refine ewp_skip ?_ | refine ewp_exit ?_ | refine ewp_ret ?_ | refine ewp_true rfl ?_ | refine ewp_false rfl ?_)) <;> (refine o_fa rfl rfl ?_ <;> refine o_ld rfl rfl ?_ <;> refine o_ln rfl rfl ?_ <;> refine o_mv rfl rfl ?_ <;> (first | refine owp_nilT ?_ | refine owp_nilB ?_ | refine owp_nilBB ?_ | refine owp_nil ?_)) <;> (repeat (first | refine ewp_seq ?_ | refine ewp_block ?_ | refine ewp_region ?_ | refine ewp_skip ?_ | refine ewp_exit ?_ | refine ewp_ret ?_ | refine ewp_true rfl ?_ | refine ewp_false rfl ?_)))
  refine ewp_range t.vars.length (by omega) (fun _ : Unit => [(1, .pointer (some ⟨w.heap.size, 0, none⟩)), (19, .slice Av t.vars.length cv)]) (fun k _ w' => w' = w2 ∧ ∀ i, i < k → ∀ n, t.vars[i]? = some n → 1 ≤ n ∧ n ≤ 64) ()
    ⟨rfl, fun i hi => by omega⟩ ⟨rfl, rfl, rfl, rfl, trivial⟩ (fun _ => ⟨rfl, rfl⟩) ⟨rfl, rfl, rfl⟩ ⟨rfl, rfl⟩ ?_ ?_
  · rintro k _ _ hk ⟨rfl, hh⟩
    obtain ⟨n, hn⟩ := some_of_lt hk
    obtain ⟨b2, o2, ce, rfl, _, _, hd1, rfl, _⟩ := (hvars.ext hE2).elem hn
    ((repeat (first | refine ewp_seq ?_ | refine ewp_block ?_ | refine ewp_region ?_ | refine ewp_skip ?_ | refine ewp_exit ?_ | refine ewp_ret ?_ | refine ewp_true rfl ?_ | refine ewp_false rfl ?_)) <;> (refine o_ia rfl rfl rfl ?_ <;> refine o_ld rfl rfl ?_ <;> refine o_as rfl rfl ?_ <;> (first | refine owp_nilT ?_ | refine owp_nilB ?_ | refine owp_nilBB ?_ | refine owp_nil ?_)) <;> (repeat (first | refine ewp_seq ?_ | refine ewp_block ?_ | refine ewp_region ?_ | refine ewp_skip ?_ | refine ewp_exit ?_ | refine ewp_ret ?_ | refine ewp_true rfl ?_ | refine ewp_false rfl ?_)) <;> (refine o_mv rfl rfl ?_ <;> (first | refine o_ltT rfl rfl rfl ?_ | refine o_ltF rfl rfl rfl ?_ | refine o_ltS rfl rfl rfl (fun _ => ?_) fun _ => ?_) <;> refine o_mv rfl rfl ?_ <;> (first | (refine owp_yes rfl rfl ?_; refine o_mv rfl rfl ?_) | refine owp_no rfl rfl rfl rfl ?_) <;> (first | (refine owp_yes rfl rfl ?_; (first | refine o_gtT rfl rfl rfl ?_ | refine o_gtF rfl rfl rfl ?_ | refine o_gtS rfl rfl rfl (fun _ => ?_) fun _ => ?_)) | refine owp_no rfl rfl rfl rfl ?_) <;> (first | refine o_pt rfl rfl rfl ?_ | refine o_pf rfl rfl rfl ?_) <;> (first | refine owp_nilT ?_ | refine owp_nilB ?_ | refine owp_nilBB ?_ | refine owp_nil ?_)) <;> (repeat (first | refine ewp_seq ?_ | refine ewp_block ?_ | refine ewp_region ?_ | refine ewp_skip ?_ | refine ewp_exit ?_ | refine ewp_ret ?_ | refine ewp_true rfl ?_ | refine ewp_false rfl ?_)))
    all_goals try (
      ((repeat (first | refine ewp_seq ?_ | refine ewp_block ?_ | refine ewp_region ?_ | refine ewp_skip ?_ | refine ewp_exit ?_ | refine ewp_ret ?_ | refine ewp_true rfl ?_ | refine ewp_false rfl ?_)) <;> (refine o_mi rfl rfl ?_ <;> refine o_as rfl rfl ?_ <;> (first | refine owp_nilT ?_ | refine owp_nilB ?_ | refine owp_nilBB ?_ | refine owp_nil ?_)) <;> (repeat (first | refine ewp_seq ?_ | refine ewp_block ?_ | refine ewp_region ?_ | refine ewp_skip ?_ | refine ewp_exit ?_ | refine ewp_ret ?_ | refine ewp_true rfl ?_ | refine ewp_false rfl ?_)))
      refine ret1 rfl rfl ⟨?_, hE2⟩
      rw [c1, bof_f (fun h => by have := h.1 k n hn; omega)]; rfl)
    exact ⟨(), ⟨rfl, rfl, rfl, rfl, trivial⟩, rfl, upto_step hh fun n' hn' => by rw [hn] at hn'; injection hn' with hn'; omega⟩
  rintro _ _ ⟨rfl, hdom⟩
  replace hdom : VarsOk t := fun i n hn => hdom i (lt_of_some hn) n hn
  repeat (first | refine ewp_seq ?_ | refine ewp_block ?_ | refine ewp_region ?_ | refine ewp_skip ?_ | refine ewp_exit ?_ | refine ewp_ret ?_ | refine ewp_true rfl ?_ | refine ewp_false rfl ?_)
  ((repeat (first | refine ewp_seq ?_ | refine ewp_block ?_ | refine ewp_region ?_ | refine ewp_skip ?_ | refine ewp_exit ?_ | refine ewp_ret ?_ | refine ewp_true rfl ?_ | refine ewp_false rfl ?_)) <;> (refine o_fa rfl rfl ?_ <;> refine o_ld rfl rfl ?_ <;> refine o_ln rfl rfl ?_ <;> refine o_mv rfl rfl ?_ <;> (first | refine owp_nilT ?_ | refine owp_nilB ?_ | refine owp_nilBB ?_ | refine owp_nil ?_)) <;> (repeat (first | refine ewp_seq ?_ | refine ewp_block ?_ | refine ewp_region ?_ | refine ewp_skip ?_ | refine ewp_exit ?_ | refine ewp_ret ?_ | refine ewp_true rfl ?_ | refine ewp_false rfl ?_)))
  refine ewp_range t.ops.length (by omega) (fun _ : Unit => [(1, .pointer (some ⟨w.heap.size, 0, none⟩)), (34, .slice Ao t.ops.length co)]) (fun k _ w' => Ext w w' ∧ Blk w' w.heap.size 26 [.slice Av t.vars.length cv, .slice Ai t.init.length ci, .slice Ag t.goal.length cg, .slice Ao t.ops.length co] ∧ ∀ i, i < k → ∀ o, t.ops[i]? = some o → 0 ≤ o.cost ∧ o.cost ≤ 1048576) ()
    ⟨hE2, hb1, fun i hi => by omega⟩ ⟨rfl, rfl, rfl, rfl, trivial⟩ (fun _ => ⟨rfl, rfl⟩) ⟨rfl, rfl, rfl⟩ ⟨rfl, rfl⟩ ?_ ?_
  · rintro k _ w4 hk ⟨hE4, hb1, hh⟩
    obtain ⟨o, ho⟩ := some_of_lt hk
    obtain ⟨b2, o2, ce, rfl, _, _, hd1, p, q, rfl, hp, hq, hc, hn⟩ := (hops.ext hE4).elem ho
    obtain ⟨Ap, cp, rfl⟩ := hp.form
    obtain ⟨Aq, cq, rfl⟩ := hq.form
    ((repeat (first | refine ewp_seq ?_ | refine ewp_block ?_ | refine ewp_region ?_ | refine ewp_skip ?_ | refine ewp_exit ?_ | refine ewp_ret ?_ | refine ewp_true rfl ?_ | refine ewp_false rfl ?_)) <;> (refine o_ia rfl rfl rfl ?_ <;> refine o_la rfl rfl ?_) <;> (repeat (first | refine ewp_seq ?_ | refine ewp_block ?_ | refine ewp_region ?_ | refine ewp_skip ?_ | refine ewp_exit ?_ | refine ewp_ret ?_ | refine ewp_true rfl ?_ | refine ewp_false rfl ?_)))
    refine owp_local rfl rfl rfl (by simp [Value.cells, Value.oneCell']) fun w5 hN5 => ?_
    replace hb1 := hb1.ext hN5.ext
    have hb2 := hN5.blk
    have hE5 : Ext w w5 := hE4.trans' hN5.ext
    ((first | refine owp_nilT ?_ | refine owp_nilB ?_ | refine owp_nilBB ?_ | refine owp_nil ?_))
    repeat (first | refine ewp_seq ?_ | refine ewp_block ?_ | refine ewp_region ?_ | refine ewp_skip ?_ | refine ewp_exit ?_ | refine ewp_ret ?_ | refine ewp_true rfl ?_ | refine ewp_false rfl ?_)
    ((repeat (first | refine ewp_seq ?_ | refine ewp_block ?_ | refine ewp_region ?_ | refine ewp_skip ?_ | refine ewp_exit ?_ | refine ewp_ret ?_ | refine ewp_true rfl ?_ | refine ewp_false rfl ?_)) <;> (refine o_fa rfl rfl ?_ <;> refine o_ld rfl rfl ?_ <;> (first | refine o_ltT rfl rfl rfl ?_ | refine o_ltF rfl rfl rfl ?_ | refine o_ltS rfl rfl rfl (fun _ => ?_) fun _ => ?_) <;> refine o_mv rfl rfl ?_ <;> (first | (refine owp_yes rfl rfl ?_; refine o_fa rfl rfl ?_) | refine owp_no rfl rfl rfl rfl ?_) <;> (first | (refine owp_yes rfl rfl ?_; refine o_ld rfl rfl ?_) | refine owp_no rfl rfl rfl rfl ?_) <;> (first | (refine owp_yes rfl rfl ?_; (first | refine o_gtT rfl rfl rfl ?_ | refine o_gtF rfl rfl rfl ?_ | refine o_gtS rfl rfl rfl (fun _ => ?_) fun _ => ?_)) | refine owp_no rfl rfl rfl rfl ?_) <;> (first | refine o_pt rfl rfl rfl ?_ | refine o_pf rfl rfl rfl ?_) <;> (first | refine owp_nilT ?_ | refine owp_nilB ?_ | refine owp_nilBB ?_ | refine owp_nil ?_)) <;> (repeat (first | refine ewp_seq ?_ | refine ewp_block ?_ | refine ewp_region ?_ | refine ewp_skip ?_ | refine ewp_exit ?_ | refine ewp_ret ?_ | refine ewp_true rfl ?_ | refine ewp_false rfl ?_)))
    all_goals try (
      ((repeat (first | refine ewp_seq ?_ | refine ewp_block ?_ | refine ewp_region ?_ | refine ewp_skip ?_ | refine ewp_exit ?_ | refine ewp_ret ?_ | refine ewp_true rfl ?_ | refine ewp_false rfl ?_)) <;> (refine o_mi rfl rfl ?_ <;> refine o_as rfl rfl ?_ <;> (first | refine owp_nilT ?_ | refine owp_nilB ?_ | refine owp_nilBB ?_ | refine owp_nil ?_)) <;> (repeat (first | refine ewp_seq ?_ | refine ewp_block ?_ | refine ewp_region ?_ | refine ewp_skip ?_ | refine ewp_exit ?_ | refine ewp_ret ?_ | refine ewp_true rfl ?_ | refine ewp_false rfl ?_)))
      refine ret1 rfl rfl ⟨?_, hE5⟩
      rw [c1, bof_f (fun h => by have := h.2 k o ho; omega)]; rfl)
    exact ⟨(), ⟨rfl, rfl, rfl, rfl, trivial⟩, hE5, hb1, upto_step hh fun o' ho' => by rw [ho] at ho'; injection ho' with ho'; subst ho'; omega⟩
  rintro _ w3 ⟨hE3, hb1, hcost⟩
  replace hcost : CostsOk t := fun i o ho => hcost i (lt_of_some ho) o ho
  have c2 : checkN t = if bof (StateOk t.vars t.init ∧ CondsOk t ∧ EffsOk t) = false then 2 else if bof (NamesOk t) = false then 8 else 0 := by rw [c1, bof_t ⟨hdom, hcost⟩]; rfl
  repeat (first | refine ewp_seq ?_ | refine ewp_block ?_ | refine ewp_region ?_ | refine ewp_skip ?_ | refine ewp_exit ?_ | refine ewp_ret ?_ | refine ewp_true rfl ?_ | refine ewp_false rfl ?_)
  (refine o_fa rfl rfl ?_ <;> refine o_ld rfl rfl ?_ <;> refine o_fa rfl rfl ?_ <;> refine o_ld rfl rfl ?_)
  refine owp_callB rfl rfl (taskProper (hvars.ext hE3) (hinit.ext hE3)) ?_ ?_
  case refine_2 =>
    intro w4 hP hE4
    ((first | refine o_nt rfl rfl ?_ | refine o_nf rfl rfl ?_ | refine o_nn rfl rfl ?_) <;> (first | refine owp_nilT ?_ | refine owp_nilB ?_ | refine owp_nilBB ?_ | refine owp_nil ?_))
    repeat (first | refine ewp_seq ?_ | refine ewp_block ?_ | refine ewp_region ?_ | refine ewp_skip ?_ | refine ewp_exit ?_ | refine ewp_ret ?_ | refine ewp_true rfl ?_ | refine ewp_false rfl ?_)
    ((repeat (first | refine ewp_seq ?_ | refine ewp_block ?_ | refine ewp_region ?_ | refine ewp_skip ?_ | refine ewp_exit ?_ | refine ewp_ret ?_ | refine ewp_true rfl ?_ | refine ewp_false rfl ?_)) <;> (refine o_mi rfl rfl ?_ <;> refine o_as rfl rfl ?_ <;> (first | refine owp_nilT ?_ | refine owp_nilB ?_ | refine owp_nilBB ?_ | refine owp_nil ?_)) <;> (repeat (first | refine ewp_seq ?_ | refine ewp_block ?_ | refine ewp_region ?_ | refine ewp_skip ?_ | refine ewp_exit ?_ | refine ewp_ret ?_ | refine ewp_true rfl ?_ | refine ewp_false rfl ?_)))
    refine ret1 rfl rfl ⟨?_, hE3.trans' hE4⟩
    rw [c2, bof_f (fun h => hP h.1)]; rfl
  intro w4 hst hE4
  replace hb1 := hb1.ext hE4
  replace hE4 : Ext w w4 := hE3.trans' hE4
  ((first | refine o_nt rfl rfl ?_ | refine o_nf rfl rfl ?_ | refine o_nn rfl rfl ?_) <;> (first | refine owp_nilT ?_ | refine owp_nilB ?_ | refine owp_nilBB ?_ | refine owp_nil ?_))
  repeat (first | refine ewp_seq ?_ | refine ewp_block ?_ | refine ewp_region ?_ | refine ewp_skip ?_ | refine ewp_exit ?_ | refine ewp_ret ?_ | refine ewp_true rfl ?_ | refine ewp_false rfl ?_)
  (refine o_la rfl rfl ?_)
  refine owp_call rfl rfl (taskConditions (ht0.ext hE4) hn4 hm) ?_
  rintro v5 w5 ⟨hv5, hE5⟩
  obtain ⟨Ac, cc, rfl⟩ := hv5.form
  have hcl := hv5.len
  replace hb1 := hb1.ext hE5
  replace hE5 : Ext w w5 := hE4.trans' hE5
  (refine o_ln rfl rfl ?_ <;> refine o_mv rfl rfl ?_ <;> (first | refine owp_nilT ?_ | refine owp_nilB ?_ | refine owp_nilBB ?_ | refine owp_nil ?_))
  repeat (first | refine ewp_seq ?_ | refine ewp_block ?_ | refine ewp_region ?_ | refine ewp_skip ?_ | refine ewp_exit ?_ | refine ewp_ret ?_ | refine ewp_true rfl ?_ | refine ewp_false rfl ?_)
  refine ewp_range (conds t).length (by omega) (fun _ : Unit => [(1, .pointer (some ⟨w.heap.size, 0, none⟩)), (58, .slice Ac (conds t).length cc)]) (fun k _ w' => Ext w5 w' ∧ ∀ i, i < k → ∀ f, (conds t)[i]? = some f → FactsOk t.vars f) ()
    ⟨Below.refl _ _, fun i hi => by omega⟩ ⟨rfl, rfl, rfl, rfl, trivial⟩ (fun _ => ⟨rfl, rfl⟩) ⟨rfl, rfl, rfl⟩ ⟨rfl, rfl⟩ ?_ ?_
  · rintro k _ w6 hk ⟨hE6, hh⟩
    obtain ⟨f, hf⟩ := some_of_lt hk
    have hb1 := hb1.ext hE6
    obtain ⟨b2, o2, ce, rfl, _, _, hd1, v, rfl, hR⟩ := (hv5.ext hE6).elem hf
    ((repeat (first | refine ewp_seq ?_ | refine ewp_block ?_ | refine ewp_region ?_ | refine ewp_skip ?_ | refine ewp_exit ?_ | refine ewp_ret ?_ | refine ewp_true rfl ?_ | refine ewp_false rfl ?_)) <;> (refine o_ia rfl rfl rfl ?_ <;> refine o_ld rfl rfl ?_ <;> refine o_as rfl rfl ?_ <;> (first | refine owp_nilT ?_ | refine owp_nilB ?_ | refine owp_nilBB ?_ | refine owp_nil ?_)) <;> (repeat (first | refine ewp_seq ?_ | refine ewp_block ?_ | refine ewp_region ?_ | refine ewp_skip ?_ | refine ewp_exit ?_ | refine ewp_ret ?_ | refine ewp_true rfl ?_ | refine ewp_false rfl ?_)) <;> (refine o_fa rfl rfl ?_ <;> refine o_ld rfl rfl ?_ <;> refine o_mv rfl rfl ?_) <;> (repeat (first | refine ewp_seq ?_ | refine ewp_block ?_ | refine ewp_region ?_ | refine ewp_skip ?_ | refine ewp_exit ?_ | refine ewp_ret ?_ | refine ewp_true rfl ?_ | refine ewp_false rfl ?_)))
    refine owp_callB rfl rfl (taskFacts (hvars.ext (hE5.trans' hE6)) (Vb.of_slice hR)) ?_ ?_
    · intro w7 hP hE7
      ((first | refine o_nt rfl rfl ?_ | refine o_nf rfl rfl ?_ | refine o_nn rfl rfl ?_) <;> (first | refine owp_nilT ?_ | refine owp_nilB ?_ | refine owp_nilBB ?_ | refine owp_nil ?_))
      repeat (first | refine ewp_seq ?_ | refine ewp_block ?_ | refine ewp_region ?_ | refine ewp_skip ?_ | refine ewp_exit ?_ | refine ewp_ret ?_ | refine ewp_true rfl ?_ | refine ewp_false rfl ?_)
      exact ⟨(), ⟨rfl, rfl, rfl, rfl, trivial⟩, hE6.trans' hE7, upto_step hh fun f' hf' => by rw [hf] at hf'; injection hf' with hf'; exact hf' ▸ hP⟩
    · intro w7 hP hE7
      ((first | refine o_nt rfl rfl ?_ | refine o_nf rfl rfl ?_ | refine o_nn rfl rfl ?_) <;> (first | refine owp_nilT ?_ | refine owp_nilB ?_ | refine owp_nilBB ?_ | refine owp_nil ?_))
      repeat (first | refine ewp_seq ?_ | refine ewp_block ?_ | refine ewp_region ?_ | refine ewp_skip ?_ | refine ewp_exit ?_ | refine ewp_ret ?_ | refine ewp_true rfl ?_ | refine ewp_false rfl ?_)
      ((repeat (first | refine ewp_seq ?_ | refine ewp_block ?_ | refine ewp_region ?_ | refine ewp_skip ?_ | refine ewp_exit ?_ | refine ewp_ret ?_ | refine ewp_true rfl ?_ | refine ewp_false rfl ?_)) <;> (refine o_mi rfl rfl ?_ <;> refine o_as rfl rfl ?_ <;> (first | refine owp_nilT ?_ | refine owp_nilB ?_ | refine owp_nilBB ?_ | refine owp_nil ?_)) <;> (repeat (first | refine ewp_seq ?_ | refine ewp_block ?_ | refine ewp_region ?_ | refine ewp_skip ?_ | refine ewp_exit ?_ | refine ewp_ret ?_ | refine ewp_true rfl ?_ | refine ewp_false rfl ?_)))
      refine ret1 rfl rfl ⟨?_, hE5.trans' (hE6.trans' hE7)⟩
      rw [c2, bof_f (fun h => hP (h.2.1 k f hf))]; rfl
  rintro _ w6 ⟨hE6, hcond⟩
  replace hcond : CondsOk t := fun i f hf => hcond i (lt_of_some hf) f hf
  replace hb1 := hb1.ext hE6
  replace hE6 : Ext w w6 := hE5.trans' hE6
  repeat (first | refine ewp_seq ?_ | refine ewp_block ?_ | refine ewp_region ?_ | refine ewp_skip ?_ | refine ewp_exit ?_ | refine ewp_ret ?_ | refine ewp_true rfl ?_ | refine ewp_false rfl ?_)
  ((repeat (first | refine ewp_seq ?_ | refine ewp_block ?_ | refine ewp_region ?_ | refine ewp_skip ?_ | refine ewp_exit ?_ | refine ewp_ret ?_ | refine ewp_true rfl ?_ | refine ewp_false rfl ?_)) <;> (refine o_fa rfl rfl ?_ <;> refine o_ld rfl rfl ?_ <;> refine o_ln rfl rfl ?_ <;> refine o_mv rfl rfl ?_ <;> (first | refine owp_nilT ?_ | refine owp_nilB ?_ | refine owp_nilBB ?_ | refine owp_nil ?_)) <;> (repeat (first | refine ewp_seq ?_ | refine ewp_block ?_ | refine ewp_region ?_ | refine ewp_skip ?_ | refine ewp_exit ?_ | refine ewp_ret ?_ | refine ewp_true rfl ?_ | refine ewp_false rfl ?_)))
  refine ewp_range t.ops.length (by omega) (fun _ : Unit => [(1, .pointer (some ⟨w.heap.size, 0, none⟩)), (72, .slice Ao t.ops.length co)]) (fun k _ w' => Ext w6 w' ∧ ∀ i, i < k → ∀ o, t.ops[i]? = some o → ∀ (j : Nat) e, o.effs[j]? = some e → FactOk t.vars ⟨e.var, e.val⟩) ()
    ⟨Below.refl _ _, fun i hi => by omega⟩ ⟨rfl, rfl, rfl, rfl, trivial⟩ (fun _ => ⟨rfl, rfl⟩) ⟨rfl, rfl, rfl⟩ ⟨rfl, rfl⟩ ?_ ?_
  · rintro k _ w7 hk ⟨hE7, hh⟩
    obtain ⟨o, ho⟩ := some_of_lt hk
    have hb1 := hb1.ext hE7
    obtain ⟨b2, o2, ce, rfl, _, _, hd1, p, q, rfl, hp, hq, hc, hn⟩ := (hops.ext (hE6.trans' hE7)).elem ho
    obtain ⟨Ap, cp, rfl⟩ := hp.form
    obtain ⟨Aq, cq, rfl⟩ := hq.form
    have hql := hq.len
    ((repeat (first | refine ewp_seq ?_ | refine ewp_block ?_ | refine ewp_region ?_ | refine ewp_skip ?_ | refine ewp_exit ?_ | refine ewp_ret ?_ | refine ewp_true rfl ?_ | refine ewp_false rfl ?_)) <;> (refine o_ia rfl rfl rfl ?_ <;> refine o_la rfl rfl ?_) <;> (repeat (first | refine ewp_seq ?_ | refine ewp_block ?_ | refine ewp_region ?_ | refine ewp_skip ?_ | refine ewp_exit ?_ | refine ewp_ret ?_ | refine ewp_true rfl ?_ | refine ewp_false rfl ?_)))
    refine owp_local rfl rfl rfl (by simp [Value.cells, Value.oneCell']) fun w8 hN8 => ?_
    replace hb1 := hb1.ext hN8.ext
    have hb2 := hN8.blk
    have hE8 : Ext w6 w8 := hE7.trans' hN8.ext
    replace hq := hq.ext hN8.ext
    ((first | refine owp_nilT ?_ | refine owp_nilB ?_ | refine owp_nilBB ?_ | refine owp_nil ?_))
    repeat (first | refine ewp_seq ?_ | refine ewp_block ?_ | refine ewp_region ?_ | refine ewp_skip ?_ | refine ewp_exit ?_ | refine ewp_ret ?_ | refine ewp_true rfl ?_ | refine ewp_false rfl ?_)
    ((repeat (first | refine ewp_seq ?_ | refine ewp_block ?_ | refine ewp_region ?_ | refine ewp_skip ?_ | refine ewp_exit ?_ | refine ewp_ret ?_ | refine ewp_true rfl ?_ | refine ewp_false rfl ?_)) <;> (refine o_fa rfl rfl ?_ <;> refine o_ld rfl rfl ?_ <;> refine o_ln rfl rfl ?_ <;> refine o_mv rfl rfl ?_ <;> (first | refine owp_nilT ?_ | refine owp_nilB ?_ | refine owp_nilBB ?_ | refine owp_nil ?_)) <;> (repeat (first | refine ewp_seq ?_ | refine ewp_block ?_ | refine ewp_region ?_ | refine ewp_skip ?_ | refine ewp_exit ?_ | refine ewp_ret ?_ | refine ewp_true rfl ?_ | refine ewp_false rfl ?_)))
    refine ewp_range o.effs.length (by omega) (fun _ : Unit => [(1, .pointer (some ⟨w.heap.size, 0, none⟩)), (72, .slice (some ⟨b2, o2, none⟩) t.ops.length co), (73, .int .i64 (t.ops.length : Int)), (74, .int .i64 (k : Int)), (79, .slice Aq o.effs.length cq)]) (fun j _ w' => Ext w8 w' ∧ ∀ i, i < j → ∀ e, o.effs[i]? = some e → FactOk t.vars ⟨e.var, e.val⟩) ()
      ⟨Below.refl _ _, fun i hi => by omega⟩ ⟨rfl, rfl, rfl, rfl, rfl, rfl, rfl, trivial⟩ (fun _ => ⟨rfl, rfl⟩) ⟨rfl, rfl, rfl⟩ ⟨rfl, rfl⟩ ?_ ?_
    · rintro j _ w9 hj ⟨hE9, hh9⟩
      obtain ⟨e, he⟩ := some_of_lt hj
      have hb1 := hb1.ext hE9
      obtain ⟨b3, o3, ce, rfl, _, _, hd1, cv', rfl, hcn, hr1, hr2⟩ := (hq.ext hE9).elem he
      obtain ⟨Acn, ccn, rfl⟩ := hcn.form
      ((repeat (first | refine ewp_seq ?_ | refine ewp_block ?_ | refine ewp_region ?_ | refine ewp_skip ?_ | refine ewp_exit ?_ | refine ewp_ret ?_ | refine ewp_true rfl ?_ | refine ewp_false rfl ?_)) <;> (refine o_ia rfl rfl rfl ?_ <;> refine o_la rfl rfl ?_) <;> (repeat (first | refine ewp_seq ?_ | refine ewp_block ?_ | refine ewp_region ?_ | refine ewp_skip ?_ | refine ewp_exit ?_ | refine ewp_ret ?_ | refine ewp_true rfl ?_ | refine ewp_false rfl ?_)))
      refine owp_local rfl rfl rfl (by simp [Value.cells, Value.oneCell']) fun w10 hN10 => ?_
      have hb3 := hN10.blk
      replace hb1 := hb1.ext hN10.ext
      have hE10 : Ext w w10 := hE6.trans' (hE8.trans' (hE9.trans' hN10.ext))
      ((first | refine owp_nilT ?_ | refine owp_nilB ?_ | refine owp_nilBB ?_ | refine owp_nil ?_))
      repeat (first | refine ewp_seq ?_ | refine ewp_block ?_ | refine ewp_region ?_ | refine ewp_skip ?_ | refine ewp_exit ?_ | refine ewp_ret ?_ | refine ewp_true rfl ?_ | refine ewp_false rfl ?_)
      (refine o_fa rfl rfl ?_ <;> refine o_ld rfl rfl ?_ <;> refine o_fa rfl rfl ?_ <;> refine o_ld rfl rfl ?_ <;> refine o_fa rfl rfl ?_ <;> refine o_ld rfl rfl ?_ <;> refine o_bd rfl rfl rfl ?_)
      refine owp_slice rfl rfl rfl (by simp [Value.cells]; rfl) (by decide) rfl fun w11 hN11 => ?_
      have hE11 : Ext w w11 := hE10.trans' hN11.ext
      have hone : V w11 (.slice (some ⟨w10.heap.size, 0, none⟩) 1 1) [(⟨e.var, e.val⟩ : Fct)] := Vb.made hN11 (.single ⟨rfl, hr1, hr2⟩) rfl hN11.blk.lt (by decide)
      refine owp_callB rfl rfl (taskFacts (hvars.ext hE11) hone) ?_ ?_
      · intro w12 hP hE12
        ((first | refine o_nt rfl rfl ?_ | refine o_nf rfl rfl ?_ | refine o_nn rfl rfl ?_) <;> (first | refine owp_nilT ?_ | refine owp_nilB ?_ | refine owp_nilBB ?_ | refine owp_nil ?_))
        repeat (first | refine ewp_seq ?_ | refine ewp_block ?_ | refine ewp_region ?_ | refine ewp_skip ?_ | refine ewp_exit ?_ | refine ewp_ret ?_ | refine ewp_true rfl ?_ | refine ewp_false rfl ?_)
        exact ⟨(), ⟨rfl, rfl, rfl, rfl, rfl, rfl, rfl, trivial⟩, hE9.trans' (hN10.ext.trans' (hN11.ext.trans' hE12)), upto_step hh9 fun e' he' => by rw [he] at he'; injection he' with he'; subst he'; exact factsOk_one.1 hP⟩
      · intro w12 hP hE12
        ((first | refine o_nt rfl rfl ?_ | refine o_nf rfl rfl ?_ | refine o_nn rfl rfl ?_) <;> (first | refine owp_nilT ?_ | refine owp_nilB ?_ | refine owp_nilBB ?_ | refine owp_nil ?_))
        repeat (first | refine ewp_seq ?_ | refine ewp_block ?_ | refine ewp_region ?_ | refine ewp_skip ?_ | refine ewp_exit ?_ | refine ewp_ret ?_ | refine ewp_true rfl ?_ | refine ewp_false rfl ?_)
        ((repeat (first | refine ewp_seq ?_ | refine ewp_block ?_ | refine ewp_region ?_ | refine ewp_skip ?_ | refine ewp_exit ?_ | refine ewp_ret ?_ | refine ewp_true rfl ?_ | refine ewp_false rfl ?_)) <;> (refine o_mi rfl rfl ?_ <;> refine o_as rfl rfl ?_ <;> (first | refine owp_nilT ?_ | refine owp_nilB ?_ | refine owp_nilBB ?_ | refine owp_nil ?_)) <;> (repeat (first | refine ewp_seq ?_ | refine ewp_block ?_ | refine ewp_region ?_ | refine ewp_skip ?_ | refine ewp_exit ?_ | refine ewp_ret ?_ | refine ewp_true rfl ?_ | refine ewp_false rfl ?_)))
        refine ret1 rfl rfl ⟨?_, hE11.trans' hE12⟩
        rw [c2, bof_f (fun h => hP (factsOk_one.2 (h.2.2 k o ho j e he)))]; rfl
    rintro _ w9 ⟨hE9, hh9⟩
    repeat (first | refine ewp_seq ?_ | refine ewp_block ?_ | refine ewp_region ?_ | refine ewp_skip ?_ | refine ewp_exit ?_ | refine ewp_ret ?_ | refine ewp_true rfl ?_ | refine ewp_false rfl ?_)
    exact ⟨(), ⟨rfl, rfl, rfl, rfl, trivial⟩, hE8.trans' hE9, upto_step hh fun o' ho' j e he => by rw [ho] at ho'; injection ho' with ho'; subst ho'; exact hh9 j (lt_of_some he) e he⟩
  rintro _ w7 ⟨hE7, heff⟩
  replace heff : EffsOk t := fun i o ho => heff i (lt_of_some ho) o ho
  have c3 : checkN t = if bof (NamesOk t) = false then 8 else 0 := by rw [c2, bof_t ⟨hst, hcond, heff⟩]; rfl
  replace hb1 := hb1.ext hE7
  replace hE7 : Ext w w7 := hE6.trans' hE7
  repeat (first | refine ewp_seq ?_ | refine ewp_block ?_ | refine ewp_region ?_ | refine ewp_skip ?_ | refine ewp_exit ?_ | refine ewp_ret ?_ | refine ewp_true rfl ?_ | refine ewp_false rfl ?_)
  ((repeat (first | refine ewp_seq ?_ | refine ewp_block ?_ | refine ewp_region ?_ | refine ewp_skip ?_ | refine ewp_exit ?_ | refine ewp_ret ?_ | refine ewp_true rfl ?_ | refine ewp_false rfl ?_)) <;> (refine o_fa rfl rfl ?_ <;> refine o_ld rfl rfl ?_ <;> refine o_ln rfl rfl ?_ <;> refine o_mv rfl rfl ?_ <;> (first | refine owp_nilT ?_ | refine owp_nilB ?_ | refine owp_nilBB ?_ | refine owp_nil ?_)) <;> (repeat (first | refine ewp_seq ?_ | refine ewp_block ?_ | refine ewp_region ?_ | refine ewp_skip ?_ | refine ewp_exit ?_ | refine ewp_ret ?_ | refine ewp_true rfl ?_ | refine ewp_false rfl ?_)))
  refine ewp_range t.ops.length (by omega) (fun _ : Unit => [(1, .pointer (some ⟨w.heap.size, 0, none⟩)), (99, .slice Ao t.ops.length co)]) (fun k _ w' => Ext w w' ∧ ∀ i, i < k → ∀ o, t.ops[i]? = some o → NameOk o.name) ()
    ⟨hE7, fun i hi => by omega⟩ ⟨rfl, rfl, rfl, rfl, trivial⟩ (fun _ => ⟨rfl, rfl⟩) ⟨rfl, rfl, rfl⟩ ⟨rfl, rfl⟩ ?_ ?_
  · rintro k _ w8 hk ⟨hE8, hh⟩
    obtain ⟨o, ho⟩ := some_of_lt hk
    obtain ⟨b2, o2, ce, rfl, _, _, hd1, p, q, rfl, hp, hq, hc, hn⟩ := (hops.ext hE8).elem ho
    obtain ⟨Ap, cp, rfl⟩ := hp.form
    obtain ⟨Aq, cq, rfl⟩ := hq.form
    ((repeat (first | refine ewp_seq ?_ | refine ewp_block ?_ | refine ewp_region ?_ | refine ewp_skip ?_ | refine ewp_exit ?_ | refine ewp_ret ?_ | refine ewp_true rfl ?_ | refine ewp_false rfl ?_)) <;> (refine o_ia rfl rfl rfl ?_ <;> refine o_la rfl rfl ?_) <;> (repeat (first | refine ewp_seq ?_ | refine ewp_block ?_ | refine ewp_region ?_ | refine ewp_skip ?_ | refine ewp_exit ?_ | refine ewp_ret ?_ | refine ewp_true rfl ?_ | refine ewp_false rfl ?_)))
    refine owp_local rfl rfl rfl (by simp [Value.cells, Value.oneCell']) fun w9 hN9 => ?_
    have hb2 := hN9.blk
    have hE9 : Ext w w9 := hE8.trans' hN9.ext
    ((first | refine owp_nilT ?_ | refine owp_nilB ?_ | refine owp_nilBB ?_ | refine owp_nil ?_))
    repeat (first | refine ewp_seq ?_ | refine ewp_block ?_ | refine ewp_region ?_ | refine ewp_skip ?_ | refine ewp_exit ?_ | refine ewp_ret ?_ | refine ewp_true rfl ?_ | refine ewp_false rfl ?_)
    (refine o_fa rfl rfl ?_ <;> refine o_ld rfl rfl ?_)
    refine owp_callB rfl rfl (taskNamed hn) ?_ ?_
    · intro w10 hP hE10
      ((first | refine o_nt rfl rfl ?_ | refine o_nf rfl rfl ?_ | refine o_nn rfl rfl ?_) <;> (first | refine owp_nilT ?_ | refine owp_nilB ?_ | refine owp_nilBB ?_ | refine owp_nil ?_))
      repeat (first | refine ewp_seq ?_ | refine ewp_block ?_ | refine ewp_region ?_ | refine ewp_skip ?_ | refine ewp_exit ?_ | refine ewp_ret ?_ | refine ewp_true rfl ?_ | refine ewp_false rfl ?_)
      exact ⟨(), ⟨rfl, rfl, rfl, rfl, trivial⟩, hE9.trans' hE10, upto_step hh fun o' ho' => by rw [ho] at ho'; injection ho' with ho'; exact ho' ▸ hP⟩
    · intro w10 hP hE10
      ((first | refine o_nt rfl rfl ?_ | refine o_nf rfl rfl ?_ | refine o_nn rfl rfl ?_) <;> (first | refine owp_nilT ?_ | refine owp_nilB ?_ | refine owp_nilBB ?_ | refine owp_nil ?_))
      repeat (first | refine ewp_seq ?_ | refine ewp_block ?_ | refine ewp_region ?_ | refine ewp_skip ?_ | refine ewp_exit ?_ | refine ewp_ret ?_ | refine ewp_true rfl ?_ | refine ewp_false rfl ?_)
      ((repeat (first | refine ewp_seq ?_ | refine ewp_block ?_ | refine ewp_region ?_ | refine ewp_skip ?_ | refine ewp_exit ?_ | refine ewp_ret ?_ | refine ewp_true rfl ?_ | refine ewp_false rfl ?_)) <;> (refine o_mi rfl rfl ?_ <;> refine o_as rfl rfl ?_ <;> (first | refine owp_nilT ?_ | refine owp_nilB ?_ | refine owp_nilBB ?_ | refine owp_nil ?_)) <;> (repeat (first | refine ewp_seq ?_ | refine ewp_block ?_ | refine ewp_region ?_ | refine ewp_skip ?_ | refine ewp_exit ?_ | refine ewp_ret ?_ | refine ewp_true rfl ?_ | refine ewp_false rfl ?_)))
      refine ret1 rfl rfl ⟨?_, hE9.trans' hE10⟩
      rw [c3, bof_f (fun h => hP (h k o ho))]; rfl
  rintro _ w8 ⟨hE8, hnames⟩
  repeat (first | refine ewp_seq ?_ | refine ewp_block ?_ | refine ewp_region ?_ | refine ewp_skip ?_ | refine ewp_exit ?_ | refine ewp_ret ?_ | refine ewp_true rfl ?_ | refine ewp_false rfl ?_)
  ((repeat (first | refine ewp_seq ?_ | refine ewp_block ?_ | refine ewp_region ?_ | refine ewp_skip ?_ | refine ewp_exit ?_ | refine ewp_ret ?_ | refine ewp_true rfl ?_ | refine ewp_false rfl ?_)) <;> (refine o_as rfl rfl ?_ <;> (first | refine owp_nilT ?_ | refine owp_nilB ?_ | refine owp_nilBB ?_ | refine owp_nil ?_)) <;> (repeat (first | refine ewp_seq ?_ | refine ewp_block ?_ | refine ewp_region ?_ | refine ewp_skip ?_ | refine ewp_exit ?_ | refine ewp_ret ?_ | refine ewp_true rfl ?_ | refine ewp_false rfl ?_)))
  refine ret1 rfl rfl ⟨?_, hE8⟩
  rw [c3, bof_t (show NamesOk t from fun i o ho => hnames i (lt_of_some ho) o ho)]; rfl
end Go.Proofs.Ytdhaelekmjgbmaa

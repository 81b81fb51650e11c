/- Own text: plans: task.Solves and stratagembase.Cost. Plain, no program in sight. -/
import Derived.Test.YtdhaelekmjgbmaaSym5
import Derived.Test.YtdhaelekmjgbmaaBaseQ
namespace Go.Proofs.Ytdhaelekmjgbmaa
open Go Go.RowKit
/-- A plan leads from a state to another at a cost. -/
inductive PlanR (t : Tsk) : List Int → List Int → List Int → Int → Prop
  | nil {s : List Int} : PlanR t s [] s 0
  | cons {s rest s' : List Int} {k : Nat} {o : Opr} {C : Int} : t.ops[k]? = some o → holdsB o.pre s = true → PlanR t (succ o s) rest s' C → PlanR t s ((k : Int) :: rest) s' (o.cost + C)
theorem tholds_eq (f : List Fct) (s : List Int) : m_task_Holds f s = some (holdsB f s) := rfl
theorem tapply {t : Tsk} (h : TaskOk t) {s : List Int} (hs : StateOk t.vars s) (op : Int) : (∃ (k : Nat) (o : Opr), op = (k : Int) ∧ t.ops[k]? = some o ∧ holdsB o.pre s = true ∧ m_task_apply t s op = some (succ o s, ⟨0⟩)) ∨ ∃ n : Int, n ≠ 0 ∧ m_task_apply t s op = some ([], ⟨n⟩) := by
  unfold m_task_apply
  by_cases h1 : op < 0
  · exact .inr ⟨1, by decide, by rw [if_pos h1, bnd_some, if_t]⟩
  by_cases h2 : (t.ops.length : Int) ≤ op
  · exact .inr ⟨1, by decide, by rw [if_neg h1, if_pos h2, bnd_some, if_t]⟩
  obtain ⟨k, rfl⟩ := Int.eq_ofNat_of_zero_le (by omega : 0 ≤ op)
  obtain ⟨o, ho⟩ := some_of_lt (l := t.ops) (k := k) (by omega)
  rw [if_neg h1, if_neg h2, bnd_some, if_f]
  unfold m_task_Proper
  rw [bnd_some, bof_t hs, if_t, atI_eq, ho, bnd_some, tholds_eq, bnd_some]
  by_cases hp : holdsB o.pre s = true
  · refine .inl ⟨k, o, rfl, ho, hp, ?_⟩
    have hc : m_slices_Clone_Lint_int s = some s := if_pos ⟨by have := hs.1; have := h.1; omega, by have := hs.1; have := h.1; omega⟩
    rw [if_pos hp, hc, bnd_some, bnd_some, effs_run (h.effs hs k o ho) m_task_Holds tholds_eq s rfl, bnd_some, fin_d]
    rfl
  · exact .inr ⟨12, by decide, by rw [if_neg hp]⟩
theorem run_loop {t : Tsk} (h : TaskOk t) : ∀ (plan : List Int) (j : Nat) (s : List Int) (c : Int), StateOk t.vars s → 0 ≤ c → c + plan.length * 1048576 ≤ 1000000000000000 →
    (∃ s' C, rng (ρ := (List Int) × Int × Err) (fun (_ : Nat) (a63 : Int) (s60 : (List Int) × Int) => bnd (m_task_apply t s60.1 a63) fun q87 => if q87.2.n ≠ 0 then (some (.ret (([] : List Int), 0, (⟨q87.2.n⟩ : Err)))) else (bnd (atI t.ops a63) fun a102 => bnd (chkI (s60.2 + a102.cost)) fun n123 => some (.next (q87.1, n123)))) plan j (s, c) = some (.done (s', c + C)) ∧ PlanR t s plan s' C) ∨
    ∃ n : Int, n ≠ 0 ∧ rng (ρ := (List Int) × Int × Err) (fun (_ : Nat) (a63 : Int) (s60 : (List Int) × Int) => bnd (m_task_apply t s60.1 a63) fun q87 => if q87.2.n ≠ 0 then (some (.ret (([] : List Int), 0, (⟨q87.2.n⟩ : Err)))) else (bnd (atI t.ops a63) fun a102 => bnd (chkI (s60.2 + a102.cost)) fun n123 => some (.next (q87.1, n123)))) plan j (s, c) = some (.ret ([], 0, ⟨n⟩))
  | [], j, s, c, _, _, _ => .inl ⟨s, 0, by simp [rng], .nil⟩
  | op :: plan, j, s, c, hs, hc, hb => by
    simp only [List.length_cons] at hb
    rcases tapply h hs op with ⟨k, o, rfl, ho, hp, e⟩ | ⟨n, hn, e⟩
    · have hoo := h.2.2.2.2.2 k o ho
      have h1 := hoo.1
      have h2 := hoo.2.1
      have e2 : (bnd (m_task_apply t s (k : Int)) fun q87 => if q87.2.n ≠ 0 then (some (.ret (([] : List Int), 0, (⟨q87.2.n⟩ : Err)))) else (bnd (atI t.ops (k : Int)) fun a102 => bnd (chkI (c + a102.cost)) fun n123 => some (.next (q87.1, n123))) : Option (Ctl (List Int × Int) (List Int × Int × Err))) = some (.next (succ o s, c + o.cost)) := by
        rw [e, bnd_some, if_neg (by simp), atI_eq, ho, bnd_some, chkI_eq (by unfold inI64; omega), bnd_some]
      rcases run_loop h plan (j + 1) (succ o s) (c + o.cost) (succ_ok h hs ho) (by omega) (by omega) with ⟨s', C, g1, g2⟩ | ⟨n, hn, g1⟩
      · refine .inl ⟨s', o.cost + C, ?_, .cons ho hp g2⟩
        simp only [rng, e2]
        rw [g1, Int.add_assoc]
      · refine .inr ⟨n, hn, ?_⟩
        simp only [rng, e2]
        rw [g1]
    · refine .inr ⟨n, hn, ?_⟩
      simp only [rng]
      rw [e, bnd_some, if_pos hn]
theorem solves_eq {t : Tsk} (h : TaskOk t) {plan : List Int} (hl : plan.length ≤ 1000) : (∃ s' C, PlanR t t.init plan s' C ∧ holdsB t.goal s' = true ∧ m_task_Solves t plan = some (C, ⟨0⟩)) ∨ ∃ (n c : Int), n ≠ 0 ∧ m_task_Solves t plan = some (c, ⟨n⟩) := by
  unfold m_task_Solves m_task_Run m_task_Check m_task_Proper
  have hs := h.2.2.2.1
  have hc : m_slices_Clone_Lint_int t.init = some t.init := if_pos ⟨by have := hs.1; have := h.1; omega, by have := hs.1; have := h.1; omega⟩
  rw [bnd_some, if_neg (by rw [check_ok.2 h]; simp), bnd_some, bof_t hs, if_t, if_neg (by omega), hc, bnd_some]
  rcases run_loop h plan 0 t.init 0 hs (by omega) (by omega) with ⟨s', C, g1, g2⟩ | ⟨n, hn, g1⟩
  · rw [g1, bnd_some, fin_d, bnd_some, if_neg (by simp), tholds_eq, bnd_some]
    by_cases hg : holdsB t.goal s' = true
    · refine .inl ⟨s', C, g2, hg, ?_⟩
      simp only
      rw [if_pos hg, Int.zero_add]
    · refine .inr ⟨13, 0, by decide, ?_⟩
      simp only
      rw [if_neg hg]
  · refine .inr ⟨n, 0, hn, ?_⟩
    rw [g1, bnd_some, fin_r, bnd_some]
    simp only
    rw [if_pos hn]
theorem cost_loop {t : Tsk} (h : TaskOk t) {s plan s' : List Int} {C : Int} (hr : PlanR t s plan s' C) : ∀ (j : Nat) (c : Int), StateOk t.vars s → 0 ≤ c → c + plan.length * 1048576 ≤ 1000000000000000 →
    rng (ρ := Int × Bool) (fun (_ : Nat) (a34 : Int) (s31 : (List Int) × Int) => bnd (m_base_Apply t s31.1 a34) fun q56 => if (!q56.2) = true then (some (.ret (0, false))) else (bnd (atI t.ops a34) fun a70 => bnd (chkI (s31.2 + a70.cost)) fun n91 => some (.next (q56.1, n91)))) plan j (s, c) = some (.done (s', c + C)) := by
  induction hr with
  | nil => intro j c _ _ _; simp [rng]
  | @cons s rest s' k o C ho hp hr ih =>
    intro j c hs hc hb
    simp only [List.length_cons] at hb
    have hoo := h.2.2.2.2.2 k o ho
    have h1 := hoo.1
    have h2 := hoo.2.1
    have e2 : (bnd (m_base_Apply t s (k : Int)) fun q56 => if (!q56.2) = true then (some (.ret (0, false))) else (bnd (atI t.ops (k : Int)) fun a70 => bnd (chkI (c + a70.cost)) fun n91 => some (.next (q56.1, n91))) : Option (Ctl (List Int × Int) (Int × Bool))) = some (.next (succ o s, c + o.cost)) := by
      rw [apply_all h hs ho, if_pos hp, bnd_some, if_neg (by simp), atI_eq, ho, bnd_some, chkI_eq (by unfold inI64; omega), bnd_some]
    simp only [rng, e2]
    rw [ih (j + 1) (c + o.cost) (succ_ok h hs ho) (by omega) (by omega), Int.add_assoc]
theorem cost_eq {t : Tsk} (h : TaskOk t) {s plan s' : List Int} {C : Int} (hs : StateOk t.vars s) (hr : PlanR t s plan s' C) (hl : plan.length ≤ 1000) : m_base_Cost t s plan = some (C, holdsB t.goal s') := by
  unfold m_base_Cost
  rw [cost_loop h hr 0 0 hs (by omega) (by omega), bnd_some, fin_d, holds_eq, bnd_some, Int.zero_add]
  cases holdsB t.goal s' <;> rfl
end Go.Proofs.Ytdhaelekmjgbmaa

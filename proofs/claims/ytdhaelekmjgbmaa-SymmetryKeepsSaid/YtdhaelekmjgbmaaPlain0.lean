/- Own text: plain laws about tasks: a task's first error is none exactly if it is right. -/
import Derived.Test.YtdhaelekmjgbmaaCheck2
namespace Go.Proofs.Ytdhaelekmjgbmaa
theorem bof_iff {p : Prop} : bof p = true ↔ p := ⟨fun h => Classical.byContradiction fun hn => (by rw [bof_f hn] at h; exact Bool.noConfusion h), bof_t⟩
theorem bof_false {p : Prop} : bof p = false ↔ ¬ p := by
  rw [← Bool.not_eq_true, bof_iff]
theorem factsOk_lt {vars : List Int} {f : List Fct} (h : FactsOk vars f) : ∀ (j i : Nat) (x y : Fct), i < j → f[i]? = some x → f[j]? = some y → x.var < y.var
  | 0, i, _, _, hij, _, _ => by omega
  | j + 1, i, x, y, hij, hx, hy => by
    by_cases he : i = j
    · subst he; exact h.2 i x y hx hy
    · obtain ⟨z, hz⟩ := some_of_lt (l := f) (k := j) (by have := lt_of_some hy; omega)
      have h1 := factsOk_lt h j i x z (by omega) hx hz
      have h2 := h.2 j z y hz hy
      omega
theorem factsOk_ge {vars : List Int} {f : List Fct} (h : FactsOk vars f) : ∀ (i : Nat) (x : Fct), f[i]? = some x → (i : Int) ≤ x.var
  | 0, x, hx => (h.1 0 x hx).1
  | i + 1, x, hx => by
    obtain ⟨z, hz⟩ := some_of_lt (l := f) (k := i) (by have := lt_of_some hx; omega)
    have h1 := factsOk_ge h i z hz
    have h2 := h.2 i z x hz hx
    omega
theorem factsOk_len {vars : List Int} {f : List Fct} (h : FactsOk vars f) : f.length ≤ vars.length := by
  rcases Nat.eq_zero_or_pos f.length with h0 | h0
  · omega
  · obtain ⟨x, hx⟩ := some_of_lt (l := f) (k := f.length - 1) (by omega)
    have h1 := factsOk_ge h _ x hx
    obtain ⟨h2, h3, y, hy, _⟩ := h.1 _ x hx
    have := lt_of_some hy
    omega
theorem conds_mem {t : Tsk} {f : List Fct} : f ∈ conds t ↔ f = t.goal ∨ ∃ (i : Nat) (o : Opr), t.ops[i]? = some o ∧ (f = o.pre ∨ ∃ (j : Nat) (e : Eff), o.effs[j]? = some e ∧ f = e.cond) := by
  unfold conds opConds
  rw [List.mem_cons, List.mem_flatMap]
  constructor
  · rintro (h | ⟨o, ho, hf⟩)
    · exact .inl h
    · obtain ⟨i, hi⟩ := List.getElem?_of_mem ho
      refine .inr ⟨i, o, hi, ?_⟩
      rcases List.mem_cons.1 hf with h | h
      · exact .inl h
      · obtain ⟨e, he, rfl⟩ := List.mem_map.1 h
        obtain ⟨j, hj⟩ := List.getElem?_of_mem he
        exact .inr ⟨j, e, hj, rfl⟩
  · rintro (h | ⟨i, o, ho, h⟩)
    · exact .inl h
    · refine .inr ⟨o, List.mem_of_getElem? ho, ?_⟩
      rcases h with rfl | ⟨j, e, he, rfl⟩
      · exact List.mem_cons_self
      · exact List.mem_cons_of_mem _ (List.mem_map.2 ⟨e, List.mem_of_getElem? he, rfl⟩)
theorem check_ok {t : Tsk} : checkN t = 0 ↔ TaskOk t := by
  unfold checkN
  constructor
  · intro h
    by_cases h1 : Large t
    · rw [if_pos (bof_iff.2 h1)] at h; cases h
    rw [if_neg (fun hh => h1 (bof_iff.1 hh))] at h
    by_cases h2 : VarsOk t ∧ CostsOk t
    case neg => rw [if_pos (bof_false.2 h2)] at h; cases h
    rw [if_neg (fun hh => bof_false.1 hh h2)] at h
    by_cases h3 : StateOk t.vars t.init ∧ CondsOk t ∧ EffsOk t
    case neg => rw [if_pos (bof_false.2 h3)] at h; cases h
    rw [if_neg (fun hh => bof_false.1 hh h3)] at h
    by_cases h4 : NamesOk t
    case neg => rw [if_pos (bof_false.2 h4)] at h; cases h
    have hc : ∀ f ∈ conds t, FactsOk t.vars f := fun f hf => by
      obtain ⟨i, hi⟩ := List.getElem?_of_mem hf
      exact h3.2.1 i f hi
    have hl : t.vars.length ≤ 64 ∧ t.ops.length ≤ 4096 ∧ (∀ (i : Nat) (o : Opr), t.ops[i]? = some o → o.effs.length ≤ 64) := by
      unfold Large at h1
      refine ⟨Nat.le_of_not_lt fun h => h1 (.inl h), Nat.le_of_not_lt fun h => h1 (.inr (.inl h)), fun i o ho => Nat.le_of_not_lt fun h => h1 (.inr (.inr (.inl ⟨i, o, ho, h⟩)))⟩
    exact ⟨hl.1, hl.2.1, h2.1, h3.1, hc _ (conds_mem.2 (.inl rfl)), fun i o ho => ⟨(h2.2 i o ho).1, (h2.2 i o ho).2, hl.2.2 i o ho, h4 i o ho, hc _ (conds_mem.2 (.inr ⟨i, o, ho, .inl rfl⟩)), fun j e he => ⟨hc _ (conds_mem.2 (.inr ⟨i, o, ho, .inr ⟨j, e, he, rfl⟩⟩)), h3.2.2 i o ho j e he⟩⟩⟩
  · rintro ⟨h1, h2, h3, h4, h5, h6⟩
    have hc : ∀ f ∈ conds t, FactsOk t.vars f := fun f hf => by
      rcases conds_mem.1 hf with rfl | ⟨i, o, ho, rfl | ⟨j, e, he, rfl⟩⟩
      · exact h5
      · exact (h6 i o ho).2.2.2.2.1
      · exact ((h6 i o ho).2.2.2.2.2 j e he).1
    have hL : ¬ Large t := by
      rintro (h | h | ⟨i, o, ho, h⟩ | ⟨f, hf, h⟩)
      · omega
      · omega
      · have := (h6 i o ho).2.2.1; omega
      · have := factsOk_len (hc f hf); omega
    have hV : VarsOk t ∧ CostsOk t := ⟨h3, fun i o ho => ⟨(h6 i o ho).1, (h6 i o ho).2.1⟩⟩
    have hS : StateOk t.vars t.init ∧ CondsOk t ∧ EffsOk t := ⟨h4, fun i f hf => hc f (List.mem_of_getElem? hf), fun i o ho j e he => ((h6 i o ho).2.2.2.2.2 j e he).2⟩
    have hN : NamesOk t := fun i o ho => (h6 i o ho).2.2.2.1
    rw [if_neg (fun hh => hL (bof_iff.1 hh)), if_neg (fun hh => bof_false.1 hh hV), if_neg (fun hh => bof_false.1 hh hS), if_neg (fun hh => bof_false.1 hh hN)]
theorem TaskOk.vars {t : Tsk} (h : TaskOk t) : VarsOk t := h.2.2.1
end Go.Proofs.Ytdhaelekmjgbmaa

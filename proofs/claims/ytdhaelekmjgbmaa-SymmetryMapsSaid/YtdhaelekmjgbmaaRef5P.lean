/- Own text: ref05.Check is the number of the task's first error. Plain, no program in sight. -/
import Derived.Test.YtdhaelekmjgbmaaRef5
import Derived.Test.YtdhaelekmjgbmaaLoops
namespace Go.Proofs.Ytdhaelekmjgbmaa
open Go Go.RowKit
theorem bof_or {p q : Prop} : (bof p || bof q) = bof (p ∨ q) := by
  by_cases h : p
  · rw [bof_t h, bof_t (p := p ∨ q) (.inl h)]; rfl
  · by_cases h2 : q
    · rw [bof_f h, bof_t h2, bof_t (p := p ∨ q) (.inr h2)]; rfl
    · rw [bof_f h, bof_f h2, bof_f (p := p ∨ q) (fun hh => hh.elim h h2)]; rfl
theorem bof_F : bof False = false := bof_f id
theorem if_bof {α : Type} {p : Prop} [Decidable p] {x y : α} : (if p then x else y) = if bof p = true then x else y := by
  by_cases h : p
  · rw [if_pos h, bof_t h, if_pos rfl]
  · rw [if_neg h, bof_f h, if_neg (by simp)]
theorem rng_or {α ρ : Type} {f : Nat → α → Bool → Option (Ctl Bool ρ)} {xs : List α} {b : Bool} (P : α → Prop) (h : ∀ k x s, xs[k]? = some x → f k x s = some (.next (s || bof (P x)))) : rng f xs 0 b = some (.done (b || bof (∃ x ∈ xs, P x))) := by
  rw [rng_from (fun k => b || bof (∃ x ∈ xs.take k, P x)) ?a ?b, List.take_length]
  case a => simp [bof_F]
  case b =>
    intro k x hk
    rw [h k x _ hk, Bool.or_assoc, bof_or]
    congr 3
    rw [bof_eq]
    rw [List.take_add_one, hk]
    constructor
    · rintro (⟨y, hy, hp⟩ | hp)
      · exact ⟨y, List.mem_append.2 (.inl hy), hp⟩
      · exact ⟨x, List.mem_append.2 (.inr (by simp)), hp⟩
    · rintro ⟨y, hy, hp⟩
      rcases List.mem_append.1 hy with hy | hy
      · exact .inl ⟨y, hy, hp⟩
      · obtain rfl : y = x := by simpa using hy
        exact .inr hp
theorem rngN_or {ρ : Type} {f : Nat → Bool → Option (Ctl Bool ρ)} {n : Nat} {b : Bool} (P : Nat → Prop) (h : ∀ k s, k < n → f k s = some (.next (s || bof (P k)))) : rngN f n b = some (.done (b || bof (∃ k, k < n ∧ P k))) := by
  unfold rngN
  rw [rng_or P (fun k x s hk => h x s (List.mem_range.1 (List.mem_of_getElem? hk)))]
  congr 3
  rw [bof_eq]
  exact ⟨fun ⟨x, hx, hp⟩ => ⟨x, List.mem_range.1 hx, hp⟩, fun ⟨x, hx, hp⟩ => ⟨x, List.mem_range.2 hx, hp⟩⟩
theorem or_cond {p : Prop} {s : Bool} : (if s = true then some true else some (bof p)) = some (s || bof p) := by cases s <;> rfl
theorem large5 (t : Tsk) : m_ref05_large t = some (bof (Large t)) := by
  unfold m_ref05_large
  have e1 : (if 64 < (t.vars.length : Int) then (some true) else (if 4096 < (t.ops.length : Int) then (some true) else (if 64 < (t.goal.length : Int) then (some true) else (some false))) : Option Bool) = some (bof (64 < t.vars.length ∨ 4096 < t.ops.length ∨ 64 < t.goal.length)) := by
    by_cases h1 : 64 < t.vars.length
    · rw [if_pos (by omega), bof_t (.inl h1)]
    · by_cases h2 : 4096 < t.ops.length
      · rw [if_neg (by omega), if_pos (by omega), bof_t (.inr (.inl h2))]
      · by_cases h3 : 64 < t.goal.length
        · rw [if_neg (by omega), if_neg (by omega), if_pos (by omega), bof_t (.inr (.inr h3))]
        · rw [if_neg (by omega), if_neg (by omega), if_neg (by omega), bof_f (by omega)]
  rw [e1, bnd_some, rng_or (fun o : Opr => 64 < o.pre.length ∨ 64 < o.effs.length ∨ ∃ e ∈ o.effs, 64 < e.cond.length) (fun k o s hk => by
    have e2 : (if s = true then (some true) else (if 64 < (o.pre.length : Int) then (some true) else (if 64 < (o.effs.length : Int) then (some true) else (some false))) : Option Bool) = some (s || bof (64 < o.pre.length ∨ 64 < o.effs.length)) := by
      cases s with
      | true => rfl
      | false =>
        rw [if_f, Bool.false_or]
        by_cases h1 : 64 < o.pre.length
        · rw [if_pos (by omega), bof_t (.inl h1)]
        · by_cases h2 : 64 < o.effs.length
          · rw [if_neg (by omega), if_pos (by omega), bof_t (.inr h2)]
          · rw [if_neg (by omega), if_neg (by omega), bof_f (by omega)]
    rw [e2, bnd_some, rng_or (fun e : Eff => 64 < e.cond.length) (fun k e s hk => by
      cases s with
      | true => rfl
      | false =>
        rw [if_f, Bool.false_or]
        by_cases h : 64 < e.cond.length
        · rw [if_pos (by omega), bof_t h]
        · rw [if_neg (by omega), bof_f h]), bnd_some, fin_d, Bool.or_assoc, bof_or, bof_eq or_assoc]), bnd_some, fin_d, bof_or]
  refine congrArg some (bof_eq ?_)
  unfold Large
  constructor
  · rintro ((h | h | h) | ⟨o, ho, h⟩)
    · exact .inl h
    · exact .inr (.inl h)
    · exact .inr (.inr (.inr ⟨_, conds_mem.2 (.inl rfl), h⟩))
    · obtain ⟨i, hi⟩ := List.getElem?_of_mem ho
      rcases h with h | h | ⟨e, he, h⟩
      · exact .inr (.inr (.inr ⟨_, conds_mem.2 (.inr ⟨i, o, hi, .inl rfl⟩), h⟩))
      · exact .inr (.inr (.inl ⟨i, o, hi, h⟩))
      · obtain ⟨j, hj⟩ := List.getElem?_of_mem he
        exact .inr (.inr (.inr ⟨_, conds_mem.2 (.inr ⟨i, o, hi, .inr ⟨j, e, hj, rfl⟩⟩), h⟩))
  · rintro (h | h | ⟨i, o, ho, h⟩ | ⟨f, hf, h⟩)
    · exact .inl (.inl h)
    · exact .inl (.inr (.inl h))
    · exact .inr ⟨o, List.mem_of_getElem? ho, .inr (.inl h)⟩
    · rcases conds_mem.1 hf with rfl | ⟨i, o, ho, rfl | ⟨j, e, he, rfl⟩⟩
      · exact .inl (.inr (.inr h))
      · exact .inr ⟨o, List.mem_of_getElem? ho, .inl h⟩
      · exact .inr ⟨o, List.mem_of_getElem? ho, .inr (.inr ⟨e, List.mem_of_getElem? he, h⟩)⟩
theorem outside5 (t : Tsk) : m_ref05_outside t = some (bof (¬ (VarsOk t ∧ CostsOk t))) := by
  unfold m_ref05_outside
  rw [rng_or (fun n : Int => n < 1 ∨ 64 < n) (fun k n s hk => by
    cases s with
    | true => rfl
    | false =>
      rw [if_f, Bool.false_or]
      by_cases h1 : n < 1
      · rw [if_pos h1, bof_t (.inl h1)]
      · by_cases h2 : 64 < n
        · rw [if_neg h1, if_pos h2, bof_t (.inr h2)]
        · rw [if_neg h1, if_neg h2, bof_f (by omega)]), bnd_some, fin_d, rng_or (fun o : Opr => o.cost < 0 ∨ 1048576 < o.cost) (fun k o s hk => by
    cases s with
    | true => rfl
    | false =>
      rw [if_f, Bool.false_or]
      by_cases h1 : o.cost < 0
      · rw [if_pos h1, bof_t (.inl h1)]
      · by_cases h2 : 1048576 < o.cost
        · rw [if_neg h1, if_pos h2, bof_t (.inr h2)]
        · rw [if_neg h1, if_neg h2, bof_f (by omega)]), bnd_some, fin_d, Bool.false_or, bof_or]
  refine congrArg some (bof_eq ?_)
  constructor
  · rintro (⟨n, hn, h⟩ | ⟨o, ho, h⟩) ⟨h1, h2⟩
    · obtain ⟨i, hi⟩ := List.getElem?_of_mem hn
      have := h1 i n hi; omega
    · obtain ⟨i, hi⟩ := List.getElem?_of_mem ho
      have := h2 i o hi; omega
  · intro h
    refine Classical.byContradiction fun hn => h ⟨fun i n hi => ?_, fun i o hi => ?_⟩
    · refine Classical.byContradiction fun hh => hn (.inl ⟨n, List.mem_of_getElem? hi, by omega⟩)
    · refine Classical.byContradiction fun hh => hn (.inr ⟨o, List.mem_of_getElem? hi, by omega⟩)
theorem bof_not {p : Prop} : (if bof p = true then some false else some true) = some (bof (¬ p)) := by
  by_cases h : p
  · rw [bof_t h, bof_f (fun hh => hh h)]; rfl
  · rw [bof_f h, bof_t h]; rfl
theorem malformed5 (t : Tsk) : m_ref05_malformed t = some (bof (¬ (StateOk t.vars t.init ∧ CondsOk t ∧ EffsOk t))) := by
  unfold m_ref05_malformed m_base_State m_base_Proper
  have e1 : (bnd (some (bof (StateOk t.vars t.init))) fun q27 => if q27 = true then bnd (some (bof (FactsOk t.vars t.goal))) fun q34 => if q34 = true then some false else some true else some true : Option Bool) = some (bof (¬ StateOk t.vars t.init ∨ ¬ FactsOk t.vars t.goal)) := by
    rw [bnd_some, bnd_some, bof_not]
    by_cases h : StateOk t.vars t.init
    · rw [bof_t h, if_t]
      exact congrArg some (bof_eq ⟨fun h => .inr h, fun hh => hh.resolve_left (fun hn => hn h)⟩)
    · rw [bof_f h, if_f, bof_t (.inl h)]
  rw [e1, bnd_some, rng_or (fun o : Opr => ¬ FactsOk t.vars o.pre ∨ ∃ e ∈ o.effs, ¬ EffOk t.vars e) (fun k o s hk => by
    rw [bnd_some, bof_not, or_cond, bnd_some, rng_or (fun e : Eff => ¬ EffOk t.vars e) (fun k e s hk => by
      cases s with
      | true => rfl
      | false =>
        rw [if_f, Bool.false_or, bnd_some]
        by_cases h1 : FactsOk t.vars e.cond
        · rw [bof_t h1, if_t, bnd_some]
          by_cases h2 : FactsOk t.vars [⟨e.var, e.val⟩]
          · rw [bof_t h2, if_t, bof_f (fun h => h ⟨h1, factsOk_one.1 h2⟩)]
          · rw [bof_f h2, if_f, bof_t (fun h => h2 (factsOk_one.2 h.2))]
        · rw [bof_f h1, if_f, bof_t (fun h => h1 h.1)]), bnd_some, fin_d, Bool.or_assoc, bof_or]), bnd_some, fin_d, bof_or]
  refine congrArg some (bof_eq ?_)
  constructor
  · rintro ((h | h) | ⟨o, ho, h⟩) ⟨h1, h2, h3⟩
    · exact h h1
    · exact h (h2 0 _ rfl)
    · obtain ⟨i, hi⟩ := List.getElem?_of_mem ho
      have hc : ∀ f ∈ conds t, FactsOk t.vars f := fun f hf => by
        obtain ⟨i, hi⟩ := List.getElem?_of_mem hf
        exact h2 i f hi
      rcases h with h | ⟨e, he, h⟩
      · exact h (hc _ (conds_mem.2 (.inr ⟨i, o, hi, .inl rfl⟩)))
      · obtain ⟨j, hj⟩ := List.getElem?_of_mem he
        exact h ⟨hc _ (conds_mem.2 (.inr ⟨i, o, hi, .inr ⟨j, e, hj, rfl⟩⟩)), h3 i o hi j e hj⟩
  · intro h
    refine Classical.byContradiction fun hn => h ?_
    have g1 : StateOk t.vars t.init := Classical.byContradiction fun hh => hn (.inl (.inl hh))
    have g2 : FactsOk t.vars t.goal := Classical.byContradiction fun hh => hn (.inl (.inr hh))
    have g3 : ∀ o ∈ t.ops, FactsOk t.vars o.pre := fun o ho => Classical.byContradiction fun hh => hn (.inr ⟨o, ho, .inl hh⟩)
    have g4 : ∀ o ∈ t.ops, ∀ e ∈ o.effs, EffOk t.vars e := fun o ho e he => Classical.byContradiction fun hh => hn (.inr ⟨o, ho, .inr ⟨e, he, hh⟩⟩)
    refine ⟨g1, fun i f hf => ?_, fun i o ho j e he => (g4 o (List.mem_of_getElem? ho) e (List.mem_of_getElem? he)).2⟩
    rcases conds_mem.1 (List.mem_of_getElem? hf) with rfl | ⟨i, o, ho, rfl | ⟨j, e, he, rfl⟩⟩
    · exact g2
    · exact g3 o (List.mem_of_getElem? ho)
    · exact (g4 o (List.mem_of_getElem? ho) e (List.mem_of_getElem? he)).1
theorem misnamed5 (t : Tsk) : m_ref05_misnamed t = some (bof (¬ NamesOk t)) := by
  unfold m_ref05_misnamed
  rw [rng_or (fun o : Opr => 256 < o.name.size ∨ ∃ k, k < o.name.size ∧ ∃ h : k < o.name.size, (o.name[k]'h).toNat < 32 ∨ 126 < (o.name[k]'h).toNat) (fun k o s hk => by
    have e2 : (if s = true then (some true) else (if 256 < (o.name.size : Int) then (some true) else (some false)) : Option Bool) = some (s || bof (256 < o.name.size)) := by
      cases s with
      | true => rfl
      | false =>
        rw [if_f, Bool.false_or]
        by_cases h : 256 < o.name.size
        · rw [if_pos (by omega), bof_t h]
        · rw [if_neg (by omega), bof_f h]
    rw [e2, bnd_some, rngN_or (fun k => ∃ h : k < o.name.size, (o.name[k]'h).toNat < 32 ∨ 126 < (o.name[k]'h).toNat) (fun k s hk => by
      cases s with
      | true => rfl
      | false =>
        rw [if_f, Bool.false_or, bytI_eq hk, bnd_some, bnd_some]
        by_cases h1 : (o.name[k]'hk).toNat < 32
        · rw [if_pos (by omega), bof_t ⟨hk, .inl h1⟩]
        · by_cases h2 : 126 < (o.name[k]'hk).toNat
          · rw [if_neg (by omega), if_pos (by omega), bof_t ⟨hk, .inr h2⟩]
          · rw [if_neg (by omega), if_neg (by omega), bof_f (fun ⟨_, h⟩ => by omega)]), bnd_some, fin_d, Bool.or_assoc, bof_or]), bnd_some, fin_d, Bool.false_or]
  refine congrArg some (bof_eq ?_)
  constructor
  · rintro ⟨o, ho, h⟩ hn
    obtain ⟨i, hi⟩ := List.getElem?_of_mem ho
    obtain ⟨h1, h2⟩ := hn i o hi
    rcases h with h | ⟨k, hk, _, h⟩
    · omega
    · have := h2 k hk; omega
  · intro h
    refine Classical.byContradiction fun hn => h fun i o ho => ?_
    have hm := List.mem_of_getElem? ho
    refine ⟨Nat.le_of_not_lt fun hh => hn ⟨o, hm, .inl hh⟩, fun k hk => ?_⟩
    refine Classical.byContradiction fun hh => hn ⟨o, hm, .inr ⟨k, hk, hk, by omega⟩⟩
theorem bof_neg {p : Prop} : bof (¬ p) = !bof p := by
  by_cases h : p
  · rw [bof_t h, bof_f (fun hh => hh h)]; rfl
  · rw [bof_f h, bof_t h]; rfl
theorem check5 (t : Tsk) : m_ref05_Check t = some (checkN t) := by
  unfold m_ref05_Check checkN
  rw [large5, outside5, malformed5, misnamed5, bof_neg, bof_neg, bof_neg]
  cases bof (Large t) <;> cases bof (VarsOk t ∧ CostsOk t) <;> cases bof (StateOk t.vars t.init ∧ CondsOk t ∧ EffsOk t) <;> cases bof (NamesOk t) <;> rfl
end Go.Proofs.Ytdhaelekmjgbmaa

/- SymmetryOrbits returns true for every question, and all read behind the call as before. No conditions. -/
import Derived.Test.YtdhaelekmjgbmaaPOrbC
import Derived.Test.YtdhaelekmjgbmaaRows
namespace Go.Proofs.Ytdhaelekmjgbmaa
open Go Go.RowKit
section
open Go Go.RowKit
def rangeI (n : Nat) : List Int := (List.range n).map fun i : Nat => (i : Int)
theorem mem_rangeI {n : Nat} {x : Int} : x ∈ rangeI n ↔ 0 ≤ x ∧ x < n := by
  unfold rangeI
  rw [List.mem_map]
  constructor
  · rintro ⟨i, hi, rfl⟩; have := List.mem_range.1 hi; omega
  · rintro ⟨h1, h2⟩; exact ⟨x.toNat, List.mem_range.2 (by omega), by omega⟩
theorem rangeI_len (n : Nat) : (rangeI n).length = n := by simp [rangeI]
theorem rangeI_nodup (n : Nat) : (rangeI n).Nodup := by
  unfold rangeI
  rw [List.nodup_iff_pairwise_ne, List.pairwise_map]
  exact (List.nodup_iff_pairwise_ne.1 List.nodup_range).imp fun h => by omega
/-- A list is a permutation of 0 .. n - 1. -/
def PermR (l : List Int) (n : Nat) : Prop := l.Perm (rangeI n)
theorem perm_of_subset : ∀ {l₁ l₂ : List Int}, l₁.Nodup → (∀ x ∈ l₁, x ∈ l₂) → l₂.length ≤ l₁.length → l₁.Perm l₂
  | [], l₂, _, _, hl => by
    have : l₂ = [] := List.eq_nil_of_length_eq_zero (by simpa using hl)
    rw [this]
  | x :: l₁, l₂, hn, hs, hl => by
    have hx := hs x List.mem_cons_self
    have hp := List.perm_cons_erase hx
    obtain ⟨h1, h2⟩ := List.nodup_cons.1 hn
    refine (List.Perm.cons x (perm_of_subset h2 (fun y hy => ?_) ?_)).trans hp.symm
    · have : y ≠ x := fun e => h1 (e ▸ hy)
      exact (List.mem_erase_of_ne this).2 (hs y (List.mem_cons_of_mem _ hy))
    · rw [List.length_erase_of_mem hx]
      simp at hl; omega
theorem PermR.len {l : List Int} {n : Nat} (h : PermR l n) : l.length = n := by rw [h.length_eq, rangeI_len]
theorem PermR.mem {l : List Int} {n : Nat} (h : PermR l n) {x : Int} (hx : x ∈ l) : 0 ≤ x ∧ x < n := mem_rangeI.1 (h.mem_iff.1 hx)
theorem PermR.nodup {l : List Int} {n : Nat} (h : PermR l n) : l.Nodup := h.symm.nodup (rangeI_nodup n)
theorem permR_of {l : List Int} {n : Nat} (h1 : l.Nodup) (h2 : ∀ x ∈ l, 0 ≤ x ∧ x < n) (h3 : l.length = n) : PermR l n := perm_of_subset h1 (fun x hx => mem_rangeI.2 (h2 x hx)) (by rw [rangeI_len]; omega)
theorem bof_if {p q : Prop} (h : p ↔ q) : some (bof p) = some (bof q) := by rw [bof_eq h]
theorem take_succ_mem {α : Type} {l : List α} {k : Nat} {x y : α} (h : l[k]? = some x) : y ∈ l.take (k + 1) ↔ y ∈ l.take k ∨ y = x := by
  rw [List.take_add_one, h, List.mem_append]; simp
theorem perm_eq {l : List Int} {n : Int} (hl : l.length ≤ 1000000 ∨ (l.length : Int) ≠ n) : m_symmetry_permutation l n = some (bof ((l.length : Int) = n ∧ PermR l l.length)) := by
  unfold m_symmetry_permutation
  by_cases hn : (l.length : Int) = n
  case neg => rw [if_pos hn, bof_f (fun h => hn h.1)]
  have hl' : l.length ≤ 1000000 := hl.resolve_right fun h => h hn
  subst hn
  rw [if_neg (by simp), mkI_eq (by omega) (by omega), bnd_some]
  rcases rng_inv (ρ := Bool) (f := fun (_ : Nat) (a26 : Int) (s23 : (List Bool)) => bnd (if a26 < 0 then (some true) else (if (l.length : Int) ≤ a26 then (some true) else (bnd (atI s23 a26) fun a54 => some a54)) : Option Bool) fun y48 => if y48 = true then (some (.ret false)) else (bnd (atI s23 a26) fun _ => some (.next (s23.set (a26).toNat true)))) (xs := l) (s₀ := List.replicate l.length false)
    (fun k s => s.length = l.length ∧ (∀ j : Nat, j < l.length → s[j]? = some (bof ((j : Int) ∈ l.take k))) ∧ (l.take k).Nodup ∧ ∀ x ∈ l.take k, 0 ≤ x ∧ x < l.length) (fun r => r = false ∧ ¬ PermR l l.length)
    ⟨by simp, fun j hj => by rw [List.getElem?_replicate, if_pos hj, List.take_zero, bof_f (List.not_mem_nil)], by simp, by simp⟩ (fun k x s hx hI => by
      obtain ⟨i1, i2, i3, i4⟩ := hI
      by_cases h1 : x < 0
      · rw [if_pos h1, bnd_some, if_t]
        exact .inr ⟨_, rfl, rfl, fun hp => by have := hp.mem (List.mem_of_getElem? hx); omega⟩
      · rw [if_neg h1]
        by_cases h2 : (l.length : Int) ≤ x
        · rw [if_pos h2, bnd_some, if_t]
          exact .inr ⟨_, rfl, rfl, fun hp => by have := hp.mem (List.mem_of_getElem? hx); omega⟩
        · rw [if_neg h2]
          obtain ⟨j, rfl⟩ := Int.eq_ofNat_of_zero_le (by omega : 0 ≤ x)
          rw [atI_eq, i2 j (by omega), bnd_some, bnd_some]
          by_cases hm : (j : Int) ∈ l.take k
          · rw [bof_t hm, if_t]
            refine .inr ⟨_, rfl, rfl, fun hp => ?_⟩
            have hnd := hp.nodup
            rw [← List.take_append_drop k l, List.nodup_append] at hnd
            have hd : (j : Int) ∈ l.drop k := List.mem_of_getElem? (i := 0) (by rw [List.getElem?_drop, Nat.add_zero]; exact hx)
            exact hnd.2.2 _ hm _ hd rfl
          · rw [bof_f hm, if_f, bnd_some]
            refine .inl ⟨_, rfl, by simpa using i1, fun q hq => ?_, ?_, fun y hy => ?_⟩
            · rw [show ((j : Int)).toNat = j from by omega, List.getElem?_set]
              by_cases hjq : j = q
              · subst hjq
                rw [if_pos rfl, if_pos (by omega), bof_t ((take_succ_mem hx).2 (.inr rfl))]
              · rw [if_neg hjq, i2 q hq]
                refine bof_if ⟨fun h => (take_succ_mem hx).2 (.inl h), fun h => ((take_succ_mem hx).1 h).resolve_right (by omega)⟩
            · rw [List.take_add_one, hx]
              refine List.nodup_append.2 ⟨i3, by simp, fun a ha b hb => ?_⟩
              have : b = (j : Int) := by simpa using hb
              rw [this]; exact fun e => hm (e ▸ ha)
            · rcases (take_succ_mem hx).1 hy with hy | rfl
              · exact i4 y hy
              · omega) with ⟨s, hr, _, _, hnd, hrg⟩ | ⟨r, hr, rfl, hno⟩
  · rw [hr, bnd_some, fin_d]
    rw [List.take_length] at hnd hrg
    rw [bof_t ⟨rfl, permR_of hnd hrg rfl⟩]
  · rw [hr, bnd_some, fin_r, bof_f (fun h => hno h.2)]
end
section
open Go Go.RowKit
theorem rng_dec {α : Type} {f : Nat → α → Unit → Option (Ctl Unit Bool)} {xs : List α} (P : Nat → Prop) (h : ∀ k x, xs[k]? = some x → f k x () = if bof (P k) = true then some (.next ()) else some (.ret false)) :
    (bnd (rng (ρ := Bool) f xs 0 ()) fun r => fin r fun _ => some true) = some (bof (∀ k, k < xs.length → P k)) := by
  rcases rng_inv (f := f) (xs := xs) (s₀ := ()) (fun k _ => ∀ j, j < k → P j) (fun r => r = false ∧ ¬ ∀ k, k < xs.length → P k) (fun j hj => by omega) (fun k x _ hx hI => by
    rw [h k x hx]
    by_cases hp : P k
    · rw [bof_t hp, if_t]
      exact .inl ⟨_, rfl, upto_step hI hp⟩
    · rw [bof_f hp, if_f]
      exact .inr ⟨_, rfl, rfl, fun hh => hp (hh k (lt_of_get hx))⟩) with ⟨_, hr, hc⟩ | ⟨r, hr, rfl, hno⟩
  · rw [hr, bnd_some, fin_d, bof_t hc]
  · rw [hr, bnd_some, fin_r, bof_f hno]
theorem perm_n {l : List Int} {n : Nat} (hn : n ≤ 1000000) : m_symmetry_permutation l (n : Int) = some (bof (PermR l n)) := by
  rw [perm_eq (by omega)]
  exact bof_if ⟨fun h => by have : l.length = n := by omega
                            rw [← this]; exact h.2, fun h => ⟨by rw [h.len], by rw [h.len]; exact h⟩⟩
/-- Facts go to facts. -/
def FactsPerm (t : Tsk) (x : Swp) : Prop := PermR x.vars t.vars.length ∧ x.vals.length = t.vars.length ∧ ∀ (k : Nat), k < t.vars.length → ∃ (n : Nat) (a : Int) (l : List Int), t.vars[k]? = some (n : Int) ∧ x.vars[k]? = some a ∧ x.vals[k]? = some l ∧ atI t.vars a = some (n : Int) ∧ PermR l n
theorem facts_eq {t : Tsk} {x : Swp} (hok : TaskOk t) : m_symmetry_facts t x = some (bof (FactsPerm t x)) := by
  obtain ⟨hl, _, hv, _⟩ := hok
  unfold m_symmetry_facts
  rw [perm_n (by omega), bnd_some]
  by_cases h1 : PermR x.vars t.vars.length
  case neg => rw [bof_f h1, if_f, bnd_some, if_t, bof_f (fun h => h1 h.1)]
  rw [bof_t h1, if_t]
  by_cases h2 : x.vals.length = t.vars.length
  case neg => rw [if_pos (by omega), bnd_some, if_t, bof_f (fun h => h2 h.2.1)]
  rw [if_neg (by omega), bnd_some, if_f]
  rw [rng_dec (fun k => ∃ (n : Nat) (a : Int) (l : List Int), t.vars[k]? = some (n : Int) ∧ x.vars[k]? = some a ∧ x.vals[k]? = some l ∧ atI t.vars a = some (n : Int) ∧ PermR l n) (fun k y hy => by
    have hk := lt_of_get hy
    obtain ⟨a, ha⟩ := some_of_lt (l := x.vars) (k := k) (by rw [h1.len]; omega)
    obtain ⟨l, hll⟩ := some_of_lt (l := x.vals) (k := k) (by omega)
    have hy2 := hv k y hy
    obtain ⟨n, rfl⟩ := Int.eq_ofNat_of_zero_le (by omega : 0 ≤ y)
    obtain ⟨ha1, ha2⟩ := h1.mem (List.mem_of_getElem? ha)
    obtain ⟨j, rfl⟩ := Int.eq_ofNat_of_zero_le ha1
    obtain ⟨m, hm⟩ := some_of_lt (l := t.vars) (k := j) (by omega)
    rw [ha, bnd_some, atI_eq, hm, bnd_some]
    by_cases hmn : m = (n : Int)
    · rw [if_neg (by simpa using hmn), hll, bnd_some, perm_n (by omega), bnd_some]
      by_cases hp : PermR l n
      · rw [bof_t hp, if_t, bnd_some, if_f, bof_t ⟨n, _, l, hy, rfl, rfl, by rw [atI_eq, hm, hmn], hp⟩, if_t]
      · rw [bof_f hp, if_f, bnd_some, if_t, bof_f (fun ⟨n', a', l', q1, q2, q3, q4, q5⟩ => by
          have e1 : (n : Int) = n' := by rw [hy] at q1; exact Option.some.inj q1
          have e2 : l = l' := Option.some.inj q3
          have e3 : n = n' := by omega
          subst e2 e3; exact hp q5), if_f]
    · rw [if_pos hmn, bnd_some, if_t, bof_f (fun ⟨n', a', l', q1, q2, q3, q4, q5⟩ => by
        have e1 : (n : Int) = n' := by rw [hy] at q1; exact Option.some.inj q1
        have e2 : (j : Int) = a' := Option.some.inj q2
        rw [← e2, atI_eq, hm] at q4
        exact hmn (by rw [e1]; exact Option.some.inj q4)), if_f])]
  exact bof_if ⟨fun h => ⟨h1, h2, h⟩, fun h => h.2.2⟩
theorem equal_facts (a b : List Fct) : m_slices_Equal_Lapi_Fact_api_Fact a b = some (bof (a = b)) := by
  unfold m_slices_Equal_Lapi_Fact_api_Fact
  by_cases hl : a.length = b.length
  case neg => rw [if_pos (by omega), bof_f (fun h => hl (by rw [h]))]
  rw [if_neg (by omega), rng_dec (fun k => a[k]? = b[k]?) (fun k y hy => by
    obtain ⟨z, hz⟩ := some_of_lt (l := b) (k := k) (by have := lt_of_get hy; omega)
    rw [hz, bnd_some]
    by_cases h : y = z
    · rw [if_neg (by simp [h]), bof_t (by rw [hy, h]), if_t]
    · rw [if_pos (fun hh => h (by cases y; cases z; simpa using hh)), bof_f (by rw [hy]; simpa using h), if_f])]
  refine bof_if ⟨fun h => List.ext_getElem? fun k => ?_, fun h => by rw [h]; exact fun _ _ => rfl⟩
  by_cases hk : k < a.length
  · exact h k hk
  · rw [List.getElem?_eq_none (by omega), List.getElem?_eq_none (by omega)]
theorem alike1 (a b : Eff) : m_symmetry_alike_l1 a b = some (bof (a = b)) := by
  unfold m_symmetry_alike_l1
  by_cases h1 : a.var = b.var
  case neg => rw [if_neg h1, bnd_some, bof_f (fun h => h1 (by rw [h]))]
  by_cases h2 : a.val = b.val
  case neg => rw [if_pos h1, if_neg h2, bnd_some, bof_f (fun h => h2 (by rw [h]))]
  rw [if_pos h1, if_pos h2, equal_facts, bnd_some]
  by_cases h3 : a.cond = b.cond
  · rw [bof_t h3, if_t, bnd_some, bof_t (by cases a; cases b; simp_all)]
  · rw [bof_f h3, if_f, bnd_some, bof_f (fun h => h3 (by rw [h]))]
theorem equal_effs (a b : List Eff) : m_slices_EqualFunc_Lapi_Effect_Lapi_Effect_api_Effect_api_Effect__symmetry_alike_l1 a b = some (bof (a = b)) := by
  unfold m_slices_EqualFunc_Lapi_Effect_Lapi_Effect_api_Effect_api_Effect__symmetry_alike_l1
  by_cases hl : a.length = b.length
  case neg => rw [if_pos (by omega), bof_f (fun h => hl (by rw [h]))]
  rw [if_neg (by omega), rng_dec (fun k => a[k]? = b[k]?) (fun k y hy => by
    obtain ⟨z, hz⟩ := some_of_lt (l := b) (k := k) (by have := lt_of_get hy; omega)
    rw [hz, bnd_some, alike1, bnd_some]
    by_cases h : y = z
    · rw [bof_t h, if_t, bof_t (by rw [hy, h]), if_t]
    · rw [bof_f h, if_f, bof_f (by rw [hy]; simpa using h), if_f])]
  refine bof_if ⟨fun h => List.ext_getElem? fun k => ?_, fun h => by rw [h]; exact fun _ _ => rfl⟩
  by_cases hk : k < a.length
  · exact h k hk
  · rw [List.getElem?_eq_none (by omega), List.getElem?_eq_none (by omega)]
theorem alike_eq (p q : Opr) : m_symmetry_alike p q = some (bof (p.cost = q.cost ∧ p.pre = q.pre ∧ p.effs = q.effs)) := by
  unfold m_symmetry_alike
  by_cases h1 : p.cost = q.cost
  case neg => rw [if_neg h1, bnd_some, bof_f (fun h => h1 h.1)]
  rw [if_pos h1, equal_facts, bnd_some]
  by_cases h2 : p.pre = q.pre
  case neg => rw [bof_f h2, if_f, bnd_some, bof_f (fun h => h2 h.2.1)]
  rw [bof_t h2, if_t, equal_effs, bnd_some]
  by_cases h3 : p.effs = q.effs
  · rw [bof_t h3, if_t, bnd_some, bof_t ⟨h1, h2, h3⟩]
  · rw [bof_f h3, if_f, bnd_some, bof_f (fun h => h3 h.2.2)]
/-- The image of a fact. -/
def imF (x : Swp) (f : Fct) : Fct := ⟨(x.vars[f.var.toNat]?).getD 0, (((x.vals[f.var.toNat]?).getD [])[f.val.toNat]?).getD 0⟩
def imL (x : Swp) (fs : List Fct) : List Fct := srt_symmetry_mapped_l1 (fs.map (imF x))
def imE (x : Swp) (e : Eff) : Eff := ⟨imL x e.cond, (imF x ⟨e.var, e.val⟩).var, (imF x ⟨e.var, e.val⟩).val⟩
def imO (x : Swp) (o : Opr) : Opr := ⟨⟨#[]⟩, o.cost, imL x o.pre, o.effs.map (imE x)⟩
theorem imF_at {t : Tsk} {x : Swp} {f : Fct} (hp : FactsPerm t x) (hf : FactOk t.vars f) : ∃ l, atI x.vars f.var = some (imF x f).var ∧ atI x.vals f.var = some l ∧ atI l f.val = some (imF x f).val ∧ 0 ≤ (imF x f).var ∧ 0 ≤ (imF x f).val := by
  obtain ⟨h1, h2, n, hn, h3⟩ := hf
  obtain ⟨fv, fz⟩ := f
  simp only at h1 h2 hn h3 ⊢
  obtain ⟨j, rfl⟩ := Int.eq_ofNat_of_zero_le h1
  obtain ⟨i, rfl⟩ := Int.eq_ofNat_of_zero_le h2
  rw [show ((j : Int)).toNat = j from by omega] at hn
  obtain ⟨m, a, l, q1, q2, q3, q4, q5⟩ := hp.2.2 j (lt_of_get hn)
  have e : (m : Int) = n := by rw [hn] at q1; exact (Option.some.inj q1).symm
  obtain ⟨z, hz⟩ := some_of_lt (l := l) (k := i) (by rw [q5.len]; omega)
  have ha := hp.1.mem (List.mem_of_getElem? q2)
  have hz' := q5.mem (List.mem_of_getElem? hz)
  refine ⟨l, ?_, ?_, ?_, ?_, ?_⟩ <;> simp [imF, atI_eq, q2, q3, hz] <;> omega
end
section
open Go Go.RowKit
theorem facts_pw {vars : List Int} {f : List Fct} (h : FactsOk vars f) : (∀ x ∈ f, FactOk vars x) ∧ f.Pairwise fun x y => x.var < y.var := by
  refine ⟨fun x hx => by obtain ⟨i, hi⟩ := List.getElem?_of_mem hx; exact h.1 i x hi, ?_⟩
  rw [List.pairwise_iff_getElem]
  intro i j hi hj hij
  exact factsOk_lt h j i _ _ hij (List.getElem?_eq_getElem hi) (List.getElem?_eq_getElem hj)
theorem sorted_eq {a b : List Fct} (hp : a.Perm b) (ha : a.Pairwise fun x y => x.var < y.var) (hb : b.Pairwise fun x y => x.var < y.var) : a = b :=
  List.Perm.eq_of_pairwise (fun x y _ _ h1 h2 => by omega) ha hb hp
def VarsNe (f : List Fct) : Prop := f.Pairwise fun x y => x.var ≠ y.var
theorem VarsNe.perm {a b : List Fct} (hp : a.Perm b) (h : VarsNe a) : VarsNe b := (hp.pairwise_iff (fun h e => h e.symm)).1 h
theorem srt_strict {a : List Fct} (h : VarsNe a) : (srt_symmetry_mapped_l1 a).Pairwise fun x y => x.var < y.var := by
  have h1 := srtF_sorted a
  have h2 : VarsNe (srt_symmetry_mapped_l1 a) := h.perm (srtF_perm a).symm
  exact (h1.and h2).imp fun ⟨p, q⟩ => by omega
theorem imF_var {t : Tsk} {x : Swp} {f g : Fct} (hp : FactsPerm t x) (hf : FactOk t.vars f) (hg : FactOk t.vars g) (h : (imF x f).var = (imF x g).var) : f.var = g.var := by
  obtain ⟨_, hf1, _⟩ := imF_at hp hf
  obtain ⟨_, hg1, _⟩ := imF_at hp hg
  obtain ⟨i, hi, hi'⟩ := atI_some hf1
  obtain ⟨j, hj, hj'⟩ := atI_some hg1
  rw [h, ← hj'] at hi'
  have h1 : i < x.vars.length := by rw [hj'] at hi'; exact lt_of_get hi'
  have h2 := lt_of_get hj'
  rw [List.getElem?_eq_getElem h1, List.getElem?_eq_getElem h2] at hi'
  have hij := (List.getElem_inj hp.1.nodup).1 (Option.some.inj hi')
  rw [hi, hj, hij]
theorem im_ne {t : Tsk} {x : Swp} {fs : List Fct} (hp : FactsPerm t x) (hf : FactsOk t.vars fs) : VarsNe (fs.map (imF x)) := by
  obtain ⟨h1, h2⟩ := facts_pw hf
  unfold VarsNe
  rw [List.pairwise_map]
  refine List.Pairwise.imp_of_mem (fun {a b} ha hb hab => ?_) h2
  intro e
  have := imF_var hp (h1 a ha) (h1 b hb) e
  omega
theorem facts_len {t : Tsk} {fs : List Fct} (hok : TaskOk t) (hf : FactsOk t.vars fs) : fs.length ≤ 64 := by have := factsOk_len hf; have := hok.1; omega
theorem map_take {α β : Type} {f : α → β} {l : List α} {k : Nat} {x : α} (h : l[k]? = some x) : (l.take (k + 1)).map f = (l.take k).map f ++ [f x] := by
  rw [List.take_add_one, h]; simp
theorem mapped_eq {t : Tsk} {x : Swp} {fs : List Fct} (hok : TaskOk t) (hp : FactsPerm t x) (hf : FactsOk t.vars fs) : m_symmetry_mapped x fs = some (imL x fs) := by
  have hl := facts_len hok hf
  unfold m_symmetry_mapped
  rw [rng_from (fun k => (fs.take k).map (imF x)) (by simp) (fun k f hk => by
    obtain ⟨l, h1, h2, h3, _⟩ := imF_at hp (hf.1 k f hk)
    have := lt_of_get hk
    rw [h1, bnd_some, h2, bnd_some, h3, bnd_some, appI_eq (by simp; omega) (by simp; omega), bnd_some, map_take hk]), bnd_some, fin_d, List.take_length, if_pos (by simp; omega), bnd_some]
  rfl
theorem image_eq {t : Tsk} {x : Swp} {o : Opr} (hok : TaskOk t) (hp : FactsPerm t x) (ho : OpOk t.vars o) : m_symmetry_image x o = some (imO x o) := by
  obtain ⟨_, _, hl, _, hpre, heff⟩ := ho
  unfold m_symmetry_image
  rw [mapped_eq hok hp hpre, bnd_some, bnd_some, rng_from (fun k => (o.effs.take k).map (imE x)) (by simp) (fun k e hk => by
    obtain ⟨h1, h2⟩ := heff k e hk
    obtain ⟨l, g1, g2, g3, _⟩ := imF_at hp h2
    have := lt_of_get hk
    rw [show e.var = (⟨e.var, e.val⟩ : Fct).var from rfl, g1, bnd_some, g2, bnd_some, show e.val = (⟨e.var, e.val⟩ : Fct).val from rfl, g3, bnd_some, mapped_eq hok hp h1, bnd_some, appI_eq (by simp; omega) (by simp; omega), bnd_some, map_take hk]
    rfl), bnd_some, fin_d, List.take_length]
  rfl
/-- A map is a symmetry of a task. -/
def SymP (t : Tsk) (x : Swp) : Prop := FactsPerm t x ∧ PermR x.ops t.ops.length ∧ imL x t.goal = t.goal ∧ ∀ k, k < t.ops.length → ∃ (o p : Opr) (a : Int), t.ops[k]? = some o ∧ x.ops[k]? = some a ∧ atI t.ops a = some p ∧ o.cost = p.cost ∧ imL x o.pre = p.pre ∧ o.effs.map (imE x) = p.effs
theorem is_eq {t : Tsk} {x : Swp} (hok : TaskOk t) : m_symmetry_is t x = some (bof (SymP t x)) := by
  unfold m_symmetry_is
  rw [facts_eq hok, bnd_some]
  by_cases h1 : FactsPerm t x
  case neg => rw [bof_f h1, if_f, bnd_some, if_t, bof_f (fun h => h1 h.1)]
  have hlo := hok.2.1
  rw [bof_t h1, if_t, perm_n (by omega), bnd_some]
  by_cases h2 : PermR x.ops t.ops.length
  case neg => rw [bof_f h2, if_f, bnd_some, if_t, bof_f (fun h => h2 h.2.1)]
  rw [bof_t h2, if_t, mapped_eq hok h1 hok.2.2.2.2.1, bnd_some, equal_facts, bnd_some]
  by_cases h3 : imL x t.goal = t.goal
  case neg => rw [bof_f h3, if_f, bnd_some, if_t, bof_f (fun h => h3 h.2.2.1)]
  rw [bof_t h3, if_t, bnd_some, if_f, rng_dec (fun k => ∃ (o p : Opr) (a : Int), t.ops[k]? = some o ∧ x.ops[k]? = some a ∧ atI t.ops a = some p ∧ o.cost = p.cost ∧ imL x o.pre = p.pre ∧ o.effs.map (imE x) = p.effs) (fun k o hk => by
    have := lt_of_get hk
    obtain ⟨a, ha⟩ := some_of_lt (l := x.ops) (k := k) (by rw [h2.len]; omega)
    obtain ⟨ha1, ha2⟩ := h2.mem (List.mem_of_getElem? ha)
    obtain ⟨j, rfl⟩ := Int.eq_ofNat_of_zero_le ha1
    obtain ⟨p, hp⟩ := some_of_lt (l := t.ops) (k := j) (by omega)
    rw [ha, bnd_some, atI_eq, hp, bnd_some, image_eq hok h1 (hok.2.2.2.2.2 k o hk), bnd_some, alike_eq, bnd_some]
    have e : (∃ (o p : Opr) (a : Int), t.ops[k]? = some o ∧ some (j : Int) = some a ∧ atI t.ops a = some p ∧ o.cost = p.cost ∧ imL x o.pre = p.pre ∧ o.effs.map (imE x) = p.effs) ↔ ((imO x o).cost = p.cost ∧ (imO x o).pre = p.pre ∧ (imO x o).effs = p.effs) := by
      constructor
      · rintro ⟨o', p', a', q1, q2, q3, q4⟩
        obtain rfl : o = o' := by rw [hk] at q1; exact Option.some.inj q1
        obtain rfl := Option.some.inj q2
        rw [atI_eq, hp] at q3
        obtain rfl := Option.some.inj q3
        exact q4
      · intro h
        exact ⟨o, p, j, hk, rfl, by rw [atI_eq, hp], h⟩
    rw [bof_eq e])]
  exact bof_if ⟨fun h => ⟨h1, h2, h3, h⟩, fun h => h.2.2.2⟩
theorem check_eq {t : Tsk} {x : Swp} : m_symmetry_Check t x = some (bof (TaskOk t ∧ SymP t x)) := by
  unfold m_symmetry_Check m_task_Check
  rw [bnd_some]
  by_cases hok : TaskOk t
  case neg => rw [if_neg (fun h => hok (check_ok.1 h)), bnd_some, bof_f (fun h => hok h.1)]
  rw [if_pos (check_ok.2 hok), is_eq hok, bnd_some]
  by_cases h : SymP t x
  · rw [bof_t h, if_t, bnd_some, bof_t ⟨hok, h⟩]
  · rw [bof_f h, if_f, bnd_some, bof_f (fun hh => h hh.2)]
end
section
open Go Go.RowKit
theorem demand1 {t : Tsk} {x : Swp} (hok : TaskOk t) : m_symmetry_demand t [x] = some ⟨if bof (SymP t x) = true then 0 else 2⟩ := by
  unfold m_symmetry_demand m_task_Check
  rw [bnd_some, if_neg (by rw [check_ok.2 hok]; simp)]
  by_cases h : SymP t x
  · rw [rng_unit (fun k y hy => by
      obtain rfl : y = x := by simpa using List.mem_of_getElem? hy
      rw [is_eq hok, bnd_some, bof_t h, if_t]), bnd_some, fin_d, bof_t h, if_t]
  · have : rng (ρ := Err) (fun (_ : Nat) (a41 : Swp) (_ : Unit) => bnd (m_symmetry_is t a41) fun q77 => if q77 = true then some (.next ()) else some (.ret (⟨2⟩ : Err))) [x] 0 () = some (.ret ⟨2⟩) := by
      simp only [rng]
      rw [is_eq hok, bnd_some, bof_f h, if_f]
    rw [this, bnd_some, fin_r, bof_f h, if_f]
/-- The image of a state. -/
def ImS (x : Swp) (s r : List Int) : Prop := r.length = s.length ∧ ∀ (k : Nat) v, s[k]? = some v → ∃ (a : Nat) (l : List Int) (z : Int), x.vars[k]? = some (a : Int) ∧ x.vals[k]? = some l ∧ atI l v = some z ∧ r[a]? = some z
theorem moved_eq {t : Tsk} {x : Swp} {s : List Int} (hok : TaskOk t) (hp : FactsPerm t x) (hs : StateOk t.vars s) : ∃ r, m_symmetry_moved x s = some r ∧ ImS x s r := by
  obtain ⟨hsl, hsv⟩ := hs
  have hl := hok.1
  unfold m_symmetry_moved
  rw [mkI_eq (by omega) (by omega), bnd_some]
  obtain ⟨r, h1, h2, h3⟩ := rng_all (ρ := List Int) (f := fun (k42 : Nat) (a43 : Int) (s40 : (List Int)) => bnd (x.vars[k42]?) fun a65 => bnd (x.vals[k42]?) fun a75 => bnd (atI a75 a43) fun a88 => bnd (atI s40 a65) fun _ => some (.next (s40.set (a65).toNat a88))) (xs := s) (s₀ := List.replicate s.length 0)
    (fun k r => r.length = s.length ∧ ∀ (j : Nat) v, j < k → s[j]? = some v → ∃ (a : Nat) (l : List Int) (z : Int), x.vars[j]? = some (a : Int) ∧ x.vals[j]? = some l ∧ atI l v = some z ∧ r[a]? = some z) ⟨by simp, fun j v hj => by omega⟩ (fun k v r hk hI => by
    obtain ⟨i1, i2⟩ := hI
    have hlt := lt_of_get hk
    obtain ⟨n, a, l, q1, q2, q3, q4, q5⟩ := hp.2.2 k (by omega)
    obtain ⟨ha1, ha2⟩ := hp.1.mem (List.mem_of_getElem? q2)
    obtain ⟨a, rfl⟩ := Int.eq_ofNat_of_zero_le ha1
    obtain ⟨h1, h2⟩ := hsv k v n hk q1
    obtain ⟨u, rfl⟩ := Int.eq_ofNat_of_zero_le h1
    obtain ⟨z, hz⟩ := some_of_lt (l := l) (k := u) (by rw [q5.len]; omega)
    obtain ⟨y, hy⟩ := some_of_lt (l := r) (k := a) (by omega)
    rw [q2, bnd_some, q3, bnd_some, atI_eq, hz, bnd_some, atI_eq, hy, bnd_some]
    refine ⟨_, rfl, by simpa using i1, fun j v' hj hv' => ?_⟩
    rw [show ((a : Int)).toNat = a from by omega]
    by_cases hjk : j = k
    · subst hjk
      rw [hk] at hv'
      obtain rfl := Option.some.inj hv'
      exact ⟨a, l, z, q2, q3, by rw [atI_eq, hz], by rw [List.getElem?_set_self (by omega)]⟩
    · obtain ⟨a', l', z', g1, g2, g3, g4⟩ := i2 j v' (by omega) hv'
      refine ⟨a', l', z', g1, g2, g3, ?_⟩
      rw [List.getElem?_set_ne (fun e => hjk ?_), g4]
      have hj1 := lt_of_get g1
      have hk1 := lt_of_get q2
      rw [e] at q2
      have := g1.trans q2.symm
      rw [List.getElem?_eq_getElem hj1, List.getElem?_eq_getElem hk1] at this
      exact (List.getElem_inj hp.1.nodup).1 (Option.some.inj this))
  exact ⟨r, by rw [h1, bnd_some, fin_d], h2, fun k v hk => h3 k v (lt_of_get hk) hk⟩
theorem ref_moved (x : Swp) (s : List Int) : m_ref51_State x s = m_symmetry_moved x s := rfl
def exT : Tsk := ⟨[2, 2], [0, 0], ([] : List Fct), [(⟨(⟨#[]⟩ : ByteArray), 0, ([] : List Fct), [(⟨([] : List Fct), 0, 1⟩ : Eff)]⟩ : Opr), (⟨(⟨#[]⟩ : ByteArray), 0, ([] : List Fct), [(⟨([] : List Fct), 1, 1⟩ : Eff)]⟩ : Opr)]⟩
def exX : Swp := ⟨[1, 0], [[0, 1], [0, 1]], [1, 0]⟩
theorem permR_10 : PermR [1, 0] 2 := by unfold PermR rangeI; decide
theorem permR_01 : PermR [0, 1] 2 := by unfold PermR rangeI; decide
theorem below2 {k : Nat} (h : k < 2) : k = 0 ∨ k = 1 := by omega
theorem fo_nil (vars : List Int) : FactsOk vars [] := ⟨fun _ _ h => by simp at h, fun _ _ _ h => by simp at h⟩
theorem get2 {α : Type} {a b y : α} {k : Nat} (h : [a, b][k]? = some y) : y = a ∨ y = b := by
  have := List.mem_of_getElem? h
  simpa using this
theorem exT_ok : TaskOk exT := by
  refine ⟨by decide, by decide, fun i n h => ?_, ⟨rfl, fun i v n h1 h2 => ?_⟩, fo_nil _, fun i o h => ?_⟩
  · rcases get2 h with rfl | rfl <;> omega
  · have e1 : v = 0 := by rcases get2 h1 with rfl | rfl <;> rfl
    have e2 : n = 2 := by rcases get2 h2 with rfl | rfl <;> rfl
    omega
  · have hone : ∀ (c : Int), (c = 0 ∨ c = 1) → OpOk exT.vars ⟨⟨#[]⟩, 0, [], [⟨[], c, 1⟩]⟩ := fun c hc => by
      refine ⟨Int.le_refl 0, (by decide : (0 : Int) ≤ 1048576), (by decide : 1 ≤ 64), ?_, fo_nil _, fun j e he => ?_⟩
      · exact ⟨(by decide : 0 ≤ 256), fun i h => absurd h (Nat.not_lt_zero _)⟩
      · have : e = ⟨[], c, 1⟩ := by simpa using List.mem_of_getElem? he
        subst this
        refine ⟨fo_nil _, by simp; omega, by simp, 2, ?_, by simp⟩
        rcases hc with rfl | rfl <;> rfl
    rcases get2 h with rfl | rfl
    · exact hone 0 (.inl rfl)
    · exact hone 1 (.inr rfl)
theorem srt_nil : srt_symmetry_mapped_l1 [] = [] := List.eq_nil_of_length_eq_zero (by rw [srt_symmetry_mapped_l1_len]; rfl)
theorem imL_nil (x : Swp) : imL x [] = [] := srt_nil
theorem exX_sym : SymP exT exX := by
  refine ⟨⟨permR_10, rfl, fun k hk => ?_⟩, permR_10, imL_nil _, fun k hk => ?_⟩
  · rcases below2 hk with rfl | rfl
    · exact ⟨2, 1, [0, 1], rfl, rfl, rfl, rfl, permR_01⟩
    · exact ⟨2, 0, [0, 1], rfl, rfl, rfl, rfl, permR_01⟩
  · rcases below2 hk with rfl | rfl
    · refine ⟨_, _, 1, rfl, rfl, rfl, rfl, imL_nil _, ?_⟩
      show [imE exX ⟨[], 0, 1⟩] = _
      unfold imE
      rw [imL_nil]; rfl
    · refine ⟨_, _, 0, rfl, rfl, rfl, rfl, imL_nil _, ?_⟩
      show [imE exX ⟨[], 1, 1⟩] = _
      unfold imE
      rw [imL_nil]; rfl
theorem exS_ok : StateOk exT.vars [1, 0] := ⟨rfl, fun i v n h1 h2 => by
  have e1 : v = 1 ∨ v = 0 := get2 h1
  have e2 : n = 2 := by rcases get2 h2 with rfl | rfl <;> rfl
  omega⟩
theorem state_ok {t : Tsk} {x : Swp} {s : List Int} (hok : TaskOk t) (hx : SymP t x) (hs : StateOk t.vars s) {r : List Int} (hr : m_symmetry_moved x s = some r) : m_symmetry_State t x s = some (r, ⟨0⟩) := by
  unfold m_symmetry_State m_task_Proper
  rw [demand1 hok, bnd_some, bof_t hx, if_t, if_neg (by simp), bnd_some, bof_t hs, if_t, hr, bnd_some]
theorem awake51 : m_law51_awake = some true := by
  unfold m_law51_awake
  change (bnd (m_symmetry_State exT exX [1, 0]) fun q103 => bnd (bnd (m_symmetry_Check exT exX) fun q121 => if q121 = true then if q103.2.n = 0 then (bnd (m_base_Ints q103.1 [0, 1]) fun q135 => if q135 = true then some true else some false) else (some false) else some false : Option Bool) fun y117 => some y117) = _
  rw [state_ok exT_ok exX_sym exS_ok (r := [0, 1]) rfl, bnd_some, check_eq, bof_t ⟨exT_ok, exX_sym⟩, bnd_some, if_t, if_pos rfl]
  unfold m_base_Ints
  rw [bnd_some, bof_t rfl, if_t, bnd_some]
theorem long_some (x : Swp) : ∃ b, m_law51_long x = some b := by
  unfold m_law51_long
  obtain ⟨s, h, _⟩ := rng_all (ρ := Bool) (f := fun (_ : Nat) (a32 : List Int) (s29 : Int) => some (.next (wr (s29 + (a32.length : Int))))) (xs := x.vals) (s₀ := wr ((wr ((x.vars.length : Int) + (x.vals.length : Int))) + (x.ops.length : Int))) (fun _ _ => True) trivial (fun k y s _ _ => ⟨_, rfl, trivial⟩)
  rw [h, bnd_some, fin_d]
  by_cases hc : 500 < s
  · exact ⟨true, by rw [if_pos hc]; rfl⟩
  · exact ⟨false, by rw [if_neg hc]; rfl⟩
end
section
open Go Go.RowKit
theorem perm_get {l : List Int} {n : Nat} (h : PermR l n) {k : Nat} (hk : k < n) : ∃ a : Nat, l[k]? = some (a : Int) ∧ a < n := by
  obtain ⟨z, hz⟩ := some_of_lt (l := l) (k := k) (by rw [h.len]; exact hk)
  obtain ⟨h1, h2⟩ := h.mem (List.mem_of_getElem? hz)
  obtain ⟨a, rfl⟩ := Int.eq_ofNat_of_zero_le h1
  exact ⟨a, hz, by omega⟩
theorem perm_onto {l : List Int} {n : Nat} (h : PermR l n) {a : Nat} (ha : a < n) : ∃ k : Nat, k < n ∧ l[k]? = some (a : Int) := by
  have : (a : Int) ∈ l := h.mem_iff.2 (mem_rangeI.2 ⟨by omega, by omega⟩)
  obtain ⟨k, hk⟩ := List.getElem?_of_mem this
  exact ⟨k, by rw [← h.len]; exact lt_of_get hk, hk⟩
theorem perm_inj {l : List Int} {n : Nat} (h : PermR l n) {i j : Nat} {a : Int} (hi : l[i]? = some a) (hj : l[j]? = some a) : i = j := by
  have h1 := lt_of_get hi
  have h2 := lt_of_get hj
  have := hi.trans hj.symm
  rw [List.getElem?_eq_getElem h1, List.getElem?_eq_getElem h2] at this
  exact (List.getElem_inj h.nodup).1 (Option.some.inj this)
theorem permR_get {l : List Int} {n : Nat} (hl : l.length = n) (h1 : ∀ (k : Nat) (a : Int), l[k]? = some a → 0 ≤ a ∧ a < n) (h2 : ∀ (i j : Nat) (a : Int), l[i]? = some a → l[j]? = some a → i = j) : PermR l n := by
  refine permR_of ?_ (fun x hx => ?_) hl
  · rw [List.nodup_iff_pairwise_ne, List.pairwise_iff_getElem]
    intro i j hi hj hij e
    have := h2 i j l[i] (List.getElem?_eq_getElem hi) (by rw [List.getElem?_eq_getElem hj, e])
    omega
  · obtain ⟨k, hk⟩ := List.getElem?_of_mem hx
    exact h1 k x hk
theorem rangeI_get {n k : Nat} (h : k < n) : (rangeI n)[k]? = some (k : Int) := by
  unfold rangeI
  rw [List.getElem?_map, List.getElem?_range h]; rfl
theorem rangeI_perm (n : Nat) : PermR (rangeI n) n := List.Perm.refl _
theorem eq_rangeI {l : List Int} {n : Nat} (hl : l.length = n) (h : ∀ k, k < n → l[k]? = some (k : Int)) : l = rangeI n := List.ext_getElem? fun k => by
  by_cases hk : k < n
  · rw [h k hk, rangeI_get hk]
  · rw [List.getElem?_eq_none (by omega), List.getElem?_eq_none (by rw [rangeI_len]; omega)]
/-- One list after the other. -/
def alongL (a b : List Int) : List Int := a.map fun k => (b[k.toNat]?).getD 0
theorem along_get {a b : List Int} {n : Nat} (ha : PermR a n) (hb : b.length = n) {k i : Nat} {z : Int} (h1 : a[k]? = some (i : Int)) (h2 : b[i]? = some z) : (alongL a b)[k]? = some z := by
  unfold alongL
  rw [List.getElem?_map, h1]
  simp [h2]
/-- The list undone. -/
noncomputable def backL (l : List Int) : List Int := (m_symmetry_back l).getD []
theorem back_eq {l : List Int} {n : Nat} (hp : PermR l n) (hn : n ≤ 1000000) : m_symmetry_back l = some (backL l) ∧ (backL l).length = n ∧ ∀ i k : Nat, l[i]? = some (k : Int) → (backL l)[k]? = some (i : Int) := by
  have hl := hp.len
  have : ∃ s, m_symmetry_back l = some s ∧ s.length = n ∧ ∀ i k : Nat, l[i]? = some (k : Int) → s[k]? = some (i : Int) := by
    unfold m_symmetry_back
    rw [mkI_eq (by omega) (by omega), bnd_some]
    obtain ⟨s, h1, h2, h3⟩ := rng_all (ρ := List Int) (f := fun (k24 : Nat) (a25 : Int) (s22 : (List Int)) => bnd (atI s22 a25) fun _ => some (.next (s22.set (a25).toNat (k24 : Int)))) (xs := l) (s₀ := List.replicate l.length 0) (fun k s => s.length = n ∧ ∀ i j : Nat, i < k → l[i]? = some (j : Int) → s[j]? = some (i : Int)) ⟨by simpa using hl, fun i j hi => by omega⟩ (fun k y s hk hI => by
      obtain ⟨i1, i2⟩ := hI
      have hlt := lt_of_get hk
      obtain ⟨j, hj, hjn⟩ := perm_get hp (k := k) (by omega)
      obtain rfl : y = (j : Int) := by rw [hj] at hk; exact (Option.some.inj hk).symm
      obtain ⟨u, hu⟩ := some_of_lt (l := s) (k := j) (by omega)
      rw [atI_eq, hu, bnd_some]
      refine ⟨_, rfl, by simpa using i1, fun i j' hi hij => ?_⟩
      rw [show ((j : Int)).toNat = j from by omega, List.getElem?_set]
      by_cases e : j = j'
      · subst e
        rw [if_pos rfl, if_pos (by omega), perm_inj hp hij hk]
      · rw [if_neg e]
        refine i2 i j' ?_ hij
        have : i ≠ k := fun h => e (by subst h; rw [hij] at hk; have := Option.some.inj hk; omega)
        omega)
    exact ⟨s, by rw [h1, bnd_some, fin_d], h2, fun i k h => h3 i k (lt_of_get h) h⟩
  obtain ⟨s, h1, h2, h3⟩ := this
  have e : backL l = s := by unfold backL; rw [h1]; rfl
  rw [e]; exact ⟨h1, h2, h3⟩
theorem back_perm {l : List Int} {n : Nat} (hp : PermR l n) (hn : n ≤ 1000000) : PermR (backL l) n := by
  obtain ⟨_, h2, h3⟩ := back_eq hp hn
  have key : ∀ (k : Nat) (z : Int), (backL l)[k]? = some z → ∃ i : Nat, z = (i : Int) ∧ i < n ∧ l[i]? = some (k : Int) := fun k z hz => by
    obtain ⟨i, hin, hi⟩ := perm_onto hp (a := k) (by rw [← h2]; exact lt_of_get hz)
    have := h3 i k hi
    rw [hz] at this
    exact ⟨i, Option.some.inj this, hin, hi⟩
  refine permR_get h2 (fun k z hz => ?_) (fun k j z g1 g2 => ?_)
  · obtain ⟨i, rfl, hi, _⟩ := key k z hz; omega
  · obtain ⟨i, rfl, _, hi⟩ := key k z g1
    obtain ⟨i', e, _, hi'⟩ := key j _ g2
    obtain rfl : i = i' := by omega
    rw [hi] at hi'
    have := Option.some.inj hi'
    omega
theorem back_along {l : List Int} {n : Nat} (hp : PermR l n) (hn : n ≤ 1000000) : alongL l (backL l) = rangeI n := by
  obtain ⟨_, h2, h3⟩ := back_eq hp hn
  refine eq_rangeI (by simp [alongL, hp.len]) fun k hk => ?_
  obtain ⟨a, ha, _⟩ := perm_get hp hk
  exact along_get hp h2 ha (h3 k a ha)
/-- What a map of facts does to a fact. -/
theorem imF_is {x : Swp} {v u a z : Nat} {l : List Int} (h1 : x.vars[v]? = some (a : Int)) (h2 : x.vals[v]? = some l) (h3 : l[u]? = some (z : Int)) : imF x ⟨v, u⟩ = ⟨a, z⟩ := by simp [imF, h1, h2, h3]
theorem fact_cases {t : Tsk} {x : Swp} {f : Fct} (hok : TaskOk t) (hp : FactsPerm t x) (hf : FactOk t.vars f) : ∃ (v u n a z : Nat) (l : List Int), f = ⟨v, u⟩ ∧ v < t.vars.length ∧ t.vars[v]? = some (n : Int) ∧ n ≤ 64 ∧ u < n ∧ x.vars[v]? = some (a : Int) ∧ x.vals[v]? = some l ∧ PermR l n ∧ l[u]? = some (z : Int) ∧ z < n ∧ a < t.vars.length ∧ t.vars[a]? = some (n : Int) ∧ imF x f = ⟨a, z⟩ := by
  obtain ⟨fv, fu⟩ := f
  obtain ⟨h1, h2, n, hn, h3⟩ := hf
  simp only at h1 h2 hn h3
  obtain ⟨v, rfl⟩ := Int.eq_ofNat_of_zero_le h1
  obtain ⟨u, rfl⟩ := Int.eq_ofNat_of_zero_le h2
  rw [show ((v : Int)).toNat = v from by omega] at hn
  have hlt := lt_of_get hn
  obtain ⟨m, a, l, q1, q2, q3, q4, q5⟩ := hp.2.2 v hlt
  have e : (m : Int) = n := by rw [hn] at q1; exact (Option.some.inj q1).symm
  subst e
  obtain ⟨ha1, ha2⟩ := hp.1.mem (List.mem_of_getElem? q2)
  obtain ⟨a, rfl⟩ := Int.eq_ofNat_of_zero_le ha1
  obtain ⟨z, hz, hzn⟩ := perm_get q5 (k := u) (by omega)
  have hm := hok.2.2.1 v m hn
  rw [atI_eq] at q4
  exact ⟨v, u, m, a, z, l, rfl, hlt, hn, by omega, by omega, q2, q3, q5, hz, hzn, by omega, q4, imF_is q2 q3 hz⟩
theorem imF_ok {t : Tsk} {x : Swp} {f : Fct} (hok : TaskOk t) (hp : FactsPerm t x) (hf : FactOk t.vars f) : FactOk t.vars (imF x f) := by
  obtain ⟨v, u, n, a, z, l, rfl, _, _, _, _, _, _, _, _, hz, ha, hta, e⟩ := fact_cases hok hp hf
  rw [e]
  exact ⟨by simp, by simp, n, by simpa using hta, by simpa using hz⟩
theorem imL_ok {t : Tsk} {x : Swp} {fs : List Fct} (hok : TaskOk t) (hp : FactsPerm t x) (hf : FactsOk t.vars fs) : (∀ f ∈ imL x fs, FactOk t.vars f) ∧ (imL x fs).Pairwise fun a b => a.var < b.var := by
  refine ⟨fun f h => ?_, srt_strict (im_ne hp hf)⟩
  have h := (srtF_perm _).mem_iff.1 h
  obtain ⟨g, hg, rfl⟩ := List.mem_map.1 h
  exact imF_ok hok hp ((facts_pw hf).1 g hg)
theorem imL_eq {t : Tsk} {x : Swp} {fs gs : List Fct} (hp : FactsPerm t x) (hf : FactsOk t.vars fs) (hg : gs.Pairwise fun a b => a.var < b.var) (h : gs.Perm (fs.map (imF x))) : imL x fs = gs :=
  sorted_eq ((srtF_perm _).trans h.symm) (srt_strict (im_ne hp hf)) hg
/-- A map that does as one after another. -/
theorem imL_comp {t : Tsk} {x y z : Swp} {fs : List Fct} (hok : TaskOk t) (hx : FactsPerm t x) (hy : FactsPerm t y) (hz : FactsPerm t z) (hf : FactsOk t.vars fs) (hgs : FactsOk t.vars (imL x fs)) (h : ∀ f, FactOk t.vars f → imF z f = imF y (imF x f)) : imL z fs = imL y (imL x fs) := by
  refine imL_eq hz hf (imL_ok hok hy hgs).2 ?_
  refine (srtF_perm _).trans ?_
  have e : fs.map (imF z) = (fs.map (imF x)).map (imF y) := by
    rw [List.map_map]
    exact List.map_congr_left fun f hf' => h f ((facts_pw hf).1 f hf')
  rw [e]
  exact (srtF_perm _).map _
theorem factsOk_of {vars : List Int} {f : List Fct} (h1 : ∀ x ∈ f, FactOk vars x) (h2 : f.Pairwise fun x y => x.var < y.var) : FactsOk vars f := by
  refine ⟨fun i x hx => h1 x (List.mem_of_getElem? hx), fun i x y hx hy => ?_⟩
  obtain ⟨hi, rfl⟩ := List.getElem?_eq_some_iff.1 hx
  obtain ⟨hj, rfl⟩ := List.getElem?_eq_some_iff.1 hy
  exact List.pairwise_iff_getElem.1 h2 i (i + 1) hi hj (Nat.lt_succ_self i)
theorem imL_facts {t : Tsk} {x : Swp} {fs : List Fct} (hok : TaskOk t) (hp : FactsPerm t x) (hf : FactsOk t.vars fs) : FactsOk t.vars (imL x fs) := factsOk_of (imL_ok hok hp hf).1 (imL_ok hok hp hf).2
theorem imL_self {t : Tsk} {x : Swp} {fs : List Fct} (hp : FactsPerm t x) (hf : FactsOk t.vars fs) (h : ∀ f, FactOk t.vars f → imF x f = f) : imL x fs = fs := by
  refine imL_eq hp hf (facts_pw hf).2 ?_
  have : fs.map (imF x) = fs.map id := List.map_congr_left fun f hf' => h f ((facts_pw hf).1 f hf')
  rw [this, List.map_id]
theorem imE_comp {t : Tsk} {x y z : Swp} {e : Eff} (hok : TaskOk t) (hx : FactsPerm t x) (hy : FactsPerm t y) (hz : FactsPerm t z) (he : EffOk t.vars e) (h : ∀ f, FactOk t.vars f → imF z f = imF y (imF x f)) : imE z e = imE y (imE x e) := by
  have h1 := imL_comp hok hx hy hz he.1 (imL_facts hok hx he.1) h
  have h2 := h ⟨e.var, e.val⟩ he.2
  show (⟨imL z e.cond, (imF z ⟨e.var, e.val⟩).var, (imF z ⟨e.var, e.val⟩).val⟩ : Eff) = ⟨imL y (imL x e.cond), (imF y (imF x ⟨e.var, e.val⟩)).var, (imF y (imF x ⟨e.var, e.val⟩)).val⟩
  rw [h1, h2]
theorem imE_self {t : Tsk} {x : Swp} {e : Eff} (hp : FactsPerm t x) (he : EffOk t.vars e) (h : ∀ f, FactOk t.vars f → imF x f = f) : imE x e = e := by
  show (⟨imL x e.cond, (imF x ⟨e.var, e.val⟩).var, (imF x ⟨e.var, e.val⟩).val⟩ : Eff) = e
  rw [imL_self hp he.1 h, h _ he.2]
theorem effs_ok {vars : List Int} {o : Opr} (ho : OpOk vars o) : ∀ e ∈ o.effs, EffOk vars e := fun e he => by
  obtain ⟨j, hj⟩ := List.getElem?_of_mem he
  exact ho.2.2.2.2.2 j e hj
/-- The identity. -/
def idX (t : Tsk) : Swp := ⟨rangeI t.vars.length, t.vars.map fun n => rangeI n.toNat, rangeI t.ops.length⟩
theorem id_perm {t : Tsk} (hok : TaskOk t) : FactsPerm t (idX t) := by
  refine ⟨rangeI_perm _, by simp [idX], fun k hk => ?_⟩
  obtain ⟨n, hn⟩ := some_of_lt (l := t.vars) (k := k) hk
  have := hok.2.2.1 k n hn
  obtain ⟨m, rfl⟩ := Int.eq_ofNat_of_zero_le (by omega : 0 ≤ n)
  exact ⟨m, k, rangeI m, hn, rangeI_get hk, by simp [idX, hn], by rw [atI_eq, hn], rangeI_perm _⟩
theorem id_fact {t : Tsk} (hok : TaskOk t) {f : Fct} (hf : FactOk t.vars f) : imF (idX t) f = f := by
  obtain ⟨v, u, n, a, z, l, rfl, h1, h2, _, hu, h3, h4, _, h5, _, _, _, e⟩ := fact_cases hok (id_perm hok) hf
  have e1 : (idX t).vars[v]? = some (v : Int) := rangeI_get h1
  have e2 : (idX t).vals[v]? = some (rangeI n) := by simp [idX, h2]
  exact imF_is e1 e2 (rangeI_get hu)
/-- One map after another. -/
def compX (x y : Swp) : Swp := ⟨alongL x.vars y.vars, x.vals.mapIdx fun v l => alongL l ((y.vals[((x.vars[v]?).getD 0).toNat]?).getD []), alongL x.ops y.ops⟩
theorem comp_vals {x y : Swp} {v a : Nat} {l m : List Int} (h1 : x.vars[v]? = some (a : Int)) (h2 : x.vals[v]? = some l) (h3 : y.vals[a]? = some m) : (compX x y).vals[v]? = some (alongL l m) := by
  simp [compX, List.getElem?_mapIdx, h1, h2, h3]
theorem ops_cases {t : Tsk} {x : Swp} (hx : SymP t x) {k : Nat} (hk : k < t.ops.length) : ∃ (o p : Opr) (a : Nat), t.ops[k]? = some o ∧ x.ops[k]? = some (a : Int) ∧ a < t.ops.length ∧ t.ops[a]? = some p ∧ o.cost = p.cost ∧ imL x o.pre = p.pre ∧ o.effs.map (imE x) = p.effs := by
  obtain ⟨o, p, a, h1, h2, h3, h4⟩ := hx.2.2.2 k hk
  obtain ⟨ha1, ha2⟩ := hx.2.1.mem (List.mem_of_getElem? h2)
  obtain ⟨a, rfl⟩ := Int.eq_ofNat_of_zero_le ha1
  rw [atI_eq] at h3
  exact ⟨o, p, a, h1, h2, by omega, h3, h4⟩
/-- A map undone. -/
noncomputable def invX (x : Swp) : Swp := ⟨backL x.vars, (List.range x.vals.length).map fun w => backL ((x.vals[(((backL x.vars)[w]?).getD 0).toNat]?).getD []), backL x.ops⟩
theorem inv_vals {t : Tsk} {x : Swp} (hok : TaskOk t) (hx : FactsPerm t x) {v a : Nat} {l : List Int} (h1 : x.vars[v]? = some (a : Int)) (h2 : x.vals[v]? = some l) : (invX x).vals[a]? = some (backL l) := by
  obtain ⟨_, h4, h5⟩ := back_eq hx.1 (by have := hok.1; omega)
  have := hx.1.mem (List.mem_of_getElem? h1)
  have h6 := h5 v a h1
  show ((List.range x.vals.length).map _)[a]? = _
  rw [List.getElem?_map, List.getElem?_range (by rw [hx.2.1]; omega)]
  simp [h6, h2]
theorem inv_perm {t : Tsk} {x : Swp} (hok : TaskOk t) (hx : FactsPerm t x) : FactsPerm t (invX x) := by
  have hl : t.vars.length ≤ 1000000 := by have := hok.1; omega
  refine ⟨back_perm hx.1 hl, by simp [invX, hx.2.1], fun k hk => ?_⟩
  obtain ⟨v, hv, hvk⟩ := perm_onto hx.1 hk
  obtain ⟨n, a, l, q1, q2, q3, q4, q5⟩ := hx.2.2 v hv
  obtain rfl : a = (k : Int) := by rw [hvk] at q2; exact (Option.some.inj q2).symm
  rw [atI_eq] at q4
  have hn := hok.2.2.1 v n q1
  obtain ⟨_, h4, h5⟩ := back_eq hx.1 hl
  exact ⟨n, v, backL l, q4, h5 v k hvk, inv_vals hok hx hvk q3, by rw [atI_eq, q1], back_perm q5 (by omega)⟩
theorem inv_fact {t : Tsk} {x : Swp} (hok : TaskOk t) (hx : FactsPerm t x) {f : Fct} (hf : FactOk t.vars f) : imF (invX x) (imF x f) = f := by
  obtain ⟨v, u, n, a, z, l, rfl, h1, h2, h3, hu, h4, h5, h6, h7, h8, h9, h10, e⟩ := fact_cases hok hx hf
  rw [e]
  have hl : t.vars.length ≤ 1000000 := by have := hok.1; omega
  exact imF_is ((back_eq hx.1 hl).2.2 v a h4) (inv_vals hok hx h4 h5) ((back_eq h6 (by omega)).2.2 u z h7)
theorem inv_list {t : Tsk} {x : Swp} (hok : TaskOk t) (hx : FactsPerm t x) {fs : List Fct} (hf : FactsOk t.vars fs) : imL (invX x) (imL x fs) = fs := by
  rw [← imL_comp hok hx (inv_perm hok hx) (id_perm hok) hf (imL_facts hok hx hf) (fun f hf => by rw [inv_fact hok hx hf, id_fact hok hf])]
  exact imL_self (id_perm hok) hf fun f => id_fact hok
theorem inv_eff {t : Tsk} {x : Swp} (hok : TaskOk t) (hx : FactsPerm t x) {e : Eff} (he : EffOk t.vars e) : imE (invX x) (imE x e) = e := by
  rw [← imE_comp hok hx (inv_perm hok hx) (id_perm hok) he (fun f hf => by rw [inv_fact hok hx hf, id_fact hok hf])]
  exact imE_self (id_perm hok) he fun f => id_fact hok
theorem inv_sym {t : Tsk} {x : Swp} (hok : TaskOk t) (hx : SymP t x) : SymP t (invX x) := by
  have hl : t.ops.length ≤ 1000000 := by have := hok.2.1; omega
  refine ⟨inv_perm hok hx.1, back_perm hx.2.1 hl, ?_, fun k hk => ?_⟩
  · have := inv_list hok hx.1 hok.2.2.2.2.1
    rwa [hx.2.2.1] at this
  · obtain ⟨j, hj, hjk⟩ := perm_onto hx.2.1 hk
    obtain ⟨o, p, a, h1, h2, ha, h3, h4, h5, h6⟩ := ops_cases hx hj
    obtain rfl : a = k := by rw [hjk] at h2; have := Option.some.inj h2; omega
    have hoo := hok.2.2.2.2.2 j o h1
    refine ⟨p, o, j, h3, (back_eq hx.2.1 hl).2.2 j a hjk, by rw [atI_eq, h1], h4.symm, by rw [← h5, inv_list hok hx.1 hoo.2.2.2.2.1], ?_⟩
    rw [← h6, List.map_map]
    have : o.effs.map (imE (invX x) ∘ imE x) = o.effs.map id := List.map_congr_left fun e he => inv_eff hok hx.1 (effs_ok hoo e he)
    rw [this, List.map_id]
theorem comp_inv {t : Tsk} {x : Swp} (hok : TaskOk t) (hx : SymP t x) : compX x (invX x) = idX t := by
  have hl : t.vars.length ≤ 1000000 := by have := hok.1; omega
  have hl2 : t.ops.length ≤ 1000000 := by have := hok.2.1; omega
  have h1 : (compX x (invX x)).vars = (idX t).vars := back_along hx.1.1 hl
  have h2 : (compX x (invX x)).ops = (idX t).ops := back_along hx.2.1 hl2
  have h3 : (compX x (invX x)).vals = (idX t).vals := List.ext_getElem? fun k => by
    by_cases hk : k < t.vars.length
    · obtain ⟨n, a, l, q1, q2, q3, q4, q5⟩ := hx.1.2.2 k hk
      obtain ⟨ha1, ha2⟩ := hx.1.1.mem (List.mem_of_getElem? q2)
      obtain ⟨a, rfl⟩ := Int.eq_ofNat_of_zero_le ha1
      have hn := hok.2.2.1 k n q1
      rw [comp_vals q2 q3 (inv_vals hok hx.1 q2 q3), back_along q5 (by omega)]
      simp [idX, q1]
    · rw [List.getElem?_eq_none (by simp [compX, hx.1.2.1]; omega), List.getElem?_eq_none (by simp [idX]; omega)]
  cases h : compX x (invX x)
  rw [h] at h1 h2 h3
  cases h' : idX t
  rw [h'] at h1 h2 h3
  simp_all
/-- Images of states. -/
theorem ims_uniq {t : Tsk} {x : Swp} {s r r' : List Int} (hx : FactsPerm t x) (hs : s.length = t.vars.length) (h : ImS x s r) (h' : ImS x s r') : r = r' := List.ext_getElem? fun a => by
  by_cases ha : a < t.vars.length
  · obtain ⟨v, hv, hva⟩ := perm_onto hx.1 ha
    obtain ⟨u, hu⟩ := some_of_lt (l := s) (k := v) (by omega)
    obtain ⟨b, l, z, q1, q2, q3, q4⟩ := h.2 v u hu
    obtain ⟨b', l', z', p1, p2, p3, p4⟩ := h'.2 v u hu
    obtain rfl : b = a := by rw [hva] at q1; have := Option.some.inj q1; omega
    obtain rfl : b' = b := by rw [hva] at p1; have := Option.some.inj p1; omega
    obtain rfl : l = l' := by rw [q2] at p2; exact Option.some.inj p2
    rw [q4, p4]; rw [q3] at p3; exact p3
  · rw [List.getElem?_eq_none (by rw [h.1]; omega), List.getElem?_eq_none (by rw [h'.1]; omega)]
theorem ims_ok {t : Tsk} {x : Swp} {s r : List Int} (hx : FactsPerm t x) (hs : StateOk t.vars s) (h : ImS x s r) : StateOk t.vars r := by
  refine ⟨h.1.trans hs.1, fun a z n hz hn => ?_⟩
  obtain ⟨v, hv, hva⟩ := perm_onto hx.1 (lt_of_get hn)
  obtain ⟨u, hu⟩ := some_of_lt (l := s) (k := v) (by rw [hs.1]; exact hv)
  obtain ⟨b, l, z', q1, q2, q3, q4⟩ := h.2 v u hu
  obtain rfl : b = a := by rw [hva] at q1; have := Option.some.inj q1; omega
  obtain ⟨m, b', l', p1, p2, p3, p4, p5⟩ := hx.2.2 v hv
  obtain rfl : b' = (b : Int) := by rw [hva] at p2; exact (Option.some.inj p2).symm
  obtain rfl : l = l' := by rw [q2] at p3; exact Option.some.inj p3
  rw [atI_eq, hn] at p4
  rw [q4] at hz
  obtain rfl := Option.some.inj hz
  obtain ⟨j, _, hj⟩ := atI_some q3
  have := p5.mem (List.mem_of_getElem? hj)
  have := Option.some.inj p4
  omega
theorem ims_comp {t : Tsk} {x y : Swp} {s a b : List Int} (hx : FactsPerm t x) (hy : FactsPerm t y) (hs : StateOk t.vars s) (ha : ImS x s a) (hb : ImS y a b) : ImS (compX x y) s b := by
  refine ⟨hb.1.trans ha.1, fun k v hk => ?_⟩
  obtain ⟨i, l, z, q1, q2, q3, q4⟩ := ha.2 k v hk
  obtain ⟨j, m, z', p1, p2, p3, p4⟩ := hb.2 i z q4
  obtain ⟨c, rfl, hc⟩ := atI_some q3
  obtain ⟨d, rfl, hd⟩ := atI_some p3
  have hkl : k < t.vars.length := by rw [← hs.1]; exact lt_of_get hk
  obtain ⟨n, a', l', u1, u2, u3, u4, u5⟩ := hx.2.2 k hkl
  obtain rfl : l = l' := by rw [q2] at u3; exact Option.some.inj u3
  obtain rfl : a' = (i : Int) := by rw [q1] at u2; exact (Option.some.inj u2).symm
  have hil : i < t.vars.length := by have := hx.1.mem (List.mem_of_getElem? q1); omega
  obtain ⟨n', b', m', w1, w2, w3, w4, w5⟩ := hy.2.2 i hil
  obtain rfl : m = m' := by rw [p2] at w3; exact Option.some.inj w3
  rw [atI_eq] at u4
  have e : n = n' := by rw [u4] at w1; have := Option.some.inj w1; omega
  subst e
  exact ⟨j, alongL l m, z', along_get hx.1 hy.1.len q1 p1, comp_vals q1 q2 p2, by rw [atI_eq, along_get u5 w5.len hc hd], p4⟩
theorem ims_id {t : Tsk} {s : List Int} (hok : TaskOk t) (hs : StateOk t.vars s) : ImS (idX t) s s := by
  refine ⟨rfl, fun k v hk => ?_⟩
  have hkl : k < t.vars.length := by rw [← hs.1]; exact lt_of_get hk
  obtain ⟨n, hn⟩ := some_of_lt (l := t.vars) (k := k) hkl
  obtain ⟨h1, h2⟩ := hs.2 k v n hk hn
  obtain ⟨v, rfl⟩ := Int.eq_ofNat_of_zero_le h1
  obtain ⟨n, rfl⟩ := Int.eq_ofNat_of_zero_le (by omega : 0 ≤ n)
  exact ⟨k, rangeI n, v, rangeI_get hkl, by simp [idX, hn], by rw [atI_eq, rangeI_get (by omega)], hk⟩
end
section
open Go Go.RowKit
theorem long_cases (x : Swp) : m_law51_long x = some true ∨ m_law51_long x = some false := by
  obtain ⟨b, hb⟩ := long_some x
  cases b
  · exact .inr hb
  · exact .inl hb
end
section
open Go Go.RowKit
theorem states_eq {vars : List Int} (h0 : ∀ (i : Nat) n, vars[i]? = some n → 0 ≤ n ∧ n ≤ 64) (hb : ∀ k, (statesL (vars.take k)).length ≤ 1000000) (hvn : vars.length ≤ 1000) : m_base_States vars = some (statesL vars) := by
  unfold m_base_States
  rw [rng_from (fun k => statesL (vars.take k)) ?_ ?_]
  · rw [bnd_some, fin_d, List.take_length]
  · rfl
  intro k n hn
  obtain ⟨N, rfl⟩ := Int.eq_ofNat_of_zero_le (h0 k n hn).1
  have hN := (h0 k _ hn).2
  have hk := lt_of_get hn
  have hlen := hb k
  rw [rng_from (fun i => ((statesL (vars.take k)).take i).flatMap (exts N)) ?_ ?_]
  · rw [bnd_some, fin_d, List.take_length, statesL_step hn]; rfl
  · rfl
  intro i s hs
  have hsl := statesL_mem vars k (by omega) s (List.mem_of_getElem? hs)
  have hfl := grows_len N ((statesL (vars.take k)).take i)
  have hfl2 : ((statesL (vars.take k)).take i).length * N ≤ 1000000 * 64 := Nat.mul_le_mul (by rw [List.length_take]; omega) (by omega)
  rw [natI_eq, bnd_some, rngN_from (fun x => ((statesL (vars.take k)).take i).flatMap (exts N) ++ exts x s) ?_ ?_]
  · rw [bnd_some, fin_d, flat_step _ hs]
  · simp [exts]
  intro x hx
  rw [appI_eq (by simp; omega) (by simp; omega), bnd_some, appI_eq (by simp; omega) (by simp; omega), bnd_some, appI_eq (by simp only [List.length_append, exts_len, List.length_singleton]; omega) (by simp only [List.length_append, exts_len, List.length_singleton]; omega), bnd_some, exts_step]
  simp
theorem states_small {t : Tsk} (h : SmallOk t) : m_base_States t.vars = some (statesL t.vars) :=
  states_eq (fun i n hn => by have := h.ok.vars i n hn; omega) (fun k => by have := h.states k; omega) (by have := h.1; omega)
end
section
open Go Go.RowKit
/-- The state after an operator's effects. -/
def effsOn (s : List Int) : List Eff → List Int → List Int
  | [], out => out
  | e :: r, out => effsOn s r (if holdsB e.cond s = true then out.set e.var.toNat e.val else out)
theorem effsOn_append (s : List Int) : ∀ (a b : List Eff) (out : List Int), effsOn s (a ++ b) out = effsOn s b (effsOn s a out)
  | [], _, _ => rfl
  | e :: a, b, out => by simp [effsOn, effsOn_append s a b]
theorem effsOn_length (s : List Int) : ∀ (a : List Eff) (out : List Int), (effsOn s a out).length = out.length
  | [], _ => rfl
  | e :: a, out => by
    rw [effsOn, effsOn_length s a]
    split <;> simp
theorem effsOn_step (s : List Int) {l : List Eff} {k : Nat} {e : Eff} (h : l[k]? = some e) (out : List Int) : effsOn s (l.take (k + 1)) out = if holdsB e.cond s = true then (effsOn s (l.take k) out).set e.var.toNat e.val else effsOn s (l.take k) out := by
  rw [List.take_add_one, h, effsOn_append]; rfl
/-- The effects name variables of the state. -/
def EffsIn (s : List Int) (l : List Eff) : Prop := ∀ (i : Nat) e, l[i]? = some e → 0 ≤ e.var ∧ e.var < s.length
def succ (o : Opr) (s : List Int) : List Int := effsOn s o.effs s
end
section
open Go Go.RowKit
theorem TaskOk.effs {t : Tsk} (h : TaskOk t) {s : List Int} (hs : StateOk t.vars s) : ∀ (i : Nat) o, t.ops[i]? = some o → EffsIn s o.effs := fun i o ho j e he => by
  obtain ⟨h1, _, y, hy, _⟩ := ((h.2.2.2.2.2 i o ho).2.2.2.2.2 j e he).2
  refine ⟨h1, ?_⟩
  have := (List.getElem?_eq_some_iff.1 hy).1
  rw [hs.1]
  simp only at h1 this
  omega
end
section
open Go Go.RowKit
theorem holds_eq (f : List Fct) (s : List Int) : m_base_Holds f s = some (holdsB f s) := rfl
theorem effs_run {ρ : Type} {s : List Int} {effs : List Eff} (he : EffsIn s effs) (m : List Fct → List Int → Option Bool) (hm : ∀ f s, m f s = some (holdsB f s)) (u : List Int) (hu : u.length = s.length) :
    rng (ρ := ρ) (fun (_ : Nat) (e : Eff) (out : List Int) => bnd (m e.cond s) fun q => if q = true then bnd (atI out e.var) fun _ => some (.next (out.set (e.var).toNat e.val)) else some (.next out)) effs 0 u = some (.done (effsOn s effs u)) := by
  rw [rng_from (fun k => effsOn s (effs.take k) u) ?_ ?_, List.take_length]
  · rfl
  intro k e hk
  rw [hm, bnd_some, effsOn_step s hk]
  have hin := he k e hk
  have hl := effsOn_length s (effs.take k) u
  by_cases hb : holdsB e.cond s = true
  · rw [if_pos hb, if_pos hb]
    obtain ⟨j, hj⟩ := Int.eq_ofNat_of_zero_le hin.1
    rw [hj, atI_eq, List.getElem?_eq_getElem (by omega), bnd_some]
  · rw [if_neg hb, if_neg hb]
theorem apply_eq {t : Tsk} {s : List Int} {j : Nat} {o : Opr} (ho : t.ops[j]? = some o) (hp : holdsB o.pre s = true) (hl : s.length ≤ 1000000) (he : EffsIn s o.effs) : m_base_Apply t s (j : Int) = some (succ o s, true) := by
  have hj := lt_of_get ho
  unfold m_base_Apply
  rw [if_neg (by omega), if_neg (by omega), atI_eq, ho, bnd_some, holds_eq, bnd_some, hp, if_t, bnd_some, if_f, appI_eq (by simp; omega) (by simp; omega), bnd_some, bnd_some, List.nil_append, effs_run he m_base_Holds holds_eq s rfl, bnd_some, fin_d]
  rfl
theorem effsOn_ok {vars s : List Int} : ∀ (l : List Eff), (∀ e ∈ l, EffOk vars e) → ∀ (u : List Int), StateOk vars u → StateOk vars (effsOn s l u)
  | [], _, _, hu => hu
  | e :: l, he, u, hu => by
    refine effsOn_ok l (fun e' h' => he e' (List.mem_cons_of_mem _ h')) _ ?_
    split
    · obtain ⟨_, h1, h2, y, hy, h3⟩ := he e List.mem_cons_self
      refine ⟨by rw [List.length_set]; exact hu.1, fun i x n hx hn => ?_⟩
      rw [List.getElem?_set] at hx
      by_cases hi : e.var.toNat = i
      · subst hi
        rw [if_pos rfl] at hx
        split at hx
        · obtain rfl := Option.some.inj hx
          simp only at hy h2 h3
          rw [hy] at hn
          obtain rfl := Option.some.inj hn
          exact ⟨h2, h3⟩
        · cases hx
      · rw [if_neg hi] at hx
        exact hu.2 i x n hx hn
    · exact hu
theorem succ_ok {t : Tsk} (h : TaskOk t) {s : List Int} (hs : StateOk t.vars s) {k : Nat} {o : Opr} (ho : t.ops[k]? = some o) : StateOk t.vars (succ o s) :=
  effsOn_ok o.effs (fun e he => by obtain ⟨j, hj⟩ := List.getElem?_of_mem he; exact (h.2.2.2.2.2 k o ho).2.2.2.2.2 j e hj) s hs
theorem apply_all {t : Tsk} (h : TaskOk t) {s : List Int} (hs : StateOk t.vars s) {k : Nat} {o : Opr} (ho : t.ops[k]? = some o) : m_base_Apply t s (k : Int) = some (if holdsB o.pre s = true then (succ o s, true) else ([], false)) := by
  have hk := lt_of_get ho
  by_cases hp : holdsB o.pre s = true
  · rw [apply_eq ho hp (by have := hs.1; have := h.1; omega) (h.effs hs k o ho), if_pos hp]
  · unfold m_base_Apply
    rw [if_neg (by omega), if_neg (by omega), atI_eq, ho, bnd_some, holds_eq, bnd_some, if_neg hp, if_neg hp, bnd_some, if_t]
theorem flat_get {n : Nat} (hn : 0 < n) : ∀ (l : List (List Int)) (q : Nat), (l.flatMap (exts n))[q]? = (l[q / n]?).map (· ++ [((q % n : Nat) : Int)])
  | [], q => by simp
  | a :: l, q => by
    rw [List.flatMap_cons]
    by_cases hq : q < n
    · rw [List.getElem?_append_left (by rw [exts_len]; exact hq), Nat.div_eq_of_lt hq, Nat.mod_eq_of_lt hq]
      simp [exts, hq]
    · rw [List.getElem?_append_right (by rw [exts_len]; omega), exts_len, flat_get hn l (q - n)]
      obtain ⟨r, rfl⟩ : ∃ r, q = r + n := ⟨q - n, by omega⟩
      rw [Nat.add_sub_cancel, Nat.add_div_right _ hn, Nat.add_mod_right]
      simp
theorem states_inj {vars : List Int} (hv : ∀ (i : Nat) n, vars[i]? = some n → 1 ≤ n) : ∀ (k : Nat), k ≤ vars.length → ∀ (i j : Nat) (s : List Int), (statesL (vars.take k))[i]? = some s → (statesL (vars.take k))[j]? = some s → i = j
  | 0, _, i, j, s, h1, h2 => by
    have e1 := lt_of_get h1
    have e2 := lt_of_get h2
    simp [statesL] at e1 e2
    omega
  | k + 1, hk, i, j, s, h1, h2 => by
    obtain ⟨n, hn⟩ := some_of_lt (l := vars) (k := k) (by omega)
    have hn1 := hv k n hn
    rw [statesL_step hn] at h1 h2
    unfold grows at h1 h2
    rw [flat_get (by omega)] at h1 h2
    obtain ⟨p, hp, rfl⟩ := Option.map_eq_some_iff.1 h1
    obtain ⟨p', hp', e⟩ := Option.map_eq_some_iff.1 h2
    obtain ⟨e1, e2⟩ := List.append_inj' e rfl
    subst e1
    have := states_inj hv k (by omega) _ _ _ hp hp'
    have e3 : j % n.toNat = i % n.toNat := by
      have := List.singleton_inj.1 e2
      omega
    have d1 := Nat.div_add_mod i n.toNat
    have d2 := Nat.div_add_mod j n.toNat
    rw [this, ← e3] at d1
    omega
theorem states_uniq {t : Tsk} (h : TaskOk t) {i j : Nat} {s : List Int} (h1 : (statesL t.vars)[i]? = some s) (h2 : (statesL t.vars)[j]? = some s) : i = j := by
  have := states_inj (vars := t.vars) (fun i n hn => (h.vars i n hn).1) t.vars.length (Nat.le_refl _) i j s
  rw [List.take_length] at this
  exact this h1 h2
theorem rank_at {t : Tsk} (h : SmallOk t) {s : List Int} (hs : StateOk t.vars s) : ∃ i : Nat, m_base_Rank t.vars s = some (i : Int) ∧ (statesL t.vars)[i]? = some s := by
  unfold m_base_Rank
  obtain ⟨r, h1, i, rfl, h2⟩ := rng_all (ρ := Int) (f := fun (k11 : Nat) (a12 : Int) (s9 : Int) => bnd (t.vars[k11]?) fun a24 => bnd (chkI (s9 * a24)) fun n34 => bnd (chkI (n34 + a12)) fun n45 => some (.next n45)) (xs := s) (s₀ := 0) (fun k r => ∃ i : Nat, r = (i : Int) ∧ (statesL (t.vars.take k))[i]? = some (s.take k)) ⟨0, rfl, by simp [statesL]⟩ (fun k x r hk hI => by
    obtain ⟨i, rfl, hi⟩ := hI
    have hlt := lt_of_get hk
    obtain ⟨n, hn⟩ := some_of_lt (l := t.vars) (k := k) (by rw [← hs.1]; exact hlt)
    have hn1 := h.ok.vars k n hn
    obtain ⟨hx1, hx2⟩ := hs.2 k x n hk hn
    obtain ⟨x, rfl⟩ := Int.eq_ofNat_of_zero_le hx1
    obtain ⟨n, rfl⟩ := Int.eq_ofNat_of_zero_le (by omega : 0 ≤ n)
    have hget : (statesL (t.vars.take (k + 1)))[i * n + x]? = some (s.take (k + 1)) := by
      rw [statesL_step hn]
      show ((statesL (t.vars.take k)).flatMap (exts ((n : Int)).toNat))[i * n + x]? = _
      rw [show ((n : Int)).toNat = n from by omega, flat_get (by omega)]
      have e1 : (i * n + x) / n = i := by
        rw [Nat.mul_comm, Nat.mul_add_div (by omega), Nat.div_eq_of_lt (by omega)]; omega
      have e2 : (i * n + x) % n = x := by
        rw [Nat.mul_comm, Nat.mul_add_mod, Nat.mod_eq_of_lt (by omega)]
      rw [e1, e2, hi, List.take_add_one, hk]; rfl
    have hb := lt_of_get hget
    have hb2 := h.states (k + 1)
    have e3 : (i : Int) * (n : Int) = ((i * n : Nat) : Int) := by simp
    rw [hn, bnd_some, e3, chkI_eq (by unfold inI64; omega), bnd_some, chkI_eq (by unfold inI64; omega), bnd_some]
    exact ⟨_, rfl, i * n + x, by omega, hget⟩)
  rw [List.take_length, hs.1, List.take_length] at h2
  exact ⟨i, by rw [h1, bnd_some, fin_d], h2⟩
/-- A step from a state to another, both by rank. -/
def EdgeOk (t : Tsk) (e : Edg) : Prop := ∃ (i k j : Nat) (s : List Int) (o : Opr), e = ⟨i, k, j⟩ ∧ (statesL t.vars)[i]? = some s ∧ t.ops[k]? = some o ∧ holdsB o.pre s = true ∧ (statesL t.vars)[j]? = some (succ o s)
theorem edges_eq {t : Tsk} (h : SmallOk t) : ∃ es, m_base_Edges t = some es ∧ ∀ e, e ∈ es ↔ EdgeOk t e := by
  have hlen : (statesL t.vars).length ≤ 512 := by have := h.states t.vars.length; rwa [List.take_length] at this
  have hops := h.2.1
  have uniq : ∀ {i i' : Nat} {s : List Int}, (statesL t.vars)[i]? = some s → (statesL t.vars)[i']? = some s → i = i' := fun h1 h2 => states_uniq h.ok h1 h2
  unfold m_base_Edges
  rw [states_small h, bnd_some]
  obtain ⟨es, h1, h2, h3⟩ := rng_all (ρ := List Edg) (f := fun (k38 : Nat) (a39 : List Int) (s36 : (List Edg)) => bnd (rng (ρ := Ctl (List Edg) (List Edg)) (fun (k70 : Nat) (_ : Opr) (s68 : (List Edg)) => bnd (m_base_Apply t a39 (k70 : Int)) fun q85 => if q85.2 = true then (bnd (m_base_Rank t.vars q85.1) fun q99 => bnd (appI 24 s68 [(⟨(k38 : Int), (k70 : Int), q99⟩ : Edg)]) fun u107 => some (.next u107)) else (some (.next s68))) t.ops 0 s36) fun res66 => fin res66 fun (s123 : (List Edg)) => some (.next s123)) (xs := statesL t.vars) (s₀ := [])
    (fun n acc => acc.length ≤ n * 20 ∧ ∀ e, e ∈ acc ↔ EdgeOk t e ∧ e.src < (n : Int)) ⟨by simp, fun e => ⟨fun he => by simp at he, fun ⟨⟨i, _, _, _, _, hE, _⟩, hlt⟩ => by subst hE; simp only at hlt; omega⟩⟩ (fun n s acc hn hI => by
      obtain ⟨i1, i2⟩ := hI
      have hnlt := lt_of_get hn
      have hs : StateOk t.vars s := mem_statesL.1 (List.mem_of_getElem? hn)
      obtain ⟨es, g1, g2, g3⟩ := rng_all (ρ := Ctl (List Edg) (List Edg)) (f := fun (k70 : Nat) (_ : Opr) (s68 : (List Edg)) => bnd (m_base_Apply t s (k70 : Int)) fun q85 => if q85.2 = true then (bnd (m_base_Rank t.vars q85.1) fun q99 => bnd (appI 24 s68 [(⟨(n : Int), (k70 : Int), q99⟩ : Edg)]) fun u107 => some (.next u107)) else (some (.next s68))) (xs := t.ops) (s₀ := acc)
        (fun m acc' => acc'.length ≤ n * 20 + m ∧ ∀ e, e ∈ acc' ↔ EdgeOk t e ∧ (e.src < (n : Int) ∨ e.src = (n : Int) ∧ e.op < (m : Int))) ⟨by omega, fun e => by
          rw [i2]
          constructor
          · rintro ⟨a, b⟩; exact ⟨a, .inl b⟩
          · rintro ⟨a, b | ⟨b, c⟩⟩
            · exact ⟨a, b⟩
            · obtain ⟨i, k, j, s', o, rfl, _⟩ := a
              simp at c; omega⟩ (fun m o acc' hm hI => by
          obtain ⟨j1, j2⟩ := hI
          have hmlt := lt_of_get hm
          rw [apply_all h.ok hs hm, bnd_some]
          by_cases hp : holdsB o.pre s = true
          · obtain ⟨r, hr, hr2⟩ := rank_at h (succ_ok h.ok hs hm)
            rw [if_pos hp, if_t, hr, bnd_some, appI_eq (by simp; omega) (by simp; omega), bnd_some]
            refine ⟨_, rfl, by simp; omega, fun e => ?_⟩
            rw [List.mem_append, j2]
            constructor
            · rintro (⟨a, b⟩ | hmem)
              · refine ⟨a, ?_⟩
                rcases b with b | ⟨b, c⟩
                · exact .inl b
                · exact .inr ⟨b, by omega⟩
              · obtain rfl : e = ⟨(n : Int), (m : Int), (r : Int)⟩ := by simpa using hmem
                exact ⟨⟨n, m, r, s, o, rfl, hn, hm, hp, hr2⟩, .inr ⟨rfl, by simp; omega⟩⟩
            · rintro ⟨a, b⟩
              obtain ⟨i, k, j, s', o', rfl, a1, a2, a3, a4⟩ := a
              simp only at b
              by_cases hc : i = n ∧ k = m
              · obtain ⟨rfl, rfl⟩ := hc
                obtain rfl : s' = s := by rw [hn] at a1; exact (Option.some.inj a1).symm
                obtain rfl : o' = o := by rw [hm] at a2; exact (Option.some.inj a2).symm
                obtain rfl := uniq a4 hr2
                exact .inr (by simp)
              · exact .inl ⟨⟨i, k, j, s', o', rfl, a1, a2, a3, a4⟩, by simp only; omega⟩
          · rw [if_neg hp]
            refine ⟨_, if_neg (by simp), by omega, fun e => ?_⟩
            rw [j2]
            constructor
            · rintro ⟨a, b⟩
              refine ⟨a, ?_⟩
              rcases b with b | ⟨b, c⟩
              · exact .inl b
              · exact .inr ⟨b, by omega⟩
            · rintro ⟨a, b⟩
              obtain ⟨i, k, j, s', o', rfl, a1, a2, a3, a4⟩ := a
              simp only at b
              by_cases hc : i = n ∧ k = m
              · obtain ⟨rfl, rfl⟩ := hc
                obtain rfl : s' = s := by rw [hn] at a1; exact (Option.some.inj a1).symm
                obtain rfl : o' = o := by rw [hm] at a2; exact (Option.some.inj a2).symm
                exact absurd a3 hp
              · exact ⟨⟨i, k, j, s', o', rfl, a1, a2, a3, a4⟩, by simp only; omega⟩)
      rw [g1, bnd_some, fin_d]
      refine ⟨_, rfl, by omega, fun e => ?_⟩
      rw [g3]
      constructor
      · rintro ⟨a, b⟩
        exact ⟨a, by rcases b with b | ⟨b, _⟩ <;> omega⟩
      · rintro ⟨a, b⟩
        refine ⟨a, ?_⟩
        obtain ⟨i, k, j, s', o', rfl, a1, a2, a3, a4⟩ := a
        simp only at b ⊢
        have := lt_of_get a2
        omega)
  refine ⟨es, by rw [h1, bnd_some, fin_d], fun e => ?_⟩
  rw [h3]
  refine ⟨fun a => a.1, fun a => ⟨a, ?_⟩⟩
  obtain ⟨i, k, j, s', o', rfl, a1, a2, a3, a4⟩ := a
  have := lt_of_get a1
  simp only; omega
end
section
open Go Go.RowKit
/-- A way to the goal with its cost. -/
inductive Walk (t : Tsk) : List Int → Int → Prop
  | goal {s : List Int} : holdsB t.goal s = true → Walk t s 0
  | step {s : List Int} {k : Nat} {o : Opr} {c : Int} : t.ops[k]? = some o → holdsB o.pre s = true → Walk t (succ o s) c → Walk t s (c + o.cost)
def Inf : Int := 1125899906842624
theorem lop_wf {σ ρ : Type} {f : σ → Option (Ctl σ ρ)} (I : σ → Prop) (B : σ → Prop) (μ : σ → Nat) (h : ∀ s, I s → (∃ s', f s = some (.next s') ∧ I s' ∧ μ s' < μ s) ∨ (∃ s', f s = some (.brk s') ∧ B s')) : ∀ s, I s → ∃ s', lop f s = some (.done s') ∧ B s' := by
  have key : ∀ (n : Nat) s, I s → μ s < n → ∃ s', itr f n s = some (.done s') ∧ B s' := by
    intro n
    induction n with
    | zero => intro s _ h0; omega
    | succ n ih =>
      intro s hs hn
      rcases h s hs with ⟨s', h1, h2, h3⟩ | ⟨s', h1, h2⟩
      · obtain ⟨r, hr, hb⟩ := ih s' h2 (by omega)
        exact ⟨r, by simp only [itr, h1]; exact hr, hb⟩
      · exact ⟨s', by simp only [itr, h1], h2⟩
  intro s hs
  obtain ⟨r, hr, hb⟩ := key (μ s + 1) s hs (by omega)
  exact ⟨r, lop_some.2 ⟨_, hr⟩, hb⟩
def sumN : List Int → Nat
  | [] => 0
  | x :: l => x.toNat + sumN l
theorem sumN_set : ∀ (l : List Int) (i : Nat) (x y : Int), l[i]? = some x → 0 ≤ y → y < x → sumN (l.set i y) < sumN l
  | [], i, x, y, h, _, _ => by simp at h
  | a :: l, 0, x, y, h, h1, h2 => by
    obtain rfl : a = x := by simpa using h
    show y.toNat + sumN l < a.toNat + sumN l
    omega
  | a :: l, i + 1, x, y, h, h1, h2 => by
    have := sumN_set l i x y (by simpa using h) h1 h2
    show a.toNat + sumN (l.set i y) < a.toNat + sumN l
    omega
/-- What is true of distances at all times. -/
def DistI (t : Tsk) (d : List Int) : Prop := d.length = (statesL t.vars).length ∧ ∀ (i : Nat) s, (statesL t.vars)[i]? = some s → ∃ c, d[i]? = some c ∧ 0 ≤ c ∧ c ≤ Inf ∧ (c < Inf → Walk t s c) ∧ (holdsB t.goal s = true → c = 0)
/-- The distances are the least costs. -/
def DistP (t : Tsk) (d : List Int) : Prop := DistI t d ∧ ∀ (i : Nat) s c C, (statesL t.vars)[i]? = some s → d[i]? = some c → Walk t s C → c ≤ C
theorem take_mem {α : Type} {l : List α} {k : Nat} {x y : α} (h : l[k]? = some x) : y ∈ l.take (k + 1) ↔ y ∈ l.take k ∨ y = x := by
  rw [List.take_add_one, h, List.mem_append]; simp
theorem dist_eq {t : Tsk} (h : SmallOk t) : ∃ d, m_base_Distances t = some d ∧ DistP t d := by
  have hlen : (statesL t.vars).length ≤ 512 := by have := h.states t.vars.length; rwa [List.take_length] at this
  unfold m_base_Distances
  rw [states_small h, bnd_some, mkI_eq (by omega) (by omega), bnd_some]
  obtain ⟨d0, h1, h2, h3⟩ := rng_all (ρ := List Int) (f := fun (k53 : Nat) (a54 : List Int) (s51 : (List Int)) => bnd (s51[k53]?) fun _ => bnd (m_base_Holds t.goal a54) fun q91 => if q91 = true then bnd ((s51.set k53 1125899906842624)[k53]?) fun _ => some (.next ((s51.set k53 1125899906842624).set k53 0)) else some (.next (s51.set k53 1125899906842624))) (xs := statesL t.vars) (s₀ := List.replicate (statesL t.vars).length 0)
    (fun n d => d.length = (statesL t.vars).length ∧ ∀ (i : Nat) s, i < n → (statesL t.vars)[i]? = some s → d[i]? = some (if holdsB t.goal s = true then 0 else Inf)) ⟨by simp, fun i s hi => by omega⟩ (fun n s d hn hI => by
      obtain ⟨i1, i2⟩ := hI
      have hlt := lt_of_get hn
      obtain ⟨u, hu⟩ := some_of_lt (l := d) (k := n) (by omega)
      rw [hu, bnd_some, holds_eq, bnd_some]
      by_cases hg : holdsB t.goal s = true
      · rw [if_pos hg, List.getElem?_set_self (by omega), bnd_some]
        refine ⟨_, rfl, by simpa using i1, fun i s' hi hs' => ?_⟩
        by_cases e : i = n
        · subst e
          obtain rfl : s' = s := by rw [hn] at hs'; exact (Option.some.inj hs').symm
          rw [List.getElem?_set_self (by simp; omega), if_pos hg]
        · rw [List.getElem?_set_ne (by omega), List.getElem?_set_ne (by omega)]
          exact i2 i s' (by omega) hs'
      · rw [if_neg hg]
        refine ⟨_, rfl, by simpa using i1, fun i s' hi hs' => ?_⟩
        by_cases e : i = n
        · subst e
          obtain rfl : s' = s := by rw [hn] at hs'; exact (Option.some.inj hs').symm
          rw [List.getElem?_set_self (by omega), if_neg hg]; rfl
        · rw [List.getElem?_set_ne (by omega)]
          exact i2 i s' (by omega) hs')
  obtain ⟨es, he, hes⟩ := edges_eq h
  rw [h1, bnd_some, fin_d, he, bnd_some]
  have hd0 : DistI t d0 := ⟨h2, fun i s hi => by
    refine ⟨_, h3 i s (lt_of_get hi) hi, ?_⟩
    by_cases hg : holdsB t.goal s = true
    · rw [if_pos hg]; exact ⟨by omega, by unfold Inf; omega, fun _ => .goal hg, fun _ => rfl⟩
    · rw [if_neg hg]; exact ⟨by unfold Inf; omega, by omega, fun hh => absurd hh (by omega), fun hh => absurd hh hg⟩⟩
  -- one pass over the edges
  have pass : ∀ d, DistI t d → ∃ (d' : List Int) (b : Bool), rng (ρ := Ctl ((List Int) × Bool) (List Int)) (fun (_ : Nat) (a152 : Edg) (s149 : (List Int) × Bool) => bnd (atI t.ops a152.op) fun a183 => bnd (bnd (atI s149.1 a152.dst) fun a208 => if a208 < 1125899906842624 then (bnd (atI s149.1 a152.dst) fun a221 => bnd (chkI (a221 + a183.cost)) fun n233 => bnd (atI s149.1 a152.src) fun a236 => if n233 < a236 then (some true) else (some false)) else (some false) : Option Bool) fun y204 => if y204 = true then (bnd (atI s149.1 a152.dst) fun a254 => bnd (chkI (a254 + a183.cost)) fun n266 => bnd (atI s149.1 a152.src) fun _ => some (.next ((s149.1.set (a152.src).toNat n266), true))) else (some (.next (s149.1, s149.2)))) es 0 (d, false) = some (.done (d', b)) ∧ DistI t d' ∧ (b = true → sumN d' < sumN d) ∧ (b = false → d' = d ∧ ∀ e ∈ es, ∀ (i k j : Nat) o x y, e = ⟨i, k, j⟩ → t.ops[k]? = some o → d[i]? = some x → d[j]? = some y → y < Inf → x ≤ y + o.cost) := by
    intro d hd
    obtain ⟨⟨d', b⟩, g1, g2, g3, g4⟩ := rng_all (ρ := Ctl ((List Int) × Bool) (List Int)) (f := fun (_ : Nat) (a152 : Edg) (s149 : (List Int) × Bool) => bnd (atI t.ops a152.op) fun a183 => bnd (bnd (atI s149.1 a152.dst) fun a208 => if a208 < 1125899906842624 then (bnd (atI s149.1 a152.dst) fun a221 => bnd (chkI (a221 + a183.cost)) fun n233 => bnd (atI s149.1 a152.src) fun a236 => if n233 < a236 then (some true) else (some false)) else (some false) : Option Bool) fun y204 => if y204 = true then (bnd (atI s149.1 a152.dst) fun a254 => bnd (chkI (a254 + a183.cost)) fun n266 => bnd (atI s149.1 a152.src) fun _ => some (.next ((s149.1.set (a152.src).toNat n266), true))) else (some (.next (s149.1, s149.2)))) (xs := es) (s₀ := (d, false))
      (fun m r => DistI t r.1 ∧ (r.2 = true → sumN r.1 < sumN d) ∧ (r.2 = false → r.1 = d ∧ ∀ e ∈ es.take m, ∀ (i k j : Nat) o x y, e = ⟨i, k, j⟩ → t.ops[k]? = some o → d[i]? = some x → d[j]? = some y → y < Inf → x ≤ y + o.cost)) ⟨hd, fun hh => by simp at hh, fun _ => ⟨rfl, fun e he => by simp at he⟩⟩ (fun m e r hm hI => by
        obtain ⟨i1, i2, i3⟩ := hI
        obtain ⟨r1, r2⟩ := r
        simp only at i1 i2 i3
        obtain ⟨i, k, j, s, o, rfl, a1, a2, a3, a4⟩ := (hes e).1 (List.mem_of_getElem? hm)
        obtain ⟨x, x1, x2, x3, x4, x5⟩ := i1.2 i s a1
        obtain ⟨y, y1, y2, y3, y4, y5⟩ := i1.2 j _ a4
        have hco := h.ok.2.2.2.2.2 k o a2
        have hc1 := hco.1
        have hc2 := hco.2.1
        simp only
        rw [atI_eq, a2, bnd_some, atI_eq, y1, bnd_some, atI_eq, x1]
        have keep : ∀ (hx : y < Inf → x ≤ y + o.cost), DistI t r1 ∧ (r2 = true → sumN r1 < sumN d) ∧ (r2 = false → r1 = d ∧ ∀ e ∈ es.take (m + 1), ∀ (i k j : Nat) o x y, e = ⟨i, k, j⟩ → t.ops[k]? = some o → d[i]? = some x → d[j]? = some y → y < Inf → x ≤ y + o.cost) := fun hx => by
          refine ⟨i1, i2, fun hf => ⟨(i3 hf).1, fun e' he' => ?_⟩⟩
          obtain ⟨e1, e2⟩ := i3 hf
          rcases (take_mem hm).1 he' with hh | rfl
          · exact e2 e' hh
          · intro i' k' j' o' x' y' hE ho' hx' hy' hlt
            injection hE with h1 h2 h3
            obtain rfl : i = i' := by omega
            obtain rfl : k = k' := by omega
            obtain rfl : j = j' := by omega
            obtain rfl : o = o' := by rw [a2] at ho'; exact Option.some.inj ho'
            rw [← e1, x1] at hx'
            rw [← e1, y1] at hy'
            obtain rfl := Option.some.inj hx'
            obtain rfl := Option.some.inj hy'
            exact hx hlt
        by_cases hy : y < 1125899906842624
        · rw [if_pos hy, bnd_some, chkI_eq (by unfold inI64; unfold Inf at *; omega), bnd_some, bnd_some]
          by_cases hx : y + o.cost < x
          · rw [if_pos hx, bnd_some, if_t, bnd_some, chkI_eq (by unfold inI64; unfold Inf at *; omega), bnd_some, bnd_some]
            refine ⟨_, rfl, ⟨by simpa using i1.1, fun i' s' hs' => ?_⟩, fun _ => ?_, fun hh => by simp at hh⟩
            · show ∃ c, (r1.set ((i : Int)).toNat (y + o.cost))[i']? = some c ∧ _
              rw [show ((i : Int)).toNat = i from by omega]
              by_cases e : i = i'
              · subst e
                obtain rfl : s = s' := by rw [a1] at hs'; exact Option.some.inj hs'
                refine ⟨_, by rw [List.getElem?_set_self (lt_of_get x1)], by omega, by omega, fun _ => .step a2 a3 (y4 hy), fun hg => ?_⟩
                have := x5 hg; omega
              · rw [List.getElem?_set_ne e]; exact i1.2 i' s' hs'
            · show sumN (r1.set ((i : Int)).toNat (y + o.cost)) < _
              rw [show ((i : Int)).toNat = i from by omega]
              have hlt := sumN_set r1 i x (y + o.cost) x1 (by omega) hx
              cases hr : r2 with
              | true => have := i2 hr; omega
              | false => rw [(i3 hr).1] at hlt; rwa [(i3 hr).1]
          · rw [if_neg hx, bnd_some, if_f]
            exact ⟨_, rfl, keep fun _ => by omega⟩
        · rw [if_neg hy, bnd_some, if_f]
          exact ⟨_, rfl, keep fun hh => absurd hh hy⟩)
    refine ⟨d', b, g1, g2, g3, fun hb => ?_⟩
    obtain ⟨e1, e2⟩ := g4 hb
    rw [List.take_length] at e2
    exact ⟨e1, e2⟩
  obtain ⟨⟨d, b⟩, l1, l2, l3⟩ := lop_wf (ρ := List Int) (f := fun (s127 : (List Int) × Bool) => if s127.2 = true then (bnd (rng (ρ := Ctl ((List Int) × Bool) (List Int)) (fun (_ : Nat) (a152 : Edg) (s149 : (List Int) × Bool) => bnd (atI t.ops a152.op) fun a183 => bnd (bnd (atI s149.1 a152.dst) fun a208 => if a208 < 1125899906842624 then (bnd (atI s149.1 a152.dst) fun a221 => bnd (chkI (a221 + a183.cost)) fun n233 => bnd (atI s149.1 a152.src) fun a236 => if n233 < a236 then (some true) else (some false)) else (some false) : Option Bool) fun y204 => if y204 = true then (bnd (atI s149.1 a152.dst) fun a254 => bnd (chkI (a254 + a183.cost)) fun n266 => bnd (atI s149.1 a152.src) fun _ => some (.next ((s149.1.set (a152.src).toNat n266), true))) else (some (.next (s149.1, s149.2)))) es 0 (s127.1, false)) fun res147 => fin res147 fun (s287 : (List Int) × Bool) => some (.next (s287.1, s287.2))) else (some (.brk (s127.1, s127.2))))
    (fun r => DistI t r.1 ∧ (r.2 = false → ∀ e ∈ es, ∀ (i k j : Nat) o x y, e = ⟨i, k, j⟩ → t.ops[k]? = some o → r.1[i]? = some x → r.1[j]? = some y → y < Inf → x ≤ y + o.cost)) (fun r => DistI t r.1 ∧ ∀ e ∈ es, ∀ (i k j : Nat) o x y, e = ⟨i, k, j⟩ → t.ops[k]? = some o → r.1[i]? = some x → r.1[j]? = some y → y < Inf → x ≤ y + o.cost) (fun r => 2 * sumN r.1 + if r.2 = true then 1 else 0) (fun r hr => by
      obtain ⟨r1, r2⟩ := r
      obtain ⟨i1, i2⟩ := hr
      cases r2 with
      | true =>
        obtain ⟨d', b, p1, p2, p3, p4⟩ := pass r1 i1
        refine .inl ⟨(d', b), ?_, ⟨p2, fun hb => ?_⟩, ?_⟩
        · simp only [if_true]
          rw [p1, bnd_some, fin_d]
        · obtain ⟨e1, e2⟩ := p4 hb
          show ∀ e ∈ es, _
          intro e he i k j o x y hE ho hx hy
          simp only at hx hy
          rw [e1] at hx hy
          exact e2 e he i k j o x y hE ho hx hy
        · cases b with
          | true => have := p3 rfl; simp; omega
          | false => rw [(p4 rfl).1]; simp
      | false => exact .inr ⟨(r1, false), by simp, i1, i2 rfl⟩) (d0, true) ⟨hd0, fun hh => by simp at hh⟩
  refine ⟨d, by rw [l1, bnd_some, fin_d], l2, fun i s c C hi hc hw => ?_⟩
  induction hw generalizing i c with
  | goal hg =>
    obtain ⟨c', q1, _, _, _, q5⟩ := l2.2 i _ hi
    rw [hc] at q1
    obtain rfl := Option.some.inj q1
    have := q5 hg; omega
  | @step s k o C' ho hp hw ih =>
    have hs : StateOk t.vars s := mem_statesL.1 (List.mem_of_getElem? hi)
    obtain ⟨j, _, hj⟩ := rank_at h (succ_ok h.ok hs ho)
    obtain ⟨y, y1, y2, y3, y4, y5⟩ := l2.2 j _ hj
    have h5 := ih j y hj y1
    obtain ⟨x, x1, x2, x3, x4, x5⟩ := l2.2 i s hi
    rw [x1] at hc
    obtain rfl := Option.some.inj hc
    have hco := (h.ok.2.2.2.2.2 k o ho).1
    by_cases hy : y < Inf
    · have := l3 ⟨i, k, j⟩ ((hes _).2 ⟨i, k, j, s, o, rfl, hi, ho, hp, hj⟩) i k j o x y rfl ho x1 y1 hy
      omega
    · omega
end
section
open Go Go.RowKit
theorem hasB_iff {s : List Int} {v u : Nat} : hasB s ⟨v, u⟩ = true ↔ s[v]? = some (u : Int) := by
  unfold hasB
  simp
theorem has_im {t : Tsk} {x : Swp} {f : Fct} {s a : List Int} (hok : TaskOk t) (hp : FactsPerm t x) (hf : FactOk t.vars f) (hs : StateOk t.vars s) (ha : ImS x s a) : hasB a (imF x f) = hasB s f := by
  obtain ⟨v, u, n, b, z, l, rfl, h1, h2, h3, hu, h4, h5, h6, h7, h8, h9, h10, e⟩ := fact_cases hok hp hf
  rw [e, Bool.eq_iff_iff, hasB_iff, hasB_iff]
  obtain ⟨y, hy⟩ := some_of_lt (l := s) (k := v) (by rw [hs.1]; exact h1)
  obtain ⟨b', l', z', q1, q2, q3, q4⟩ := ha.2 v y hy
  obtain rfl : b = b' := by rw [h4] at q1; have := Option.some.inj q1; omega
  obtain rfl : l = l' := by rw [h5] at q2; exact Option.some.inj q2
  obtain ⟨y, rfl, hy2⟩ := atI_some q3
  rw [q4, hy]
  constructor
  · intro hz
    rw [Option.some.inj hz] at hy2
    rw [perm_inj h6 hy2 h7]
  · intro hz
    have : y = u := by have := Option.some.inj hz; omega
    subst this
    rw [h7] at hy2
    exact hy2.symm
theorem holds_im {t : Tsk} {x : Swp} {fs : List Fct} {s a : List Int} (hok : TaskOk t) (hp : FactsPerm t x) (hf : FactsOk t.vars fs) (hs : StateOk t.vars s) (ha : ImS x s a) : holdsB (imL x fs) a = holdsB fs s := by
  unfold holdsB imL
  rw [Bool.eq_iff_iff, List.all_eq_true, List.all_eq_true]
  constructor
  · intro h f hf'
    rw [← has_im hok hp ((facts_pw hf).1 f hf') hs ha]
    exact h _ ((srtF_perm _).mem_iff.2 (List.mem_map.2 ⟨f, hf', rfl⟩))
  · intro h g hg
    obtain ⟨f, hf', rfl⟩ := List.mem_map.1 ((srtF_perm _).mem_iff.1 hg)
    rw [has_im hok hp ((facts_pw hf).1 f hf') hs ha]
    exact h f hf'
theorem ims_set {t : Tsk} {x : Swp} {f : Fct} {u b : List Int} (hok : TaskOk t) (hp : FactsPerm t x) (hf : FactOk t.vars f) (hu : u.length = t.vars.length) (hb : ImS x u b) : ImS x (u.set f.var.toNat f.val) (b.set (imF x f).var.toNat (imF x f).val) := by
  obtain ⟨v, y, n, c, z, l, rfl, h1, h2, h3, hy, h4, h5, h6, h7, h8, h9, h10, e⟩ := fact_cases hok hp hf
  rw [e]
  simp only [Int.toNat_natCast]
  refine ⟨by simp [hb.1], fun k w hk => ?_⟩
  rw [List.getElem?_set] at hk
  by_cases hvk : v = k
  · subst hvk
    rw [if_pos rfl, if_pos (by omega)] at hk
    obtain rfl := Option.some.inj hk
    exact ⟨c, l, z, h4, h5, by rw [atI_eq, h7], by rw [List.getElem?_set_self (by rw [hb.1]; omega)]⟩
  · rw [if_neg hvk] at hk
    obtain ⟨c', l', z', q1, q2, q3, q4⟩ := hb.2 k w hk
    refine ⟨c', l', z', q1, q2, q3, ?_⟩
    rw [List.getElem?_set_ne (fun ec => hvk ?_), q4]
    subst ec
    exact perm_inj hp.1 h4 q1
theorem ims_effs {t : Tsk} {x : Swp} {s a : List Int} (hok : TaskOk t) (hp : FactsPerm t x) (hs : StateOk t.vars s) (ha : ImS x s a) : ∀ (l : List Eff), (∀ e ∈ l, EffOk t.vars e) → ∀ (u b : List Int), u.length = t.vars.length → ImS x u b → ImS x (effsOn s l u) (effsOn a (l.map (imE x)) b)
  | [], _, _, _, _, hb => hb
  | e :: l, he, u, b, hu, hb => by
    obtain ⟨h1, h2⟩ := he e List.mem_cons_self
    rw [List.map_cons]
    unfold effsOn
    have hc : holdsB (imE x e).cond a = holdsB e.cond s := holds_im hok hp h1 hs ha
    rw [hc]
    by_cases hh : holdsB e.cond s = true
    · rw [if_pos hh, if_pos hh]
      exact ims_effs hok hp hs ha l (fun e' h' => he e' (List.mem_cons_of_mem _ h')) _ _ (by simp [hu]) (ims_set hok hp h2 hu hb)
    · rw [if_neg hh, if_neg hh]
      exact ims_effs hok hp hs ha l (fun e' h' => he e' (List.mem_cons_of_mem _ h')) _ _ hu hb
/-- A step and its image. -/
theorem step_im {t : Tsk} {x : Swp} {s a : List Int} {k b : Nat} {o p : Opr} (hok : TaskOk t) (hx : SymP t x) (hs : StateOk t.vars s) (ha : ImS x s a) (ho : t.ops[k]? = some o) (hk : x.ops[k]? = some (b : Int)) (hb : t.ops[b]? = some p) :
    holdsB p.pre a = holdsB o.pre s ∧ ImS x (succ o s) (succ p a) ∧ p.cost = o.cost := by
  obtain ⟨o', p', b', h1, h2, _, h3, h4, h5, h6⟩ := ops_cases hx (lt_of_get ho)
  obtain rfl : o = o' := by rw [ho] at h1; exact Option.some.inj h1
  obtain rfl : b = b' := by rw [hk] at h2; have := Option.some.inj h2; omega
  obtain rfl : p = p' := by rw [hb] at h3; exact Option.some.inj h3
  have hoo := hok.2.2.2.2.2 k o ho
  refine ⟨by rw [← h5]; exact holds_im hok hx.1 hoo.2.2.2.2.1 hs ha, ?_, h4.symm⟩
  unfold succ
  rw [← h6]
  exact ims_effs hok hx.1 hs ha o.effs (effs_ok hoo) s a hs.1 ha
theorem walk_im {t : Tsk} {x : Swp} (hok : TaskOk t) (hx : SymP t x) {s : List Int} {C : Int} (hw : Walk t s C) : ∀ {a : List Int}, StateOk t.vars s → ImS x s a → Walk t a C := by
  induction hw with
  | goal hg =>
    intro a hs ha
    refine .goal ?_
    have := holds_im hok hx.1 hok.2.2.2.2.1 hs ha
    rw [hx.2.2.1] at this
    rw [this]; exact hg
  | @step s k o C ho hp hw ih =>
    intro a hs ha
    obtain ⟨o', p, b, h1, h2, hb, h3, _⟩ := ops_cases hx (lt_of_get ho)
    obtain ⟨g1, g2, g3⟩ := step_im hok hx hs ha ho h2 h3
    have := ih (succ_ok hok hs ho) g2
    rw [← g3]
    exact .step h3 (by rw [g1]; exact hp) this
theorem ims_back {t : Tsk} {x : Swp} {s a : List Int} (hok : TaskOk t) (hx : SymP t x) (hs : StateOk t.vars s) (ha : ImS x s a) : ImS (invX x) a s := by
  have hi := inv_sym hok hx
  obtain ⟨r, _, hr⟩ := moved_eq hok hi.1 (ims_ok hx.1 hs ha)
  have := ims_comp hx.1 hi.1 hs ha hr
  rw [comp_inv hok hx] at this
  rwa [ims_uniq (id_perm hok) hs.1 this (ims_id hok hs)] at hr
/-- A state and its image have the same distance. -/
theorem dist_im {t : Tsk} {x : Swp} {d : List Int} {s a : List Int} {i j : Nat} {c c' : Int} (hok : TaskOk t) (hx : SymP t x) (hd : DistP t d) (hs : StateOk t.vars s) (ha : ImS x s a) (hi : (statesL t.vars)[i]? = some s) (hj : (statesL t.vars)[j]? = some a) (h1 : d[i]? = some c) (h2 : d[j]? = some c') : c = c' := by
  obtain ⟨u, u1, u2, u3, u4, _⟩ := hd.1.2 i s hi
  obtain rfl : u = c := by rw [h1] at u1; exact (Option.some.inj u1).symm
  obtain ⟨w, w1, w2, w3, w4, _⟩ := hd.1.2 j a hj
  obtain rfl : w = c' := by rw [h2] at w1; exact (Option.some.inj w1).symm
  have le1 : w ≤ u := by
    by_cases hu : u < Inf
    · exact hd.2 j a w u hj h2 (walk_im hok hx (u4 hu) hs ha)
    · omega
  have le2 : u ≤ w := by
    by_cases hw : w < Inf
    · exact hd.2 i s u w hi h1 (walk_im hok (inv_sym hok hx) (w4 hw) (ims_ok hx.1 hs ha) (ims_back hok hx hs ha))
    · omega
  omega
end
section
section
variable {α σ ρ β : Type}
theorem lop_wf' {f : σ → Option (Ctl σ ρ)} (I : σ → Prop) (B : σ → Prop) (R : ρ → Prop) (μ : σ → Nat) (h : ∀ s, I s → (∃ s', f s = some (.next s') ∧ I s' ∧ μ s' < μ s) ∨ (∃ s', f s = some (.brk s') ∧ B s') ∨ ∃ r, f s = some (.ret r) ∧ R r) :
    ∀ s, I s → (∃ s', lop f s = some (.done s') ∧ B s') ∨ ∃ r, lop f s = some (.ret r) ∧ R r := by
  have key : ∀ (n : Nat) s, I s → μ s < n → (∃ s', lop f s = some (.done s') ∧ B s') ∨ ∃ r, lop f s = some (.ret r) ∧ R r := by
    intro n
    induction n with
    | zero => intro s _ hn; omega
    | succ n ih =>
      intro s hI hn
      rw [lop_eq]
      rcases h s hI with ⟨s', h1, h2, h3⟩ | ⟨s', h1, h2⟩ | ⟨r, h1, h2⟩
      · rw [h1]; exact ih s' h2 (by omega)
      · rw [h1]; exact .inl ⟨s', rfl, h2⟩
      · rw [h1]; exact .inr ⟨r, rfl, h2⟩
  exact fun s hI => key (μ s + 1) s hI (by omega)
/-- A loop, and what is said of what comes behind it. -/
theorem lop_ex {f : σ → Option (Ctl σ ρ)} {s₀ : σ} {k : Fin σ ρ → Option β} {P : β → Prop} (I : σ → Prop) (B : σ → Prop) (R : ρ → Prop) (μ : σ → Nat) (h0 : I s₀)
    (h : ∀ s, I s → (∃ s', f s = some (.next s') ∧ I s' ∧ μ s' < μ s) ∨ (∃ s', f s = some (.brk s') ∧ B s') ∨ ∃ r, f s = some (.ret r) ∧ R r)
    (hb : ∀ s, B s → ∃ r, k (.done s) = some r ∧ P r) (hr : ∀ q, R q → ∃ r, k (.ret q) = some r ∧ P r) : ∃ r, bnd (lop f s₀) k = some r ∧ P r := by
  rcases lop_wf' I B R μ h s₀ h0 with ⟨s, h1, h2⟩ | ⟨q, h1, h2⟩
  · rw [h1, bnd_some]; exact hb s h2
  · rw [h1, bnd_some]; exact hr q h2
theorem rng_ex {f : Nat → α → σ → Option (Ctl σ ρ)} {xs : List α} {s₀ : σ} {k : Fin σ ρ → Option β} {P : β → Prop} (I : Nat → σ → Prop) (R : ρ → Prop) (h0 : I 0 s₀)
    (h : ∀ i x s, xs[i]? = some x → I i s → (∃ s', f i x s = some (.next s') ∧ I (i + 1) s') ∨ ∃ q, f i x s = some (.ret q) ∧ R q)
    (hb : ∀ s, I xs.length s → ∃ r, k (.done s) = some r ∧ P r) (hr : ∀ q, R q → ∃ r, k (.ret q) = some r ∧ P r) : ∃ r, bnd (rng f xs 0 s₀) k = some r ∧ P r := by
  have key : ∀ (ys : List α) (j : Nat) (s : σ), (∀ i, ys[i]? = xs[j + i]?) → j + ys.length = xs.length → I j s → ∃ r, bnd (rng f ys j s) k = some r ∧ P r := by
    intro ys
    induction ys with
    | nil => intro j s _ hl hI; exact hb s (by simp at hl; rw [← hl]; exact hI)
    | cons y ys ih =>
      intro j s hg hl hI
      have hy : xs[j]? = some y := by have := hg 0; simpa using this.symm
      simp only [rng]
      rcases h j y s hy hI with ⟨s', h1, h2⟩ | ⟨q, h1, h2⟩
      · rw [h1]
        exact ih (j + 1) s' (fun i => by have := hg (i + 1); rw [show j + 1 + i = j + (i + 1) from by omega, ← this]; simp) (by simp at hl; omega) h2
      · rw [h1, bnd_some]; exact hr q h2
  exact key xs 0 s₀ (fun i => by rw [Nat.zero_add]) (by omega) h0
theorem rng_bnd {f : Nat → α → σ → Option (Ctl σ ρ)} {xs : List α} {s₀ : σ} {k : Fin σ ρ → Option β} {r : Option β} (I : Nat → σ → Prop) (h0 : I 0 s₀)
    (h : ∀ i x s, xs[i]? = some x → I i s → ∃ s', f i x s = some (.next s') ∧ I (i + 1) s') (hb : ∀ s, I xs.length s → k (.done s) = r) : bnd (rng f xs 0 s₀) k = r := by
  obtain ⟨s, h1, h2⟩ := rng_all I h0 h
  rw [h1, bnd_some]
  exact hb s h2
end
end
section
open Go Go.RowKit
theorem cmpI_eq (a b : Int) : m_cmp_Compare_int a b = some (Lib.compareInt a b) := by
  unfold m_cmp_Compare_int m_cmp_isNaN_int
  rcases ci_cases a b with ⟨h1, h2⟩ | ⟨h1, h2⟩ | ⟨h1, h2⟩
  · simp [bnd, h1, h2]
  · subst h1; simp [bnd, h2]
  · have : ¬ a < b := by omega
    simp [bnd, h1, h2, this]
theorem cmpL_eq (xs ys : List Int) : m_slices_Compare_Lint_int xs ys = some (cfL xs ys) := by
  have : ∃ r, m_slices_Compare_Lint_int xs ys = some r ∧ r = cfL xs ys := by
    unfold m_slices_Compare_Lint_int
    refine rng_ex (fun m _ => m ≤ ys.length ∧ cfL xs ys = cfL (xs.drop m) (ys.drop m)) (fun r => r = cfL xs ys) ⟨Nat.zero_le _, rfl⟩ ?_ ?_ (fun q hq => ⟨_, rfl, hq⟩)
    · rintro m x _ hx ⟨h1, h2⟩
      by_cases hge : (ys.length : Int) ≤ (m : Int)
      · rw [if_pos hge]
        refine .inr ⟨_, rfl, ?_⟩
        rw [h2, drop_nil (l := ys) (by omega), List.drop_eq_getElem_cons (lt_of_get hx)]
        rfl
      · rw [if_neg hge]
        obtain ⟨y, hy⟩ := some_lt (l := ys) (k := m) (by omega)
        have hst := cfL_step hx hy
        rw [hy, bnd_some, cmpI_eq, bnd_some]
        by_cases hc : Lib.compareInt x y ≠ 0
        · rw [if_pos hc]
          rw [if_pos hc] at hst
          exact .inr ⟨_, rfl, by rw [h2, hst]⟩
        · rw [if_neg hc]
          rw [if_neg hc] at hst
          exact .inl ⟨(), rfl, by omega, by rw [h2, hst]⟩
    · rintro _ ⟨h1, h2⟩
      rw [fin_d]
      rw [List.drop_length] at h2
      by_cases hll : (xs.length : Int) < (ys.length : Int)
      · rw [if_pos hll]
        refine ⟨_, rfl, ?_⟩
        rw [h2, List.drop_eq_getElem_cons (l := ys) (i := xs.length) (by omega)]
        rfl
      · rw [if_neg hll]
        refine ⟨_, rfl, ?_⟩
        rw [h2, drop_nil (l := ys) (by omega)]
        rfl
  obtain ⟨r, h1, h2⟩ := this
  rw [h1, h2]
theorem less_eq {xs ys : List Int} (hl : xs.length = ys.length) : m_ref51_less xs ys = some (decide (cfL xs ys < 0)) := by
  have : ∃ r, m_ref51_less xs ys = some r ∧ r = decide (cfL xs ys < 0) := by
    unfold m_ref51_less
    refine rng_ex (fun m _ => cfL xs ys = cfL (xs.drop m) (ys.drop m)) (fun r => r = decide (cfL xs ys < 0)) rfl ?_ ?_ (fun q hq => ⟨_, rfl, hq⟩)
    · rintro m x _ hx h2
      obtain ⟨y, hy⟩ := some_lt (l := ys) (k := m) (by have := lt_of_get hx; omega)
      have hst := cfL_step hx hy
      rw [hy, bnd_some]
      rcases ci_cases x y with ⟨p1, p2⟩ | ⟨p1, p2⟩ | ⟨p1, p2⟩
      · rw [if_pos (by omega), bnd_some, if_pos p1, bnd_some]
        rw [p2] at hst
        exact .inr ⟨_, rfl, by rw [h2, hst]; rfl⟩
      · rw [if_neg (by omega)]
        rw [p2] at hst
        exact .inl ⟨(), rfl, by rw [h2, hst]; rfl⟩
      · rw [if_pos (by omega), bnd_some, if_neg (by omega), bnd_some]
        rw [p2] at hst
        exact .inr ⟨_, rfl, by rw [h2, hst]; rfl⟩
    · intro _ h2
      refine ⟨_, rfl, ?_⟩
      rw [List.drop_length, drop_nil (l := ys) (by omega)] at h2
      rw [h2]; rfl
  obtain ⟨r, h1, h2⟩ := this
  rw [h1, h2]
/-- A state's text. -/
def txt (s : List Int) : ByteArray := strB (s.map bw)
theorem text_eq {s : List Int} (hl : s.length ≤ 1000000) : m_symmetry_text s = some (txt s) := by
  unfold m_symmetry_text
  rw [mkI_eq (by omega) (by omega), bnd_some]
  refine rng_bnd (fun m l => l.length = s.length ∧ ∀ (i : Nat) x, i < m → s[i]? = some x → l[i]? = some (bw x)) ⟨by simp, fun i x hi => by omega⟩ ?_ ?_
  · rintro m x l hx ⟨h1, h2⟩
    have hm := lt_of_get hx
    obtain ⟨u, hu⟩ := some_lt (l := l) (k := m) (by omega)
    rw [hu, bnd_some]
    refine ⟨_, rfl, by simpa using h1, fun i y hi hy => ?_⟩
    by_cases e : i = m
    · subst e
      rw [hx] at hy
      rw [List.getElem?_set_self (by omega), Option.some.inj hy]
    · rw [List.getElem?_set_ne (by omega)]
      exact h2 i y (by omega) hy
  · rintro l ⟨h1, h2⟩
    have hls : l = s.map bw := by
      apply List.ext_getElem?
      intro i
      rw [List.getElem?_map]
      rcases Nat.lt_or_ge i s.length with hi | hi
      · obtain ⟨x, hx⟩ := some_lt (l := s) (k := i) hi
        rw [hx, h2 i x hi hx]; rfl
      · rw [List.getElem?_eq_none (by omega), List.getElem?_eq_none hi]; rfl
    subst hls
    rw [fin_d, strI_eq (by simp; omega), bnd_some]
    rfl
end
section
open Go Go.RowKit
noncomputable def imS (x : Swp) (s : List Int) : List Int := (m_symmetry_moved x s).getD []
theorem imS_eq {t : Tsk} {x : Swp} {s : List Int} (hok : TaskOk t) (hp : FactsPerm t x) (hs : StateOk t.vars s) : m_symmetry_moved x s = some (imS x s) ∧ ImS x s (imS x s) ∧ StateOk t.vars (imS x s) := by
  obtain ⟨r, h1, h2⟩ := moved_eq hok hp hs
  have : imS x s = r := by unfold imS; rw [h1]; rfl
  rw [this]
  exact ⟨h1, h2, ims_ok hp hs h2⟩
/-- How many states lie below. -/
def muL (vars s : List Int) : Nat := ((statesL vars).filter fun x => decide (cfL x s < 0)).length
theorem filter_lt {α : Type} {p q : α → Bool} : ∀ {l : List α}, (∀ x ∈ l, p x = true → q x = true) → (∃ x ∈ l, q x = true ∧ p x = false) → (l.filter p).length < (l.filter q).length
  | [], _, h => by obtain ⟨x, hx, _⟩ := h; cases hx
  | y :: l, hsub, ⟨x, hx, h1, h2⟩ => by
    have hle : (l.filter p).length ≤ (l.filter q).length := by
      clear hx
      induction l with
      | nil => simp
      | cons z l ih =>
        have ihh := ih fun a ha => hsub a (by rcases List.mem_cons.1 ha with rfl | ha; exact List.mem_cons_self; exact List.mem_cons_of_mem _ (List.mem_cons_of_mem _ ha))
        have hz := hsub z (List.mem_cons_of_mem _ List.mem_cons_self)
        rw [List.filter_cons, List.filter_cons]
        cases hp : p z with
        | true => rw [hz hp]; simp; omega
        | false => cases q z <;> simp <;> omega
    rw [List.filter_cons, List.filter_cons]
    rcases List.mem_cons.1 hx with rfl | hx
    · rw [h1, h2]; simp; omega
    · have ih := filter_lt (l := l) (fun a ha => hsub a (List.mem_cons_of_mem _ ha)) ⟨x, hx, h1, h2⟩
      have hy := hsub y List.mem_cons_self
      cases hp : p y with
      | true => rw [hy hp]; simp; omega
      | false => cases q y <;> simp <;> omega
theorem muL_lt {vars s r : List Int} (hr : StateOk vars r) (h : cfL r s < 0) : muL vars r < muL vars s := by
  refine filter_lt (fun x _ hx => ?_) ⟨r, mem_statesL.2 hr, by simpa using h, by rw [cfL_self]; simp⟩
  simp at hx ⊢
  have h3 := cfL_trans (Int.le_of_lt hx) (Int.le_of_lt h)
  rcases Int.lt_or_eq_of_le h3 with h4 | h4
  · exact h4
  · exfalso
    have := cfL_eq h4
    rw [← this, cfL_neg] at h
    omega
noncomputable def canF (x1 : List Swp) : (List Int) × (List Int) × Int → Option (Ctl ((List Int) × (List Int) × Int) ((List Int) × (List Int) × Err)) :=
  fun (s58 : (List Int) × (List Int) × Int) => if s58.2.2 < (x1.length : Int) then (bnd (atI x1 s58.2.2) fun a84 => bnd (m_symmetry_moved a84 s58.1) fun q107 => bnd (m_slices_Compare_Lint_int q107 s58.1) fun q116 => if 0 ≤ q116 then (bnd (chkI (s58.2.2 + 1)) fun n125 => some (.next (s58.1, s58.2.1, n125))) else (bnd (appI 8 s58.2.1 [s58.2.2]) fun u128 => some (.next (q107, u128, 0)))) else (some (.brk (s58.1, s58.2.1, s58.2.2)))
noncomputable def canG (x0 : List Swp) : (List Int) × (List Int) → Option (Ctl ((List Int) × (List Int)) ((List Int) × (List Int))) :=
  fun (s9 : (List Int) × (List Int)) => bnd (rng (ρ := Ctl ((List Int) × (List Int)) ((List Int) × (List Int))) (fun (k34 : Nat) (a35 : Swp) (s32 : Int) => bnd (if s32 < 0 then (bnd (m_ref51_State a35 s9.1) fun q71 => bnd (m_ref51_less q71 s9.1) fun q80 => if q80 = true then some true else some false) else (some false) : Option Bool) fun y47 => if y47 = true then (some (.next (k34 : Int))) else (some (.next s32))) x0 0 (-1)) fun res30 => fin res30 fun (s96 : Int) => if s96 < 0 then (some (.ret (s9.1, s9.2))) else (bnd (atI x0 s96) fun a101 => bnd (m_ref51_State a101 s9.1) fun q124 => bnd (appI 8 s9.2 [s96]) fun u133 => some (.next (q124, u133)))
/-- The first generator that makes a state less. -/
def FstL (gens : List Swp) (s : List Int) (k : Nat) : Prop := ∃ x, gens[k]? = some x ∧ cfL (imS x s) s < 0
theorem canF_walk {t : Tsk} (hok : TaskOk t) {gens : List Swp} (hg : ∀ x ∈ gens, SymP t x) (hgl : gens.length ≤ 1000) {s used : List Int} (hs : StateOk t.vars s) (hu : used.length ≤ 100000) : ∀ (n k : Nat), gens.length - k = n → k ≤ gens.length →
    ((∀ j, k ≤ j → ¬ FstL gens s j) ∧ lop (canF gens) (s, used, (k : Int)) = some (.done (s, used, (gens.length : Int)))) ∨ ∃ m x, k ≤ m ∧ (∀ j, k ≤ j → j < m → ¬ FstL gens s j) ∧ gens[m]? = some x ∧ cfL (imS x s) s < 0 ∧ lop (canF gens) (s, used, (k : Int)) = lop (canF gens) (imS x s, used ++ [(m : Int)], 0) := by
  intro n
  induction n with
  | zero =>
    intro k hk hkl
    have : k = gens.length := by omega
    subst this
    refine .inl ⟨fun j hj hf => by obtain ⟨x, hx, _⟩ := hf; have := lt_of_get hx; omega, ?_⟩
    rw [lop_eq]
    simp only [canF]
    rw [if_neg (by omega)]
  | succ n ih =>
    intro k hk hkl
    obtain ⟨x, hx⟩ := some_lt (l := gens) (k := k) (by omega)
    obtain ⟨h1, h2, h3⟩ := imS_eq hok (hg x (List.mem_of_getElem? hx)).1 hs
    have hkl' := lt_of_get hx
    have step : canF gens (s, used, (k : Int)) = if 0 ≤ cfL (imS x s) s then some (.next (s, used, (k : Int) + 1)) else some (.next (imS x s, used ++ [(k : Int)], 0)) := by
      simp only [canF]
      rw [if_pos (by omega), atI_eq, hx, bnd_some, h1, bnd_some, cmpL_eq, bnd_some, chkI_eq (by unfold inI64; omega), bnd_some, appI_eq (by simp; omega) (by simp; omega), bnd_some]
    by_cases hc : 0 ≤ cfL (imS x s) s
    · have e1 : lop (canF gens) (s, used, (k : Int)) = lop (canF gens) (s, used, ((k + 1 : Nat) : Int)) := by
        rw [lop_eq, step, if_pos hc]
        simp
      have hnot : ¬ FstL gens s k := fun ⟨y, hy, hlt⟩ => by
        rw [hx] at hy
        obtain rfl := Option.some.inj hy
        omega
      rcases ih (k + 1) (by omega) (by omega) with ⟨g1, g2⟩ | ⟨m, y, g1, g2, g3, g4, g5⟩
      · refine .inl ⟨fun j hj => ?_, by rw [e1, g2]⟩
        by_cases e : j = k
        · subst e; exact hnot
        · exact g1 j (by omega)
      · refine .inr ⟨m, y, by omega, fun j hj hjm => ?_, g3, g4, by rw [e1, g5]⟩
        by_cases e : j = k
        · subst e; exact hnot
        · exact g2 j (by omega) hjm
    · refine .inr ⟨k, x, Nat.le_refl _, fun j h1 h2 => by omega, hx, by omega, ?_⟩
      rw [lop_eq, step, if_neg hc]
theorem canG_step {t : Tsk} (hok : TaskOk t) {gens : List Swp} (hg : ∀ x ∈ gens, SymP t x) {s used : List Int} (hs : StateOk t.vars s) (hu : used.length ≤ 100000) :
    ((∀ j, ¬ FstL gens s j) ∧ canG gens (s, used) = some (.ret (s, used))) ∨ ∃ (m : Nat) (x : Swp), (∀ j, j < m → ¬ FstL gens s j) ∧ gens[m]? = some x ∧ cfL (imS x s) s < 0 ∧ canG gens (s, used) = some (.next (imS x s, used ++ [(m : Int)])) := by
  have key := rng_all (ρ := Ctl ((List Int) × (List Int)) ((List Int) × (List Int))) (xs := gens) (s₀ := (-1 : Int)) (f := fun (k34 : Nat) (a35 : Swp) (s32 : Int) => bnd (if s32 < 0 then (bnd (m_ref51_State a35 s) fun q71 => bnd (m_ref51_less q71 s) fun q80 => if q80 = true then some true else some false) else (some false) : Option Bool) fun y47 => if y47 = true then (some (.next (k34 : Int))) else (some (.next s32))) (fun m a => (a = -1 ∧ ∀ j, j < m → ¬ FstL gens s j) ∨ ∃ (q : Nat) (x : Swp), a = (q : Int) ∧ (∀ j, j < q → ¬ FstL gens s j) ∧ gens[q]? = some x ∧ cfL (imS x s) s < 0) (.inl ⟨rfl, fun j hj => by omega⟩) (fun k x a hx hI => by
      obtain ⟨h1, h2, h3⟩ := imS_eq hok (hg x (List.mem_of_getElem? hx)).1 hs
      rcases hI with ⟨rfl, hno⟩ | ⟨q, y, rfl, hno, hy, hlt⟩
      · rw [if_pos (by omega), ref_moved, h1, bnd_some, less_eq (by rw [h3.1, hs.1]), bnd_some]
        by_cases hlt : cfL (imS x s) s < 0
        · rw [decide_eq_true hlt, if_t, bnd_some, if_t]
          exact ⟨_, rfl, .inr ⟨k, x, rfl, hno, hx, hlt⟩⟩
        · rw [decide_eq_false hlt, if_f, bnd_some, if_f]
          refine ⟨_, rfl, .inl ⟨rfl, fun j hj => ?_⟩⟩
          by_cases e : j = k
          · subst e
            rintro ⟨y, hy, hl⟩
            rw [hx] at hy
            obtain rfl := Option.some.inj hy
            exact hlt hl
          · exact hno j (by omega)
      · rw [if_neg (by omega), bnd_some, if_f]
        exact ⟨_, rfl, .inr ⟨q, y, rfl, hno, hy, hlt⟩⟩)
  obtain ⟨a, g1, g2⟩ := key
  unfold canG
  dsimp only
  rw [g1, bnd_some, fin_d]
  rcases g2 with ⟨rfl, hno⟩ | ⟨q, x, rfl, hno, hx, hlt⟩
  · rw [if_pos (by omega)]
    refine .inl ⟨fun j hf => ?_, rfl⟩
    obtain ⟨x, hx, hl⟩ := hf
    exact hno j (lt_of_get hx) ⟨x, hx, hl⟩
  · obtain ⟨h1, h2, h3⟩ := imS_eq hok (hg x (List.mem_of_getElem? hx)).1 hs
    rw [if_neg (by omega), atI_eq, hx, bnd_some, ref_moved, h1, bnd_some, appI_eq (by simp; omega) (by simp; omega), bnd_some]
    exact .inr ⟨q, x, hno, hx, hlt, rfl⟩
/-- Generators by number, one behind the other. -/
inductive Word (gens : List Swp) : List Int → List Int → List Int → Prop
  | nil {s : List Int} : Word gens s [] s
  | cons {s r ws : List Int} {m : Nat} {x : Swp} : gens[m]? = some x → Word gens (imS x s) ws r → Word gens s ((m : Int) :: ws) r
theorem can_both {t : Tsk} (hok : TaskOk t) {gens : List Swp} (hg : ∀ x ∈ gens, SymP t x) (hgl : gens.length ≤ 1000) : ∀ (n : Nat) (s used : List Int), StateOk t.vars s → muL t.vars s < n → used.length + n ≤ 100000 →
    ∃ r ws, lop (canF gens) (s, used, 0) = some (.done (r, used ++ ws, (gens.length : Int))) ∧ lop (canG gens) (s, used) = some (.ret (r, used ++ ws)) ∧ StateOk t.vars r ∧ cfL r s ≤ 0 ∧ Word gens s ws r := by
  intro n
  induction n with
  | zero => intro s used _ h; omega
  | succ n ih =>
    intro s used hs hmu hul
    rcases canF_walk hok hg hgl hs (used := used) (by omega) gens.length 0 (by omega) (by omega) with ⟨f1, f2⟩ | ⟨m, x, f1, f2, f3, f4, f5⟩
    · rcases canG_step hok hg hs (used := used) (by omega) with ⟨g1, g2⟩ | ⟨q, y, _, g3, g4, _⟩
      · refine ⟨s, [], by simpa using f2, by rw [lop_eq, g2, List.append_nil], hs, by rw [cfL_self]; omega, .nil⟩
      · exact absurd ⟨y, g3, g4⟩ (f1 q (by omega))
    · rcases canG_step hok hg hs (used := used) (by omega) with ⟨g1, _⟩ | ⟨q, y, g2, g3, g4, g5⟩
      · exact absurd ⟨x, f3, f4⟩ (g1 m)
      · have hqm : q = m := by
          rcases Nat.lt_trichotomy q m with h | h | h
          · exact absurd ⟨y, g3, g4⟩ (f2 q (by omega) h)
          · exact h
          · exact absurd ⟨x, f3, f4⟩ (g2 m h)
        subst hqm
        rw [f3] at g3
        obtain rfl := Option.some.inj g3
        obtain ⟨h1, h2, h3⟩ := imS_eq hok (hg x (List.mem_of_getElem? f3)).1 hs
        have hlt := muL_lt h3 f4
        obtain ⟨r, ws, r1, r2, r3, r4, r5⟩ := ih (imS x s) (used ++ [(q : Int)]) h3 (by omega) (by simp; omega)
        refine ⟨r, (q : Int) :: ws, ?_, ?_, r3, cfL_trans r4 (by omega), .cons f3 r5⟩
        · have f5' : lop (canF gens) (s, used, 0) = lop (canF gens) (imS x s, used ++ [(q : Int)], 0) := f5
          rw [f5', r1]
          simp
        · rw [lop_eq, g5]
          simp only
          rw [r2]
          simp
theorem demandL {t : Tsk} (hok : TaskOk t) {gens : List Swp} : m_symmetry_demand t gens = some ⟨if bof (∀ x ∈ gens, SymP t x) = true then 0 else 2⟩ := by
  have : ∃ r, m_symmetry_demand t gens = some r ∧ r = ⟨if bof (∀ x ∈ gens, SymP t x) = true then 0 else 2⟩ := by
    unfold m_symmetry_demand m_task_Check
    rw [check_ok.2 hok, bnd_some, if_neg (by simp)]
    refine rng_ex (fun m _ => ∀ x ∈ gens.take m, SymP t x) (fun r => r = ⟨2⟩ ∧ ¬ ∀ x ∈ gens, SymP t x) (fun x hx => by simp at hx) ?_ ?_ ?_
    · intro m x _ hx hI
      rw [is_eq hok, bnd_some]
      by_cases h : SymP t x
      · rw [bof_t h, if_t]
        refine .inl ⟨(), rfl, fun y hy => ?_⟩
        rcases (take_succ_mem hx).1 hy with hy | rfl
        · exact hI y hy
        · exact h
      · rw [bof_f h, if_f]
        exact .inr ⟨_, rfl, rfl, fun hh => h (hh x (List.mem_of_getElem? hx))⟩
    · intro _ hI
      rw [List.take_length] at hI
      exact ⟨_, rfl, by rw [bof_t hI]; rfl⟩
    · rintro q ⟨rfl, hn⟩
      exact ⟨_, rfl, by rw [bof_f hn]; rfl⟩
  obtain ⟨r, h1, h2⟩ := this
  rw [h1, h2]
theorem muL_few {t : Tsk} (hs : SmallOk t) (s : List Int) : muL t.vars s ≤ 512 := Nat.le_trans (List.length_filter_le _ _) hs.many
/-- Canonical's answer, of the program and of the document. -/
theorem canon_eq {t : Tsk} (hsm : SmallOk t) {gens : List Swp} (hg : ∀ x ∈ gens, SymP t x) (hgl : gens.length ≤ 1000) {s : List Int} (hs : StateOk t.vars s) :
    ∃ r ws, m_symmetry_Canonical t gens s = some (r, ws, ⟨0⟩) ∧ m_ref51_Canonical gens s = some (r, ws) ∧ StateOk t.vars r ∧ cfL r s ≤ 0 ∧ Word gens s ws r := by
  have hok := hsm.ok
  obtain ⟨r, ws, r1, r2, r3, r4, r5⟩ := can_both hok hg hgl 513 s [] hs (by have := muL_few hsm s; omega) (by simp)
  rw [List.nil_append] at r1 r2
  refine ⟨r, ws, ?_, ?_, r3, r4, r5⟩
  · have unf : m_symmetry_Canonical t gens s = bnd (m_symmetry_demand t gens) fun q30 => if q30.n ≠ 0 then (some (([] : List Int), ([] : List Int), (⟨q30.n⟩ : Err))) else (bnd (m_task_Proper t.vars s) fun q39 => if q39 = true then bnd (m_slices_Clone_Lint_int s) fun q46 => bnd (lop (canF gens) (q46, ([] : List Int), 0)) fun res56 => fin res56 fun (s144 : (List Int) × (List Int) × Int) => some (s144.1, s144.2.1, (⟨0⟩ : Err)) else some (([] : List Int), ([] : List Int), (⟨2⟩ : Err))) := rfl
    have hc : m_slices_Clone_Lint_int s = some s := if_pos ⟨by have := hs.1; have := hok.1; omega, by have := hs.1; have := hok.1; omega⟩
    rw [unf, demandL hok, bof_t hg, bnd_some, if_t, if_neg (by simp)]
    unfold m_task_Proper
    rw [bof_t hs, bnd_some, if_t, hc, bnd_some, r1, bnd_some, fin_d]
  · have unf : m_ref51_Canonical gens s = bnd (lop (canG gens) (s, ([] : List Int))) fun res7 => fin res7 fun (_ : (List Int) × (List Int)) => none := rfl
    rw [unf, r2, bnd_some, fin_r]
end
section
open Go Go.RowKit
inductive Orb (gens : List Swp) (s0 : List Int) : List Int → Prop
  | self : Orb gens s0 s0
  | step {s : List Int} {x : Swp} : Orb gens s0 s → x ∈ gens → Orb gens s0 (imS x s)
theorem Orb.ok {t : Tsk} (hok : TaskOk t) {gens : List Swp} (hg : ∀ x ∈ gens, SymP t x) {s0 s : List Int} (h0 : StateOk t.vars s0) (h : Orb gens s0 s) : StateOk t.vars s := by
  induction h with
  | self => exact h0
  | step _ hx ih => exact (imS_eq hok (hg _ hx).1 ih).2.2
theorem txt_inj {t : Tsk} (hok : TaskOk t) {a b : List Int} (ha : StateOk t.vars a) (hb : StateOk t.vars b) (h : txt a = txt b) : a = b := by
  have h1 : (a.map bw).map (fun b : Byt => UInt8.ofNat b.n.toNat) = (b.map bw).map fun b : Byt => UInt8.ofNat b.n.toNat := by
    unfold txt strB at h
    have := congrArg ByteArray.data h
    simpa using this
  apply List.ext_getElem?
  intro i
  rcases Nat.lt_or_ge i t.vars.length with hi | hi
  · obtain ⟨n, hn⟩ := some_lt (l := t.vars) (k := i) hi
    obtain ⟨x, hx⟩ := some_lt (l := a) (k := i) (by rw [ha.1]; exact hi)
    obtain ⟨y, hy⟩ := some_lt (l := b) (k := i) (by rw [hb.1]; exact hi)
    have hx1 := ha.2 i x n hx hn
    have hy1 := hb.2 i y n hy hn
    have hn1 := hok.2.2.1 i n hn
    have h2 := congrArg (·[i]?) h1
    simp only [List.getElem?_map, hx, hy, Option.map_some] at h2
    have h3 := congrArg UInt8.toNat (Option.some.inj h2)
    simp [bw] at h3
    rw [hx, hy]
    congr 1
    omega
  · rw [List.getElem?_eq_none (by rw [ha.1]; exact hi), List.getElem?_eq_none (by rw [hb.1]; exact hi)]
theorem cfL_snoc : ∀ {a b : List Int} {x y : Int}, a.length = b.length → cfL (a ++ [x]) (b ++ [y]) = if cfL a b ≠ 0 then cfL a b else Lib.compareInt x y
  | [], [], x, y, _ => by
    have e : cfL [] [] = 0 := rfl
    rw [e]
    show (if Lib.compareInt x y ≠ 0 then Lib.compareInt x y else 0) = if (0 : Int) ≠ 0 then 0 else Lib.compareInt x y
    by_cases h : Lib.compareInt x y = 0
    · simp [h]
    · simp [h]
  | [], _ :: _, _, _, h => by simp at h
  | _ :: _, [], _, _, h => by simp at h
  | p :: a, q :: b, x, y, h => by
    have ih := cfL_snoc (a := a) (b := b) (x := x) (y := y) (by simpa using h)
    show (if Lib.compareInt p q ≠ 0 then Lib.compareInt p q else cfL (a ++ [x]) (b ++ [y])) = _
    show _ = if (if Lib.compareInt p q ≠ 0 then Lib.compareInt p q else cfL a b) ≠ 0 then (if Lib.compareInt p q ≠ 0 then Lib.compareInt p q else cfL a b) else _
    by_cases hc : Lib.compareInt p q ≠ 0
    · rw [if_pos hc, if_pos hc, if_pos hc]
    · rw [if_neg hc, if_neg hc, ih]
theorem grows_sorted {out : List (List Int)} {k : Nat} (n : Int) (hl : ∀ s ∈ out, s.length = k) (hp : out.Pairwise fun a b => cfL a b < 0) : (grows out n).Pairwise (fun a b => cfL a b < 0) ∧ ∀ s ∈ grows out n, s.length = k + 1 := by
  constructor
  · unfold grows
    rw [List.pairwise_flatMap]
    constructor
    · intro s hs
      unfold exts
      rw [List.pairwise_map]
      refine List.pairwise_lt_range.imp fun {a b} hab => ?_
      rw [cfL_snoc rfl, cfL_self, if_neg (by simp)]
      rcases ci_cases (a : Int) (b : Int) with ⟨_, h⟩ | ⟨h, _⟩ | ⟨h, _⟩ <;> omega
    · refine hp.imp_of_mem fun {a b} ha hb hab x hx y hy => ?_
      obtain ⟨p, _, rfl⟩ := mem_exts.1 hx
      obtain ⟨q, _, rfl⟩ := mem_exts.1 hy
      rw [cfL_snoc (by rw [hl a ha, hl b hb]), if_pos (by omega)]
      exact hab
  · intro s hs
    unfold grows at hs
    obtain ⟨a, ha, hx⟩ := List.mem_flatMap.1 hs
    obtain ⟨p, _, rfl⟩ := mem_exts.1 hx
    simp [hl a ha]
theorem states_sorted (vars : List Int) : (statesL vars).Pairwise fun a b => cfL a b < 0 := by
  have key : ∀ (vars : List Int) (out : List (List Int)) (k : Nat), (∀ s ∈ out, s.length = k) → out.Pairwise (fun a b => cfL a b < 0) → (vars.foldl grows out).Pairwise fun a b => cfL a b < 0 := by
    intro vars
    induction vars with
    | nil => intro out k _ h; exact h
    | cons n vars ih =>
      intro out k h1 h2
      obtain ⟨g1, g2⟩ := grows_sorted n h1 h2
      exact ih (grows out n) (k + 1) g2 g1
  exact key vars [[]] 0 (fun s hs => by simp at hs; subst hs; rfl) (List.pairwise_singleton _ _)
end
section
open Go Go.RowKit
theorem nx {σ ρ : Type} {x : Option (Ctl σ ρ)} {I : σ → Prop} (h : ∃ r, x = some r ∧ ∃ s', r = Ctl.next s' ∧ I s') : ∃ s', x = some (.next s') ∧ I s' := by
  obtain ⟨_, h1, s', rfl, h2⟩ := h
  exact ⟨s', h1, h2⟩
end
section
open Go Go.RowKit
theorem mget_put {K V : Type} [MKey K] (z : V) (k k' : K) (v : V) : ∀ l : List (K × V), mget z (mput l k v) k' = if k = k' then v else mget z l k'
  | [] => by simp only [mput, mget]
  | p :: r => by
    have ih := mget_put z k k' v r
    simp only [mput]
    by_cases h1 : p.1 = k
    · rw [if_pos h1]
      simp only [mget]
      by_cases h2 : k = k'
      · rw [if_pos h2, if_pos h2]
      · rw [if_neg h2, if_neg h2, if_neg (by rw [h1]; exact h2)]
    · rw [if_neg h1]
      simp only [mget, ih]
      by_cases h2 : k = k'
      · rw [if_pos h2, if_pos h2, if_neg (by rw [← h2]; exact h1)]
      · rw [if_neg h2, if_neg h2]
/-- What is true of the list of states and of the set of texts. -/
def OrI (t : Tsk) (gens : List Swp) (s0 : List Int) (out : List (List Int)) (seen : List (ByteArray × Bool)) : Prop := out.Nodup ∧ s0 ∈ out ∧ (∀ s ∈ out, Orb gens s0 s) ∧ ∀ y, StateOk t.vars y → (mget false seen (txt y) = true ↔ y ∈ out)
theorem OrI.add {t : Tsk} (hok : TaskOk t) {gens : List Swp} {s0 y : List Int} {out : List (List Int)} {seen : List (ByteArray × Bool)} (h : OrI t gens s0 out seen) (hout : ∀ s ∈ out, StateOk t.vars s) (hy : StateOk t.vars y) (ho : Orb gens s0 y) (hn : y ∉ out) : OrI t gens s0 (out ++ [y]) (mput seen (txt y) true) := by
  obtain ⟨h1, h2, h3, h4⟩ := h
  refine ⟨?_, List.mem_append_left _ h2, fun s hs => ?_, fun z hz => ?_⟩
  · rw [List.nodup_append]
    exact ⟨h1, by simp, fun a ha b hb hab => by simp at hb; subst hb hab; exact hn ha⟩
  · rcases List.mem_append.1 hs with hs | hs
    · exact h3 s hs
    · simp at hs; subst hs; exact ho
  · rw [mget_put]
    by_cases e : txt y = txt z
    · have := txt_inj hok hy hz e
      subst this
      simp
    · rw [if_neg e, h4 z hz]
      constructor
      · intro hm; exact List.mem_append_left _ hm
      · intro hm
        rcases List.mem_append.1 hm with hm | hm
        · exact hm
        · simp at hm; subst hm; exact absurd rfl e
theorem nodup_len2 {α : Type} [DecidableEq α] : ∀ {a b : List α}, a.Nodup → (∀ x ∈ a, x ∈ b) → a.length ≤ b.length
  | [], _, _, _ => Nat.zero_le _
  | x :: a, b, hn, hs => by
    have hx := hs x List.mem_cons_self
    have h1 := nodup_len2 (a := a) (b := b.erase x) (List.nodup_cons.1 hn).2 fun y hy => (List.mem_erase_of_ne (fun e => (List.nodup_cons.1 hn).1 (by rw [← e]; exact hy))).2 (hs y (List.mem_cons_of_mem _ hy))
    have h2 := List.length_erase_of_mem hx
    have h3 := List.length_pos_of_mem hx
    simp only [List.length_cons]
    omega
/-- Orbit's answer. -/
theorem orbit_eq {t : Tsk} (hsm : SmallOk t) {gens : List Swp} (hg : ∀ x ∈ gens, SymP t x) {s0 : List Int} (hs0 : StateOk t.vars s0) (lim : Int) :
    ∃ out : List (List Int), out.Nodup ∧ (∀ s ∈ out, Orb gens s0 s) ∧ ((max 0 (min lim 65536) < (out.length : Int) ∧ m_symmetry_Orbit t gens s0 lim = some ([], ⟨10⟩)) ∨ ((out.length : Int) ≤ max 0 (min lim 65536) ∧ (∀ s, Orb gens s0 s → s ∈ out) ∧ m_symmetry_Orbit t gens s0 lim = some (srt_slices_Compare_Lint_int out, ⟨0⟩))) := by
  have hok := hsm.ok
  have hfew : ∀ out : List (List Int), out.Nodup → (∀ s ∈ out, Orb gens s0 s) → out.length ≤ 512 := fun out h1 h2 => Nat.le_trans (nodup_len2 h1 fun s hs => mem_statesL.2 ((h2 s hs).ok hok hg hs0)) hsm.many
  have hsl : ∀ s, StateOk t.vars s → s.length ≤ 1000000 := fun s hs => by have := hs.1; have := hok.1; omega
  have key : ∃ r, m_symmetry_Orbit t gens s0 lim = some r ∧ ∃ out : List (List Int), out.Nodup ∧ (∀ s ∈ out, Orb gens s0 s) ∧ ((max 0 (min lim 65536) < (out.length : Int) ∧ r = ([], ⟨10⟩)) ∨ ((out.length : Int) ≤ max 0 (min lim 65536) ∧ (∀ s, Orb gens s0 s → s ∈ out) ∧ r = (srt_slices_Compare_Lint_int out, ⟨0⟩))) := by
    have hc : m_slices_Clone_Lint_int s0 = some s0 := if_pos ⟨by have := hs0.1; have := hok.1; omega, by have := hs0.1; have := hok.1; omega⟩
    unfold m_symmetry_Orbit
    rw [demandL hok, bof_t hg, bnd_some, if_t, if_neg (by simp)]
    unfold m_task_Proper
    rw [bof_t hs0, bnd_some, if_t, hc, bnd_some, text_eq (hsl s0 hs0), bnd_some]
    refine lop_ex (fun st => ∃ i : Nat, st.2.1 = (i : Int) ∧ OrI t gens s0 st.1 st.2.2.l ∧ i ≤ st.1.length ∧ ∀ j, j < i → ∀ s, st.1[j]? = some s → ∀ x ∈ gens, imS x s ∈ st.1) (fun st => OrI t gens s0 st.1 st.2.2.l ∧ (max 0 (min lim 65536) < (st.1.length : Int) ∨ ∀ s ∈ st.1, ∀ x ∈ gens, imS x s ∈ st.1)) (fun _ => False) (fun st => 600 - st.2.1.toNat) ⟨0, rfl, ?_, by simp, fun j hj => by omega⟩ ?_ ?_ (fun q hq => hq.elim)
    · refine ⟨by simp, by simp, fun s hs => by simp at hs; subst hs; exact .self, fun y hy => ?_⟩
      dsimp only
      rw [mget_put]
      by_cases e : txt s0 = txt y
      · have := txt_inj hok hs0 hy e
        subst this
        simp
      · rw [if_neg e]
        simp only [mget]
        constructor
        · intro hh; cases hh
        · intro hh; simp at hh; subst hh; exact absurd rfl e
    · rintro ⟨out, i', seen⟩ ⟨i, hi, hI, hil, hC⟩
      dsimp only at hi hI hil hC ⊢
      subst hi
      have hol := hfew out hI.1 hI.2.2.1
      by_cases h1 : (i : Int) < (out.length : Int)
      case neg =>
        rw [if_neg h1, bnd_some, if_f]
        refine .inr (.inl ⟨_, rfl, hI, .inr fun s hs x hx => ?_⟩)
        obtain ⟨j, hj⟩ := List.getElem?_of_mem hs
        have hjl : j < out.length := lt_of_get hj
        exact hC j (by omega) s hj x hx
      by_cases h2 : (out.length : Int) ≤ max 0 (min lim 65536)
      case neg =>
        rw [if_pos h1, if_neg h2, bnd_some, if_f]
        exact .inr (.inl ⟨_, rfl, hI, .inl (by dsimp only; omega)⟩)
      rw [if_pos h1, if_pos h2, bnd_some, if_t]
      obtain ⟨si, hsi⟩ := some_lt (l := out) (k := i) (by omega)
      have hsio : StateOk t.vars si := (hI.2.2.1 si (List.mem_of_getElem? hsi)).ok hok hg hs0
      refine .inl (nx ?_)
      refine rng_ex (fun q st => OrI t gens s0 st.1 st.2.l ∧ (∃ r, st.1 = out ++ r) ∧ ∀ p x, p < q → gens[p]? = some x → imS x si ∈ st.1) (fun _ => False) ⟨hI, ⟨[], by simp⟩, fun p x hp => by omega⟩ ?_ ?_ (fun q hq => hq.elim)
      · rintro q x ⟨o1, m1⟩ hx ⟨j1, ⟨r, j2⟩, j3⟩
        dsimp only at j1 j2 j3 ⊢
        refine .inl ?_
        have hgi : o1[i]? = some si := by rw [j2, List.getElem?_append_left (by omega)]; exact hsi
        obtain ⟨g1, g2, g3⟩ := imS_eq hok (hg x (List.mem_of_getElem? hx)).1 hsio
        have ho1 := hfew o1 j1.1 j1.2.2.1
        rw [atI_eq, hgi, bnd_some, g1, bnd_some, text_eq (hsl _ g3), bnd_some]
        by_cases hm : imS x si ∈ o1
        · rw [(j1.2.2.2 _ g3).2 hm, show (!true) = false from rfl, if_f]
          refine ⟨_, rfl, j1, ⟨r, j2⟩, fun p y hp hy => ?_⟩
          by_cases e : p = q
          · subst e; rw [hx] at hy; obtain rfl := Option.some.inj hy; exact hm
          · exact j3 p y (by omega) hy
        · have hf : mget false m1.l (txt (imS x si)) = false := by
            cases hb : mget false m1.l (txt (imS x si)) with
            | false => rfl
            | true => exact absurd ((j1.2.2.2 _ g3).1 hb) hm
          rw [hf, show (!false) = true from rfl, if_t, bnd_some, appI_eq (by simp; omega) (by simp; omega), bnd_some]
          refine ⟨_, rfl, j1.add hok (fun s hs => (j1.2.2.1 s hs).ok hok hg hs0) g3 ((hI.2.2.1 si (List.mem_of_getElem? hsi)).step (List.mem_of_getElem? hx)) hm, ⟨r ++ [imS x si], by dsimp only; rw [j2]; simp⟩, fun p y hp hy => ?_⟩
          by_cases e : p = q
          · subst e; rw [hx] at hy; obtain rfl := Option.some.inj hy; simp
          · exact List.mem_append_left _ (j3 p y (by omega) hy)
      · rintro ⟨o1, m1⟩ ⟨j1, ⟨r, j2⟩, j3⟩
        dsimp only at j1 j2 j3
        rw [fin_d, chkI_eq (by unfold inI64; omega), bnd_some]
        refine ⟨_, rfl, _, rfl, ⟨i + 1, rfl, j1, by dsimp only; rw [j2]; simp; omega, fun j hj s hs x hx => ?_⟩, by dsimp only; omega⟩
        dsimp only at hs ⊢
        obtain ⟨p, hp⟩ := List.getElem?_of_mem hx
        by_cases e : j = i
        · subst e
          rw [j2, List.getElem?_append_left (by omega), hsi] at hs
          obtain rfl := Option.some.inj hs
          exact j3 p x (lt_of_get hp) hp
        · rw [j2, List.getElem?_append_left (by omega)] at hs
          rw [j2]
          exact List.mem_append_left _ (hC j (by omega) s hs x hx)
    · rintro ⟨out, i, seen⟩ ⟨hI, hC⟩
      dsimp only at hI hC
      rw [fin_d]
      dsimp only
      have hol := hfew out hI.1 hI.2.2.1
      by_cases hlt : max 0 (min lim 65536) < (out.length : Int)
      · rw [if_pos hlt]
        exact ⟨_, rfl, out, hI.1, hI.2.2.1, .inl ⟨hlt, rfl⟩⟩
      · rw [if_neg hlt, if_pos (by omega), bnd_some]
        refine ⟨_, rfl, out, hI.1, hI.2.2.1, .inr ⟨by omega, fun s hs => ?_, rfl⟩⟩
        have hcl : ∀ s ∈ out, ∀ x ∈ gens, imS x s ∈ out := by
          rcases hC with h | h
          · exact absurd h hlt
          · exact h
        induction hs with
        | self => exact hI.2.1
        | step _ hx ih => exact hcl _ ih _ hx
  obtain ⟨r, h1, out, h2, h3, h4⟩ := key
  refine ⟨out, h2, h3, ?_⟩
  rcases h4 with ⟨h5, rfl⟩ | ⟨h5, h6, rfl⟩
  · exact .inl ⟨h5, h1⟩
  · exact .inr ⟨h5, h6, h1⟩
end
section
open Go Go.RowKit
theorem large_some (q : Qst) : m_law51_large q = some true ∨ (m_law51_large q = some false ∧ q.gens.length ≤ 12) := by
  have : ∃ r, m_law51_large q = some r ∧ (r = false → q.gens.length ≤ 12) := by
    unfold m_law51_large
    by_cases h1 : 70 < (q.task.vars.length : Int)
    · rw [if_pos h1, bnd_some, if_t]; exact ⟨_, rfl, fun h => by cases h⟩
    rw [if_neg h1]
    by_cases h2 : 20 < (q.task.ops.length : Int)
    · rw [if_pos h2, bnd_some, if_t]; exact ⟨_, rfl, fun h => by cases h⟩
    rw [if_neg h2]
    by_cases h3 : 12 < (q.gens.length : Int)
    · rw [if_pos h3, bnd_some, if_t]; exact ⟨_, rfl, fun h => by cases h⟩
    rw [if_neg h3]
    by_cases h4 : 100 < (q.state.length : Int)
    · rw [if_pos h4, bnd_some, if_t]; exact ⟨_, rfl, fun h => by cases h⟩
    rw [if_neg h4, bnd_some, if_f]
    refine rng_ex (fun _ _ => True) (fun r => r = true) trivial (fun i x _ _ _ => ?_) (fun _ _ => ⟨_, rfl, fun _ => by omega⟩) (fun r hr => ⟨_, rfl, fun h => by subst hr; cases h⟩)
    rcases long_cases x with hb | hb
    · rw [hb, bnd_some, if_t]; exact .inr ⟨_, rfl, rfl⟩
    · rw [hb, bnd_some, if_f]; exact .inl ⟨(), rfl, trivial⟩
  obtain ⟨r, h1, h2⟩ := this
  cases r with
  | true => exact .inl h1
  | false => exact .inr ⟨h1, h2 rfl⟩
theorem can_err {t : Tsk} {gens : List Swp} {s : List Int} {n : Int} (hn : n ≠ 0) (h : m_symmetry_demand t gens = some ⟨n⟩) (lim : Int) : m_symmetry_Canonical t gens s = some ([], [], ⟨n⟩) ∧ m_symmetry_Orbit t gens s lim = some ([], ⟨n⟩) := by
  unfold m_symmetry_Canonical m_symmetry_Orbit
  rw [h, bnd_some, if_pos hn, bnd_some, if_pos hn]
  exact ⟨rfl, rfl⟩
theorem can_bad {t : Tsk} {gens : List Swp} {s : List Int} (h : m_symmetry_demand t gens = some ⟨0⟩) (hs : ¬ StateOk t.vars s) (lim : Int) : m_symmetry_Canonical t gens s = some ([], [], ⟨2⟩) ∧ m_symmetry_Orbit t gens s lim = some ([], ⟨2⟩) := by
  unfold m_symmetry_Canonical m_symmetry_Orbit m_task_Proper
  rw [h, bnd_some, if_neg (by simp), bof_f hs, bnd_some, if_f, bnd_some, if_neg (by simp), bnd_some, if_f]
  exact ⟨rfl, rfl⟩
end
section
open Go Go.RowKit
attribute [local irreducible] ewp owp hwp hwq Ev Evg Fn retPost Res1
attribute [local irreducible] hwx loudX
noncomputable def m_law51_SymmetryOrbits (x0 : Qst) : Option Bool :=
  bnd (bnd (m_law51_large x0) fun q43 => if q43 = true then some true else bnd (m_base_Small (⟨x0.task.vars, x0.task.init, x0.task.goal, x0.task.ops⟩ : Tsk)) fun q50 => if q50 = true then bnd (m_law51_awake) fun q57 => if q57 = true then some false else some true else some true : Option Bool) fun y39 => if y39 = true then (bnd (bnd (m_law51_awake) fun q73 => if q73 = true then some true else some false : Option Bool) fun y69 => some y69) else (bnd (m_symmetry_Canonical (⟨x0.task.vars, x0.task.init, x0.task.goal, x0.task.ops⟩ : Tsk) x0.gens x0.state) fun q84 => if q84.2.2.n ≠ 0 then (some true) else (bnd (appI 8 ([] : List Int) x0.state) fun u109 => bnd (rng (ρ := Bool) (fun (k126 : Nat) (a127 : Int) (s124 : (List Int)) => bnd (if a127 < 0 then (some true) else (if (x0.gens.length : Int) ≤ a127 then (some true) else (some false)) : Option Bool) fun y149 => if y149 = true then (some (.ret false)) else (bnd (atI x0.gens a127) fun a162 => bnd (m_symmetry_State (⟨x0.task.vars, x0.task.init, x0.task.goal, x0.task.ops⟩ : Tsk) a162 s124) fun q185 => if q185.2.n ≠ 0 then (some (.ret false)) else (some (.next q185.1)))) q84.2.1 0 u109) fun res122 => fin res122 fun (s204 : (List Int)) => bnd (m_symmetry_Orbit (⟨x0.task.vars, x0.task.init, x0.task.goal, x0.task.ops⟩ : Tsk) x0.gens x0.state 600) fun q206 => bnd (if q206.2.n ≠ 0 then (some true) else (bnd (m_base_State x0.task.vars q84.1) fun q225 => if q225 = true then bnd (m_base_State x0.task.vars x0.state) fun q232 => if q232 = true then bnd (m_base_Ints s204 q84.1) fun q239 => if q239 = true then bnd (m_base_Rank x0.task.vars q84.1) fun q246 => bnd (m_base_Rank x0.task.vars x0.state) fun q254 => if q254 < q246 then (some true) else (some false) else some true else some true else some true) : Option Bool) fun y220 => if y220 = true then (some false) else (bnd (m_base_Distances (⟨x0.task.vars, x0.task.init, x0.task.goal, x0.task.ops⟩ : Tsk)) fun q268 => bnd (rng (ρ := Bool) (fun (k283 : Nat) (a284 : List Int) (s281 : Bool) => bnd (if s281 = true then (some true) else (bnd (m_base_Ints a284 q84.1) fun q310 => if q310 = true then some true else some false) : Option Bool) fun y305 => bnd (bnd (m_base_State x0.task.vars a284) fun q325 => if q325 = true then bnd (m_base_Rank x0.task.vars a284) fun q332 => bnd (atI q268 q332) fun a340 => bnd (m_base_Rank x0.task.vars q84.1) fun q352 => bnd (atI q268 q352) fun a360 => if a340 ≠ a360 then (some true) else (some false) else some true : Option Bool) fun y321 => if y321 = true then (some (.ret false)) else (some (.next y305))) q206.1 0 false) fun res279 => fin res279 fun (s382 : Bool) => bnd (m_symmetry_Orbit (⟨x0.task.vars, x0.task.init, x0.task.goal, x0.task.ops⟩ : Tsk) x0.gens q84.1 600) fun q384 => bnd (if s382 = true then (if q384.2.n = 0 then (if (q384.1.length : Int) = (q206.1.length : Int) then (some true) else (some false)) else (some false)) else (some false) : Option Bool) fun y398 => some y398)))
theorem c_law51_SymmetryOrbits {w : World} {A : Nat → Prop} (hA : ∀ k, A k → k < w.heap.size) {vx0 : Value} {x0 : Qst} (hx0 : Vb w A vx0 x0) {r : Bool} (hm : m_law51_SymmetryOrbits x0 = some r) :
    Fn Try.prog 7 [vx0] w fun v w' => Ext w w' ∧ Vb w' (upA A w w') v r := by
 obtain ⟨O, hB, hA0⟩ := enter hA
 replace hx0 := hx0.mono hA0
 obtain ⟨cs2, rfl, v3, v4, v5, v6, v7, v8, rfl, h9, h12, h15, h18, h21, h24⟩ := hx0
 obtain ⟨A10, c11, rfl⟩ := h9.form
 obtain ⟨A13, c14, rfl⟩ := h12.form
 obtain ⟨A16, c17, rfl⟩ := h15.form
 obtain ⟨A19, c20, rfl⟩ := h18.form
 obtain ⟨A22, c23, rfl⟩ := h21.form
 obtain ⟨A25, c26, rfl⟩ := h24.form
 refine fn_enter Try.func7 rfl Try.ntmps7 rfl ?_
 unfold m_law51_SymmetryOrbits at hm
 refine ewp_seq (ewp_region (l_box 2 O rfl rfl fun g27 w28 O29 S30 h31 => ?_))
 replace h31 : Lc 2 w28 O29 g27 54 [(.slice A10 x0.task.vars.length c11), (.slice A13 x0.task.init.length c14), (.slice A16 x0.task.goal.length c17), (.slice A19 x0.task.ops.length c20), (.slice A22 x0.gens.length c23), (.slice A25 x0.state.length c26)] := h31
 refine o_as rfl rfl (o_z ?_)
 refine ewp_seq (ewp_region (o_fa rfl rfl (o_la (hl := rfl) (hc := (cellsAt_part 0 4 (h31.1).cellsAt)) rfl rfl ?_)))
 refine l_alloc 3 O29 rfl fun g32 w33 O34 S35 h36 => ?_
 refine l_store h36 rfl rfl rfl (Nat.le_of_ble_eq_true rfl) (by first | exact allOne rfl | simp [Value.cells, Value.oneCell', errV_one]) fun w37 S38 h36 => ?_
 replace h36 : Lc 3 w37 O34 g32 26 [(.slice A10 x0.task.vars.length c11), (.slice A13 x0.task.init.length c14), (.slice A16 x0.task.goal.length c17), (.slice A19 x0.task.ops.length c20)] := h36
 refine o_z ?_
 refine ewp_seq (ewp_seq ?_)
 obtain ⟨y39, hy40, hm⟩ := bs hm
 refine ewp_join (fun l' w' => ∃ (x42 : Unit) (O' : Lab), subs l' [(1, (.pointer (some ⟨g27, 0, none⟩))), (3, (.pointer (some ⟨g32, 0, none⟩))), (30, (.bool y39))] ∧ Bs w A w' O' ∧ Lc 2 w' O' g27 54 [(.slice A10 x0.task.vars.length c11), (.slice A13 x0.task.init.length c14), (.slice A16 x0.task.goal.length c17), (.slice A19 x0.task.ops.length c20), (.slice A22 x0.gens.length c23), (.slice A25 x0.state.length c26)] ∧ Vb w' (Fr 0 w' O') (.slice A10 x0.task.vars.length c11) x0.task.vars ∧ Vb w' (Fr 0 w' O') (.slice A13 x0.task.init.length c14) x0.task.init ∧ Vb w' (Fr 0 w' O') (.slice A16 x0.task.goal.length c17) x0.task.goal ∧ Vb w' (Fr 0 w' O') (.slice A19 x0.task.ops.length c20) x0.task.ops ∧ Vb w' (Fr 0 w' O') (.slice A22 x0.gens.length c23) x0.gens ∧ Vb w' (Fr 0 w' O') (.slice A25 x0.state.length c26) x0.state ∧ Lc 3 w' O' g32 26 [(.slice A10 x0.task.vars.length c11), (.slice A13 x0.task.init.length c14), (.slice A16 x0.task.goal.length c17), (.slice A19 x0.task.ops.length c20)]) ?_ ?_
 ·
  refine ewp_region ?_
  replace h31 := (h31.st S35).st S38
  refine o_la (hl := rfl) (hc := (h31.1).cellsAt) rfl rfl ?_
  obtain ⟨q43, e44, hy40⟩ := bs hy40
  replace h9 := ((h9.st S30).st S35).st S38
  replace h12 := ((h12.st S30).st S35).st S38
  replace h15 := ((h15.st S30).st S35).st S38
  replace h18 := ((h18.st S30).st S35).st S38
  replace h21 := ((h21.st S30).st S35).st S38
  replace h24 := ((h24.st S30).st S35).st S38
  refine l_callA (O := O34) (A := All w37) (R := fun w' F v => Vb w' F v q43) (c_law51_large (fun _ h => h) (Vb.mono (F := Fr 0 w37 O34) (Vb.ofAgg (cs := [(.slice A10 x0.task.vars.length c11), (.slice A13 x0.task.init.length c14), (.slice A16 x0.task.goal.length c17), (.slice A19 x0.task.ops.length c20), (.slice A22 x0.gens.length c23), (.slice A25 x0.state.length c26)]) (x := x0) rfl ⟨_, _, _, _, _, _, rfl, h9, h12, h15, h18, h21, h24⟩) Fr.lt) e44) rfl rfl fun v49 w45 O46 S47 h48 => ?_
  obtain rfl := h48.bool
  cases q43
  case false =>
   replace hy40 := iF hy40
   refine o_mv rfl rfl (owp_yes rfl rfl ?_)
   replace h36 := h36.st S47
   refine o_la (hl := rfl) (hc := (h36.1).cellsAt) rfl rfl ?_
   refine owp_yes rfl rfl ?_
   obtain ⟨q50, e51, hy40⟩ := bs hy40
   replace h9 := h9.st S47
   replace h12 := h12.st S47
   replace h15 := h15.st S47
   replace h18 := h18.st S47
   refine l_callA (O := O46) (A := All w45) (R := fun w' F v => Vb w' F v q50) (c_base_Small (fun _ h => h) (Vb.mono (F := Fr 0 w45 O46) (Vb.ofAgg (cs := [(.slice A10 x0.task.vars.length c11), (.slice A13 x0.task.init.length c14), (.slice A16 x0.task.goal.length c17), (.slice A19 x0.task.ops.length c20)]) (x := (⟨x0.task.vars, x0.task.init, x0.task.goal, x0.task.ops⟩ : Tsk)) rfl ⟨_, _, _, _, rfl, h9, h12, h15, h18⟩) Fr.lt) e51) rfl rfl fun v56 w52 O53 S54 h55 => ?_
   obtain rfl := h55.bool
   cases q50
   case false =>
    replace hy40 := iF hy40
    refine owp_yes rfl rfl (o_nf rfl rfl (o_pf rfl rfl rfl (o_mv rfl rfl (owp_no rfl rfl rfl rfl (owp_no rfl rfl rfl rfl (o_pt rfl rfl rfl (o_z ?_)))))))
    obtain rfl := sm hy40
    replace hB := ((((hB.st S30).st S35).st S38).st S47).st S54
    replace h9 := h9.st S54
    replace h12 := h12.st S54
    replace h15 := h15.st S54
    replace h18 := h18.st S54
    replace h21 := (h21.st S47).st S54
    replace h24 := (h24.st S47).st S54
    replace h31 := (h31.st S47).st S54
    replace h36 := h36.st S54
    exact ⟨(), _, ⟨rfl, rfl, rfl, trivial⟩, hB, h31, h9, h12, h15, h18, h21, h24, h36⟩
   replace hy40 := iT hy40
   refine owp_yes rfl rfl (o_nt rfl rfl (o_pf rfl rfl rfl (o_mv rfl rfl (owp_yes rfl rfl ?_))))
   obtain ⟨q57, e58, hy40⟩ := bs hy40
   refine l_callA (O := O53) (A := All w52) (R := fun w' F v => Vb w' F v q57) (c_law51_awake (fun _ h => h)  e58) rfl rfl fun v63 w59 O60 S61 h62 => ?_
   obtain rfl := h62.bool
   cases q57
   case false =>
    replace hy40 := iF hy40
    refine owp_yes rfl rfl (o_nf rfl rfl (o_pf rfl rfl rfl (o_z ?_)))
    obtain rfl := sm hy40
    replace hB := (((((hB.st S30).st S35).st S38).st S47).st S54).st S61
    replace h9 := (h9.st S54).st S61
    replace h12 := (h12.st S54).st S61
    replace h15 := (h15.st S54).st S61
    replace h18 := (h18.st S54).st S61
    replace h21 := ((h21.st S47).st S54).st S61
    replace h24 := ((h24.st S47).st S54).st S61
    replace h31 := ((h31.st S47).st S54).st S61
    replace h36 := (h36.st S54).st S61
    exact ⟨(), _, ⟨rfl, rfl, rfl, trivial⟩, hB, h31, h9, h12, h15, h18, h21, h24, h36⟩
   replace hy40 := iT hy40
   refine owp_yes rfl rfl (o_nt rfl rfl (o_pf rfl rfl rfl (o_z ?_)))
   obtain rfl := sm hy40
   replace hB := (((((hB.st S30).st S35).st S38).st S47).st S54).st S61
   replace h9 := (h9.st S54).st S61
   replace h12 := (h12.st S54).st S61
   replace h15 := (h15.st S54).st S61
   replace h18 := (h18.st S54).st S61
   replace h21 := ((h21.st S47).st S54).st S61
   replace h24 := ((h24.st S47).st S54).st S61
   replace h31 := ((h31.st S47).st S54).st S61
   replace h36 := (h36.st S54).st S61
   exact ⟨(), _, ⟨rfl, rfl, rfl, trivial⟩, hB, h31, h9, h12, h15, h18, h21, h24, h36⟩
  replace hy40 := iT hy40
  refine o_mv rfl rfl (owp_no rfl rfl rfl rfl (owp_no rfl rfl rfl rfl (owp_no rfl rfl rfl rfl (o_pt rfl rfl rfl (o_mv rfl rfl (owp_no rfl rfl rfl rfl (owp_no rfl rfl rfl rfl (o_pt rfl rfl rfl (o_z ?_)))))))))
  obtain rfl := sm hy40
  replace hB := (((hB.st S30).st S35).st S38).st S47
  replace h9 := h9.st S47
  replace h12 := h12.st S47
  replace h15 := h15.st S47
  replace h18 := h18.st S47
  replace h21 := h21.st S47
  replace h24 := h24.st S47
  replace h31 := h31.st S47
  replace h36 := h36.st S47
  exact ⟨(), _, ⟨rfl, rfl, rfl, trivial⟩, hB, h31, h9, h12, h15, h18, h21, h24, h36⟩
 replace hB := ((hB.st S30).st S35).st S38
 replace h9 := ((h9.st S30).st S35).st S38
 replace h12 := ((h12.st S30).st S35).st S38
 replace h15 := ((h15.st S30).st S35).st S38
 replace h18 := ((h18.st S30).st S35).st S38
 replace h21 := ((h21.st S30).st S35).st S38
 replace h24 := ((h24.st S30).st S35).st S38
 replace h31 := (h31.st S35).st S38
 rintro l64 w65 ⟨x42, O66, hs67, hB, h31, h9, h12, h15, h18, h21, h24, h36⟩
 refine ewp_sub _ hs67 ?_
 refine ewp_cond rfl (fun c68 => ?_) (fun c68 => ?_)
 ·
  replace hm := ip hm c68
  refine ewp_seq ?_
  obtain ⟨y69, hy70, hm⟩ := bs hm
  refine ewp_join (fun l' w' => ∃ (x72 : Unit) (O' : Lab), subs l' [(2, (.bool y69))] ∧ Bs w A w' O') ?_ ?_
  ·
   refine ewp_region ?_
   obtain ⟨q73, e74, hy70⟩ := bs hy70
   refine l_callA (O := O66) (A := All w65) (R := fun w' F v => Vb w' F v q73) (c_law51_awake (fun _ h => h)  e74) rfl rfl fun v79 w75 O76 S77 h78 => ?_
   obtain rfl := h78.bool
   cases q73
   case false =>
    replace hy70 := iF hy70
    refine o_as rfl rfl (o_z ?_)
    obtain rfl := sm hy70
    replace hB := hB.st S77
    exact ⟨(), _, ⟨rfl, trivial⟩, hB⟩
   replace hy70 := iT hy70
   refine o_as rfl rfl (o_z ?_)
   obtain rfl := sm hy70
   replace hB := hB.st S77
   exact ⟨(), _, ⟨rfl, trivial⟩, hB⟩
  rintro l80 w81 ⟨x72, O82, hs83, hB⟩
  refine ewp_sub _ hs83 ?_
  refine ewp_ret ?_
  obtain rfl := sm hm
  exact ret1v rfl (res_tmp rfl) ⟨hB.ext, vBool⟩
 ·
  replace hm := im' hm c68
  refine ewp_skip (ewp_seq (ewp_region (o_la (hl := rfl) (hc := (h36.1).cellsAt) rfl rfl ?_)))
  refine o_fa rfl rfl (o_ld (hc := Blk.cell (i := 4) (h31.1) rfl) rfl rfl ?_)
  refine o_fa rfl rfl (o_ld (hc := Blk.cell (i := 5) (h31.1) rfl) rfl rfl ?_)
  obtain ⟨q84, e85, hm⟩ := bs hm
  refine l_call (O := O66) (R := fun w' F v => T3 w' F v q84) (c_symmetry_Canonical Fr.lt (Vb.ofAgg (cs := [(.slice A10 x0.task.vars.length c11), (.slice A13 x0.task.init.length c14), (.slice A16 x0.task.goal.length c17), (.slice A19 x0.task.ops.length c20)]) (x := (⟨x0.task.vars, x0.task.init, x0.task.goal, x0.task.ops⟩ : Tsk)) rfl ⟨_, _, _, _, rfl, h9, h12, h15, h18⟩) h21 h24 e85) rfl rfl fun v90 w86 O87 S88 h89 => ?_
  obtain ⟨v91, v92, v93, rfl, h94, h95, h96⟩ := h89
  obtain ⟨A97, c98, rfl⟩ := h94.form
  obtain ⟨A99, c100, rfl⟩ := h95.form
  obtain ⟨rfl, r101⟩ := h96.err
  refine o_mv rfl rfl (o_ex rfl rfl rfl (o_ex rfl rfl rfl (o_ex rfl rfl rfl (o_as rfl rfl (o_as rfl rfl (o_as rfl rfl (o_z ?_)))))))
  refine ewp_seq (ewp_seq (ewp_region (o_mv rfl rfl (o_rnS rfl rfl (fun c102 => ?_) fun c102 => ?_))))
  ·
   replace hm := ip hm c102
   refine o_z ?_
   refine ewp_true rfl (ewp_seq (ewp_region (o_as rfl rfl (o_z ?_))))
   refine ewp_ret ?_
   obtain rfl := sm hm
   replace hB := hB.st S88
   exact ret1v rfl (res_tmp rfl) ⟨hB.ext, vBool⟩
  ·
   replace hm := im hm c102
   refine o_z ?_
   refine ewp_false rfl (ewp_skip (ewp_seq (ewp_region (l_bslice 4 (by decide) O87 (xs := (([] : List Int) : List Int)) rfl rfl rfl rfl trivial (by decide) (by decide) rfl fun g103 w104 O105 S106 h107 => ?_))))
   refine o_fa rfl rfl ?_
   replace h31 := (h31.st S88).st S106
   refine o_ld (hc := Blk.cell (i := 5) (h31.1) rfl) rfl rfl ?_
   obtain ⟨u109, e110, hm⟩ := bs hm
   obtain ⟨e110, e111, e112⟩ := appI_some e110
   replace h24 := (h24.st S88).st S106
   refine l_append rfl h107 (h24.rd) rfl rfl (by decide) e111 e112 rfl fun A113 c114 w115 O116 S117 h118 => ?_
   rw [← e110] at h118 ⊢
   refine o_as rfl rfl (o_z ?_)
   refine ewp_seq (ewp_seq (ewp_region (o_mv rfl rfl (o_ln rfl rfl ?_))))
   replace h95 := (h95.st S106).st S117
   have l121 : q84.2.1.length ≤ 9223372036854775807 := Nat.le_trans h95.len.2.1 h95.len.2.2
   have r120 : inI64 (q84.2.1.length : Int) := rngNat l121
   refine o_mv rfl rfl (o_z ?_)
   obtain ⟨res122, hL123, hm⟩ := bs hm
   refine ewp_join (aft res122 (fun (s124 : (List Int)) (x125 : (Option Addr × Nat)) => [(1, (.pointer (some ⟨g27, 0, none⟩))), (3, (.pointer (some ⟨g32, 0, none⟩))), (4, (.slice A97 q84.1.length c98)), (7, (.slice x125.1 s124.length x125.2))]) (fun s124 x125 w' => ∃ O' : Lab, Bs w A w' O' ∧ Lc 2 w' O' g27 54 [(.slice A10 x0.task.vars.length c11), (.slice A13 x0.task.init.length c14), (.slice A16 x0.task.goal.length c17), (.slice A19 x0.task.ops.length c20), (.slice A22 x0.gens.length c23), (.slice A25 x0.state.length c26)] ∧ Vb w' (Fr 0 w' O') (.slice A10 x0.task.vars.length c11) x0.task.vars ∧ Vb w' (Fr 0 w' O') (.slice A13 x0.task.init.length c14) x0.task.init ∧ Vb w' (Fr 0 w' O') (.slice A16 x0.task.goal.length c17) x0.task.goal ∧ Vb w' (Fr 0 w' O') (.slice A19 x0.task.ops.length c20) x0.task.ops ∧ Vb w' (Fr 0 w' O') (.slice A22 x0.gens.length c23) x0.gens ∧ Vb w' (Fr 0 w' O') (.slice A25 x0.state.length c26) x0.state ∧ Lc 3 w' O' g32 26 [(.slice A10 x0.task.vars.length c11), (.slice A13 x0.task.init.length c14), (.slice A16 x0.task.goal.length c17), (.slice A19 x0.task.ops.length c20)] ∧ Vb w' (Fr 0 w' O') (.slice A97 q84.1.length c98) q84.1 ∧ Vb w' (Fr 0 w' O') (.slice x125.1 s124.length x125.2) s124)) ?_ ?_
   ·
    refine ewp_block ?_
    obtain ⟨O139, S140, h118⟩ := h118.freeze
    replace hB := (((hB.st S88).st S106).st S117).st S140
    replace h9 := (((h9.st S88).st S106).st S117).st S140
    replace h12 := (((h12.st S88).st S106).st S117).st S140
    replace h15 := (((h15.st S88).st S106).st S117).st S140
    replace h18 := (((h18.st S88).st S106).st S117).st S140
    replace h21 := (((h21.st S88).st S106).st S117).st S140
    replace h24 := (h24.st S117).st S140
    replace h31 := (h31.st S117).st S140
    replace h36 := (((h36.st S88).st S106).st S117).st S140
    replace h94 := ((h94.st S106).st S117).st S140
    replace h95 := h95.st S140
    refine ewp_rng (σ := (List Int)) (X := (Option Addr × Nat)) (q84.2.1.length) hL123 rfl l121 (fun (s124 : (List Int)) (x125 : (Option Addr × Nat)) => [(1, (.pointer (some ⟨g27, 0, none⟩))), (3, (.pointer (some ⟨g32, 0, none⟩))), (4, (.slice A97 q84.1.length c98)), (7, (.slice x125.1 s124.length x125.2)), (48, (.slice A99 q84.2.1.length c100))]) _ (fun s124 x125 w' => ∃ O' : Lab, Bs w A w' O' ∧ Lc 2 w' O' g27 54 [(.slice A10 x0.task.vars.length c11), (.slice A13 x0.task.init.length c14), (.slice A16 x0.task.goal.length c17), (.slice A19 x0.task.ops.length c20), (.slice A22 x0.gens.length c23), (.slice A25 x0.state.length c26)] ∧ Vb w' (Fr 0 w' O') (.slice A10 x0.task.vars.length c11) x0.task.vars ∧ Vb w' (Fr 0 w' O') (.slice A13 x0.task.init.length c14) x0.task.init ∧ Vb w' (Fr 0 w' O') (.slice A16 x0.task.goal.length c17) x0.task.goal ∧ Vb w' (Fr 0 w' O') (.slice A19 x0.task.ops.length c20) x0.task.ops ∧ Vb w' (Fr 0 w' O') (.slice A22 x0.gens.length c23) x0.gens ∧ Vb w' (Fr 0 w' O') (.slice A25 x0.state.length c26) x0.state ∧ Lc 3 w' O' g32 26 [(.slice A10 x0.task.vars.length c11), (.slice A13 x0.task.init.length c14), (.slice A16 x0.task.goal.length c17), (.slice A19 x0.task.ops.length c20)] ∧ Vb w' (Fr 0 w' O') (.slice A97 q84.1.length c98) q84.1 ∧ Vb w' (Fr 0 w' O') (.slice x125.1 s124.length x125.2) s124 ∧ Vb w' (Fr 0 w' O') (.slice A99 q84.2.1.length c100) q84.2.1) _ (A113, c114) ⟨O139, hB, h31, h9, h12, h15, h18, h21, h24, h36, h94, h118, h95⟩ ⟨rfl, rfl, rfl, rfl, rfl, rfl, rfl, trivial⟩ (fun _ _ => ⟨rfl, rfl⟩) (fun _ _ => ⟨rfl, rfl, rfl, rfl, trivial⟩) (fun _ _ _ ⟨O', hB, h31, h9, h12, h15, h18, h21, h24, h36, h94, h138, h95⟩ => ⟨O', hB, h31, h9, h12, h15, h18, h21, h24, h36, h94, h138⟩) ⟨rfl, rfl, rfl⟩ ⟨rfl, rfl⟩ ?_
    rintro k126 a127 s124 x125 w128 cc130 hx131 ⟨O129, hB, h31, h9, h12, h15, h18, h21, h24, h36, h94, h138, h95⟩ hf132 hret133 hbrk134
    have rk126 : inI64 (k126 : Int) := rngK hx131 l121
    refine ewp_seq (ewp_region ?_)
    obtain ⟨b141, o142, ce143, hA144, hl145, hd146, rfl, r148⟩ := h95.elem' hx131
    refine o_iaE (hA := hA144) (hj := rfl) (hlt := hl145) rfl rfl rfl ?_
    refine o_ld (hc := cat0 hd146) rfl rfl ?_
    refine o_as rfl rfl (o_z ?_)
    refine ewp_seq (ewp_seq ?_)
    obtain ⟨y149, hy150, hf132⟩ := bs hf132
    refine ewp_join (fun l' w' => ∃ (x152 : Unit) (O' : Lab), subs l' [(1, (.pointer (some ⟨g27, 0, none⟩))), (3, (.pointer (some ⟨g32, 0, none⟩))), (4, (.slice A97 q84.1.length c98)), (7, (.slice x125.1 s124.length x125.2)), (9, (.int .i64 a127)), (48, (.slice A99 q84.2.1.length c100)), (49, (.int .i64 (q84.2.1.length : Int))), (50, (.int .i64 (k126 : Int))), (62, (.bool y149))] ∧ Bs w A w' O' ∧ Lc 2 w' O' g27 54 [(.slice A10 x0.task.vars.length c11), (.slice A13 x0.task.init.length c14), (.slice A16 x0.task.goal.length c17), (.slice A19 x0.task.ops.length c20), (.slice A22 x0.gens.length c23), (.slice A25 x0.state.length c26)] ∧ Vb w' (Fr 0 w' O') (.slice A10 x0.task.vars.length c11) x0.task.vars ∧ Vb w' (Fr 0 w' O') (.slice A13 x0.task.init.length c14) x0.task.init ∧ Vb w' (Fr 0 w' O') (.slice A16 x0.task.goal.length c17) x0.task.goal ∧ Vb w' (Fr 0 w' O') (.slice A19 x0.task.ops.length c20) x0.task.ops ∧ Vb w' (Fr 0 w' O') (.slice A22 x0.gens.length c23) x0.gens ∧ Vb w' (Fr 0 w' O') (.slice A25 x0.state.length c26) x0.state ∧ Lc 3 w' O' g32 26 [(.slice A10 x0.task.vars.length c11), (.slice A13 x0.task.init.length c14), (.slice A16 x0.task.goal.length c17), (.slice A19 x0.task.ops.length c20)] ∧ Vb w' (Fr 0 w' O') (.slice A97 q84.1.length c98) q84.1 ∧ Vb w' (Fr 0 w' O') (.slice x125.1 s124.length x125.2) s124 ∧ Vb w' (Fr 0 w' O') (.slice A99 q84.2.1.length c100) q84.2.1) ?_ ?_
    ·
     refine ewp_region (o_mv rfl rfl (o_ltS rfl rfl rfl (fun c153 => ?_) fun c153 => ?_))
     ·
      replace hy150 := ip hy150 c153
      refine o_mv rfl rfl (owp_no rfl rfl rfl rfl (owp_no rfl rfl rfl rfl (owp_no rfl rfl rfl rfl (owp_no rfl rfl rfl rfl (owp_no rfl rfl rfl rfl (o_pt rfl rfl rfl (o_z ?_)))))))
      obtain rfl := sm hy150
      exact ⟨(), _, ⟨rfl, rfl, rfl, rfl, rfl, rfl, rfl, rfl, rfl, trivial⟩, hB, h31, h9, h12, h15, h18, h21, h24, h36, h94, h138, h95⟩
     ·
      replace hy150 := im hy150 c153
      refine o_mv rfl rfl (owp_yes rfl rfl (o_mv rfl rfl (owp_yes rfl rfl (o_fa rfl rfl (owp_yes rfl rfl (o_ld (hc := Blk.cell (i := 4) (h31.1) rfl) rfl rfl ?_))))))
      refine owp_yes rfl rfl (o_ln rfl rfl ?_)
      have l155 : x0.gens.length ≤ 9223372036854775807 := Nat.le_trans h21.len.2.1 h21.len.2.2
      have r154 : inI64 (x0.gens.length : Int) := rngNat l155
      refine owp_yes rfl rfl (o_geS rfl rfl rfl (fun c156 => ?_) fun c156 => ?_)
      ·
       replace hy150 := ip hy150 c156
       refine o_pf rfl rfl rfl (o_z ?_)
       obtain rfl := sm hy150
       exact ⟨(), _, ⟨rfl, rfl, rfl, rfl, rfl, rfl, rfl, rfl, rfl, trivial⟩, hB, h31, h9, h12, h15, h18, h21, h24, h36, h94, h138, h95⟩
      ·
       replace hy150 := im hy150 c156
       refine o_pf rfl rfl rfl (o_z ?_)
       obtain rfl := sm hy150
       exact ⟨(), _, ⟨rfl, rfl, rfl, rfl, rfl, rfl, rfl, rfl, rfl, trivial⟩, hB, h31, h9, h12, h15, h18, h21, h24, h36, h94, h138, h95⟩
    rintro l157 w158 ⟨x152, O159, hs160, hB, h31, h9, h12, h15, h18, h21, h24, h36, h94, h138, h95⟩
    refine ewp_sub _ hs160 ?_
    refine ewp_cond rfl (fun c161 => ?_) (fun c161 => ?_)
    ·
     replace hf132 := ip hf132 c161
     refine ewp_seq (ewp_region (o_as rfl rfl (o_z ?_)))
     refine ewp_ret ?_
     obtain rfl := sm hf132
     obtain rfl := hret133 _ rfl
     obtain rfl := sm (fin_ret hm)
     exact ret1v rfl (res_tmp rfl) ⟨hB.ext, vBool⟩
    ·
     replace hf132 := im' hf132 c161
     refine ewp_skip (ewp_seq (ewp_drawX [(7, [])] O159 ?_))
     refine x_pre (fuel := 6) [] [(0, true), (1, true), (2, true), (3, true), (4, true), (5, true), (6, true)] (by kernel_rfl) rfl ?_
     refine h_laB (hl := rfl) (hb := fun w' ⟨O', hq⟩ => ((h36.st hq (by decide)).1).cellsAt) rfl rfl rfl ?_
     refine h_fa rfl rfl rfl (h_ldC (hc := fun w' ⟨O', hq⟩ => Blk.cell (i := 4) ((h31.st hq (by decide)).1) rfl) rfl rfl rfl ?_)
     refine h_mv rfl rfl rfl ?_
     obtain ⟨a162, e163, hf132⟩ := bs hf132
     obtain ⟨p165, x164⟩ := atI_some' e163
     obtain ⟨b166, o167, ce168, hA169, hF172, hl170, hd171, v173, v174, v175, rfl, h176, h179, h182⟩ := h21.elem x164
     obtain ⟨A177, c178, rfl⟩ := h176.form
     obtain ⟨A180, c181, rfl⟩ := h179.form
     obtain ⟨A183, c184, rfl⟩ := h182.form
     refine h_iaE (hA := hA169) (hj := (Int.toNat_of_nonneg p165).symm) (hlt := hl170) rfl rfl rfl rfl ?_
     refine h_laB (hl := rfl) (hb := fun w' ⟨O', hq⟩ => (cellsAt_agree (hq.agree (i := 0) (by decide)) hF172 hd171)) rfl rfl rfl ?_
     refine h_mv rfl rfl rfl (hwp_nilT ?_)
     refine x_one (i := 7) (by kernel_rfl) rfl ?_
     obtain ⟨q185, e186, hf132⟩ := bs hf132
     refine l_call (O := O159) (R := fun w' F v => T2 w' F v q185) (c_symmetry_State Fr.lt (Vb.ofAgg (cs := [(.slice A10 x0.task.vars.length c11), (.slice A13 x0.task.init.length c14), (.slice A16 x0.task.goal.length c17), (.slice A19 x0.task.ops.length c20)]) (x := (⟨x0.task.vars, x0.task.init, x0.task.goal, x0.task.ops⟩ : Tsk)) rfl ⟨_, _, _, _, rfl, h9, h12, h15, h18⟩) (Vb.ofAgg (cs := [(.slice A177 a162.vars.length c178), (.slice A180 a162.vals.length c181), (.slice A183 a162.ops.length c184)]) (x := a162) rfl ⟨_, _, _, rfl, h176, h179, h182⟩) h138 e186) rfl rfl fun v191 w187 O188 S189 h190 => ?_
     obtain ⟨v192, v193, rfl, h194, h195⟩ := h190
     obtain ⟨A196, c197, rfl⟩ := h194.form
     obtain ⟨rfl, r198⟩ := h195.err
     have hZ := S189.lst [] (fun _ h => h.elim)
     refine x_go [] hZ (by kernel_rfl) ?_
     refine x_pre (fuel := 0) [] [(8, true), (9, true), (10, true), (11, true), (12, true)] (by kernel_rfl) rfl ?_
     refine h_mv rfl rfl rfl (h_ex rfl rfl rfl rfl (h_ex rfl rfl rfl rfl (h_as rfl rfl rfl (h_as rfl rfl rfl (hwp_nilT ?_)))))
     refine x_nil (by kernel_rfl) ?_
     refine ewp_seq (ewp_seq (ewp_region (o_mv rfl rfl (o_rnS rfl rfl (fun c199 => ?_) fun c199 => ?_))))
     ·
      replace hf132 := ip hf132 c199
      refine o_z ?_
      refine ewp_true rfl (ewp_seq (ewp_region (o_as rfl rfl (o_z ?_))))
      refine ewp_ret ?_
      obtain rfl := sm hf132
      obtain rfl := hret133 _ rfl
      obtain rfl := sm (fin_ret hm)
      replace hB := hB.st S189
      exact ret1v rfl (res_tmp rfl) ⟨hB.ext, vBool⟩
     ·
      replace hf132 := im hf132 c199
      refine o_z ?_
      refine ewp_false rfl (ewp_skip (ewp_region (o_mv rfl rfl (o_as rfl rfl (o_z ?_)))))
      obtain rfl := sm hf132
      refine (?_ : Exists _)
      replace hB := hB.st S189
      replace h9 := h9.st S189
      replace h12 := h12.st S189
      replace h15 := h15.st S189
      replace h18 := h18.st S189
      replace h21 := h21.st S189
      replace h24 := h24.st S189
      replace h31 := h31.st S189
      replace h36 := h36.st S189
      replace h94 := h94.st S189
      replace h95 := h95.st S189
      exact ⟨_, (A196, c197), rfl, ⟨rfl, rfl, rfl, rfl, rfl, rfl, rfl, trivial⟩, _, hB, h31, h9, h12, h15, h18, h21, h24, h36, h94, h194, h95⟩
   replace hB := ((hB.st S88).st S106).st S117
   replace h9 := ((h9.st S88).st S106).st S117
   replace h12 := ((h12.st S88).st S106).st S117
   replace h15 := ((h15.st S88).st S106).st S117
   replace h18 := ((h18.st S88).st S106).st S117
   replace h21 := ((h21.st S88).st S106).st S117
   replace h24 := h24.st S117
   replace h31 := h31.st S117
   replace h36 := ((h36.st S88).st S106).st S117
   replace h94 := (h94.st S106).st S117
   rintro l200 w201 ⟨s204, x205, rfl, hs203, O202, hB, h31, h9, h12, h15, h18, h21, h24, h36, h94, h138⟩
   replace hm := fin_done hm
   refine ewp_sub _ hs203 ?_
   refine ewp_seq (ewp_region (o_la (hl := rfl) (hc := (h36.1).cellsAt) rfl rfl ?_))
   refine o_fa rfl rfl (o_ld (hc := Blk.cell (i := 4) (h31.1) rfl) rfl rfl ?_)
   refine o_fa rfl rfl (o_ld (hc := Blk.cell (i := 5) (h31.1) rfl) rfl rfl ?_)
   obtain ⟨q206, e207, hm⟩ := bs hm
   refine l_call (O := O202) (R := fun w' F v => T2 w' F v q206) (c_symmetry_Orbit Fr.lt (Vb.ofAgg (cs := [(.slice A10 x0.task.vars.length c11), (.slice A13 x0.task.init.length c14), (.slice A16 x0.task.goal.length c17), (.slice A19 x0.task.ops.length c20)]) (x := (⟨x0.task.vars, x0.task.init, x0.task.goal, x0.task.ops⟩ : Tsk)) rfl ⟨_, _, _, _, rfl, h9, h12, h15, h18⟩) h21 h24 (show inI64 (600) from by decide) e207) rfl rfl fun v212 w208 O209 S210 h211 => ?_
   obtain ⟨v213, v214, rfl, h215, h216⟩ := h211
   obtain ⟨A217, c218, rfl⟩ := h215.form
   obtain ⟨rfl, r219⟩ := h216.err
   refine o_mv rfl rfl (o_ex rfl rfl rfl (o_ex rfl rfl rfl (o_as rfl rfl (o_as rfl rfl (o_z ?_)))))
   refine ewp_seq (ewp_seq ?_)
   obtain ⟨y220, hy221, hm⟩ := bs hm
   refine ewp_join (fun l' w' => ∃ (x223 : Unit) (O' : Lab), subs l' [(1, (.pointer (some ⟨g27, 0, none⟩))), (3, (.pointer (some ⟨g32, 0, none⟩))), (4, (.slice A97 q84.1.length c98)), (12, (.slice A217 q206.1.length c218)), (121, (.bool y220))] ∧ Bs w A w' O' ∧ Lc 2 w' O' g27 54 [(.slice A10 x0.task.vars.length c11), (.slice A13 x0.task.init.length c14), (.slice A16 x0.task.goal.length c17), (.slice A19 x0.task.ops.length c20), (.slice A22 x0.gens.length c23), (.slice A25 x0.state.length c26)] ∧ Vb w' (Fr 0 w' O') (.slice A10 x0.task.vars.length c11) x0.task.vars ∧ Vb w' (Fr 0 w' O') (.slice A13 x0.task.init.length c14) x0.task.init ∧ Vb w' (Fr 0 w' O') (.slice A16 x0.task.goal.length c17) x0.task.goal ∧ Vb w' (Fr 0 w' O') (.slice A19 x0.task.ops.length c20) x0.task.ops ∧ Vb w' (Fr 0 w' O') (.slice A22 x0.gens.length c23) x0.gens ∧ Vb w' (Fr 0 w' O') (.slice A25 x0.state.length c26) x0.state ∧ Lc 3 w' O' g32 26 [(.slice A10 x0.task.vars.length c11), (.slice A13 x0.task.init.length c14), (.slice A16 x0.task.goal.length c17), (.slice A19 x0.task.ops.length c20)] ∧ Vb w' (Fr 0 w' O') (.slice A97 q84.1.length c98) q84.1 ∧ Vb w' (Fr 0 w' O') (.slice A217 q206.1.length c218) q206.1) ?_ ?_
   ·
    refine ewp_drawX [(6, []), (14, []), (20, []), (27, []), (32, [])] O209 ?_
    refine x_pre (fuel := 29) [] [(0, true), (1, true), (2, true), (3, true), (4, true), (5, true)] (by kernel_rfl) rfl ?_
    refine h_mv rfl rfl rfl (hwp_o rfl (hwq_split (fun _ _ => ev_errN rfl) rfl (fun c224 => ?_) (fun c224 => ?_)))
    ·
     replace hy221 := ip hy221 c224
     refine h_mv rfl rfl rfl (h_no rfl rfl rfl rfl rfl (h_no rfl rfl rfl rfl rfl (h_no rfl rfl rfl rfl rfl (hwp_nilT ?_))))
     refine x_one (i := 6) (by kernel_rfl) rfl ?_
     refine owp_no rfl rfl rfl rfl (x_go [(14, []), (20, []), (27, []), (32, [])] ((St.refl nT _ _).lst [] (fun _ h => h.elim)) (by kernel_rfl) ?_)
     refine x_pre (fuel := 21) [] [(7, true), (8, true), (9, true), (10, true), (11, true), (12, true), (13, true)] (by kernel_rfl) rfl ?_
     refine h_no rfl rfl rfl rfl rfl (h_pt rfl rfl rfl rfl (h_mv rfl rfl rfl (h_no rfl rfl rfl rfl rfl (h_no rfl rfl rfl rfl rfl (h_no rfl rfl rfl rfl rfl (h_no rfl rfl rfl rfl rfl (hwp_nilT ?_)))))))
     refine x_one (i := 14) (by kernel_rfl) rfl ?_
     refine owp_no rfl rfl rfl rfl (x_go [(20, []), (27, []), (32, [])] ((St.refl nT _ _).lst [] (fun _ h => h.elim)) (by kernel_rfl) ?_)
     refine x_pre (fuel := 15) [] [(15, true), (16, true), (17, true), (18, true), (19, true)] (by kernel_rfl) rfl ?_
     refine h_no rfl rfl rfl rfl rfl (h_pt rfl rfl rfl rfl (h_mv rfl rfl rfl (h_no rfl rfl rfl rfl rfl (h_no rfl rfl rfl rfl rfl (hwp_nilT ?_)))))
     refine x_one (i := 20) (by kernel_rfl) rfl ?_
     refine owp_no rfl rfl rfl rfl (x_go [(27, []), (32, [])] ((St.refl nT _ _).lst [] (fun _ h => h.elim)) (by kernel_rfl) ?_)
     refine x_pre (fuel := 4) [] [(21, true), (22, true), (23, true), (24, true), (25, true), (26, true), (28, true), (29, true), (30, true), (31, true)] (by kernel_rfl) rfl ?_
     refine h_no rfl rfl rfl rfl rfl (h_pt rfl rfl rfl rfl (h_mv rfl rfl rfl (h_no rfl rfl rfl rfl rfl (h_no rfl rfl rfl rfl rfl (h_no rfl rfl rfl rfl rfl (h_no rfl rfl rfl rfl rfl (h_no rfl rfl rfl rfl rfl (h_no rfl rfl rfl rfl rfl (h_no rfl rfl rfl rfl rfl (hwp_nilT ?_))))))))))
     refine x_one (i := 27) (by kernel_rfl) rfl ?_
     refine owp_no rfl rfl rfl rfl (x_go [(32, [])] ((St.refl nT _ _).lst [] (fun _ h => h.elim)) (by kernel_rfl) ?_)
     refine x_one (i := 32) (by kernel_rfl) rfl ?_
     refine owp_no rfl rfl rfl rfl (x_go [] ((St.refl nT _ _).lst [] (fun _ h => h.elim)) (by kernel_rfl) ?_)
     refine x_pre (fuel := 0) [] [(33, true), (34, true)] (by kernel_rfl) rfl ?_
     refine h_no rfl rfl rfl rfl rfl (h_pt rfl rfl rfl rfl (hwp_nilT ?_))
     refine x_nil (by kernel_rfl) ?_
     obtain rfl := sm hy221
     replace hB := hB.st S210
     replace h9 := h9.st S210
     replace h12 := h12.st S210
     replace h15 := h15.st S210
     replace h18 := h18.st S210
     replace h21 := h21.st S210
     replace h24 := h24.st S210
     replace h31 := h31.st S210
     replace h36 := h36.st S210
     replace h94 := h94.st S210
     exact ⟨(), _, ⟨rfl, rfl, rfl, rfl, rfl, trivial⟩, hB, h31, h9, h12, h15, h18, h21, h24, h36, h94, h215⟩
    ·
     replace hy221 := im hy221 c224
     refine h_mv rfl rfl rfl (hwp_o rfl (hwq_yes rfl rfl (g_fa rfl rfl (hwp_o rfl (hwq_yes rfl rfl ?_)))))
     replace h36 := h36.st S210
     refine g_ldC (hc := fun w' ⟨O', hq⟩ => Blk.cell (i := 0) ((h36.st hq (by decide)).1) rfl) rfl rfl ?_
     refine hwp_o rfl (hwq_yes rfl rfl (g_mv rfl rfl (hwp_nilT ?_)))
     refine x_one (i := 6) (by kernel_rfl) rfl ?_
     refine owp_yes rfl rfl ?_
     obtain ⟨q225, e226, hy221⟩ := bs hy221
     replace h9 := h9.st S210
     replace h94 := h94.st S210
     refine l_callA (O := O209) (A := All w208) (R := fun w' F v => Vb w' F v q225) (c_base_State (fun _ h => h) (Vb.mono (F := Fr 0 w208 O209) h9 Fr.lt) (Vb.mono (F := Fr 0 w208 O209) h94 Fr.lt) e226) rfl rfl fun v231 w227 O228 S229 h230 => ?_
     obtain rfl := h230.bool
     have hZ := S229.lst [] (fun _ h => h.elim)
     cases q225
     case false =>
      replace hy221 := iF hy221
      refine x_go [(14, []), (20, []), (27, []), (32, [])] hZ (by kernel_rfl) ?_
      refine x_pre (fuel := 21) [] [(7, true), (8, true), (9, true), (10, true), (11, true), (12, true), (13, true)] (by kernel_rfl) rfl ?_
      refine hwp_o rfl (hwq_yes rfl rfl (g_nf rfl rfl (h_pf rfl rfl rfl rfl (h_mv rfl rfl rfl (h_no rfl rfl rfl rfl rfl (h_no rfl rfl rfl rfl rfl (h_no rfl rfl rfl rfl rfl (h_no rfl rfl rfl rfl rfl (hwp_nilT ?_)))))))))
      refine x_one (i := 14) (by kernel_rfl) rfl ?_
      refine owp_no rfl rfl rfl rfl (x_go [(20, []), (27, []), (32, [])] ((St.refl nT _ _).lst [] (fun _ h => h.elim)) (by kernel_rfl) ?_)
      refine x_pre (fuel := 15) [] [(15, true), (16, true), (17, true), (18, true), (19, true)] (by kernel_rfl) rfl ?_
      refine h_no rfl rfl rfl rfl rfl (h_pt rfl rfl rfl rfl (h_mv rfl rfl rfl (h_no rfl rfl rfl rfl rfl (h_no rfl rfl rfl rfl rfl (hwp_nilT ?_)))))
      refine x_one (i := 20) (by kernel_rfl) rfl ?_
      refine owp_no rfl rfl rfl rfl (x_go [(27, []), (32, [])] ((St.refl nT _ _).lst [] (fun _ h => h.elim)) (by kernel_rfl) ?_)
      refine x_pre (fuel := 4) [] [(21, true), (22, true), (23, true), (24, true), (25, true), (26, true), (28, true), (29, true), (30, true), (31, true)] (by kernel_rfl) rfl ?_
      refine h_no rfl rfl rfl rfl rfl (h_pt rfl rfl rfl rfl (h_mv rfl rfl rfl (h_no rfl rfl rfl rfl rfl (h_no rfl rfl rfl rfl rfl (h_no rfl rfl rfl rfl rfl (h_no rfl rfl rfl rfl rfl (h_no rfl rfl rfl rfl rfl (h_no rfl rfl rfl rfl rfl (h_no rfl rfl rfl rfl rfl (hwp_nilT ?_))))))))))
      refine x_one (i := 27) (by kernel_rfl) rfl ?_
      refine owp_no rfl rfl rfl rfl (x_go [(32, [])] ((St.refl nT _ _).lst [] (fun _ h => h.elim)) (by kernel_rfl) ?_)
      refine x_one (i := 32) (by kernel_rfl) rfl ?_
      refine owp_no rfl rfl rfl rfl (x_go [] ((St.refl nT _ _).lst [] (fun _ h => h.elim)) (by kernel_rfl) ?_)
      refine x_pre (fuel := 0) [] [(33, true), (34, true)] (by kernel_rfl) rfl ?_
      refine h_no rfl rfl rfl rfl rfl (h_pt rfl rfl rfl rfl (hwp_nilT ?_))
      refine x_nil (by kernel_rfl) ?_
      obtain rfl := sm hy221
      replace hB := (hB.st S210).st S229
      replace h9 := h9.st S229
      replace h12 := (h12.st S210).st S229
      replace h15 := (h15.st S210).st S229
      replace h18 := (h18.st S210).st S229
      replace h21 := (h21.st S210).st S229
      replace h24 := (h24.st S210).st S229
      replace h31 := (h31.st S210).st S229
      replace h36 := h36.st S229
      replace h94 := h94.st S229
      replace h215 := h215.st S229
      exact ⟨(), _, ⟨rfl, rfl, rfl, rfl, rfl, trivial⟩, hB, h31, h9, h12, h15, h18, h21, h24, h36, h94, h215⟩
     replace hy221 := iT hy221
     refine x_go [(14, []), (20, []), (27, []), (32, [])] hZ (by kernel_rfl) ?_
     refine x_pre (fuel := 21) [] [(7, true), (8, true), (9, true), (10, true), (11, true), (12, true), (13, true)] (by kernel_rfl) rfl ?_
     refine hwp_o rfl (hwq_yes rfl rfl (g_nt rfl rfl (h_pf rfl rfl rfl rfl (h_mv rfl rfl rfl (hwp_o rfl (hwq_yes rfl rfl (g_fa rfl rfl (hwp_o rfl (hwq_yes rfl rfl ?_)))))))))
     replace h36 := h36.st S229
     refine g_ldC (hc := fun w' ⟨O', hq⟩ => Blk.cell (i := 0) ((h36.st hq (by decide)).1) rfl) rfl rfl ?_
     refine hwp_o rfl (hwq_yes rfl rfl (g_fa rfl rfl (hwp_o rfl (hwq_yes rfl rfl ?_))))
     replace h31 := (h31.st S210).st S229
     refine g_ldC (hc := fun w' ⟨O', hq⟩ => Blk.cell (i := 5) ((h31.st hq (by decide)).1) rfl) rfl rfl ?_
     refine hwp_nilT ?_
     refine x_one (i := 14) (by kernel_rfl) rfl ?_
     refine owp_yes rfl rfl ?_
     obtain ⟨q232, e233, hy221⟩ := bs hy221
     replace h9 := h9.st S229
     replace h24 := (h24.st S210).st S229
     refine l_callA (O := O228) (A := All w227) (R := fun w' F v => Vb w' F v q232) (c_base_State (fun _ h => h) (Vb.mono (F := Fr 0 w227 O228) h9 Fr.lt) (Vb.mono (F := Fr 0 w227 O228) h24 Fr.lt) e233) rfl rfl fun v238 w234 O235 S236 h237 => ?_
     obtain rfl := h237.bool
     have hZ := S236.lst [] (fun _ h => h.elim)
     cases q232
     case false =>
      replace hy221 := iF hy221
      refine x_go [(20, []), (27, []), (32, [])] hZ (by kernel_rfl) ?_
      refine x_pre (fuel := 15) [] [(15, true), (16, true), (17, true), (18, true), (19, true)] (by kernel_rfl) rfl ?_
      refine hwp_o rfl (hwq_yes rfl rfl (g_nf rfl rfl (h_pf rfl rfl rfl rfl (h_mv rfl rfl rfl (h_no rfl rfl rfl rfl rfl (h_no rfl rfl rfl rfl rfl (hwp_nilT ?_)))))))
      refine x_one (i := 20) (by kernel_rfl) rfl ?_
      refine owp_no rfl rfl rfl rfl (x_go [(27, []), (32, [])] ((St.refl nT _ _).lst [] (fun _ h => h.elim)) (by kernel_rfl) ?_)
      refine x_pre (fuel := 4) [] [(21, true), (22, true), (23, true), (24, true), (25, true), (26, true), (28, true), (29, true), (30, true), (31, true)] (by kernel_rfl) rfl ?_
      refine h_no rfl rfl rfl rfl rfl (h_pt rfl rfl rfl rfl (h_mv rfl rfl rfl (h_no rfl rfl rfl rfl rfl (h_no rfl rfl rfl rfl rfl (h_no rfl rfl rfl rfl rfl (h_no rfl rfl rfl rfl rfl (h_no rfl rfl rfl rfl rfl (h_no rfl rfl rfl rfl rfl (h_no rfl rfl rfl rfl rfl (hwp_nilT ?_))))))))))
      refine x_one (i := 27) (by kernel_rfl) rfl ?_
      refine owp_no rfl rfl rfl rfl (x_go [(32, [])] ((St.refl nT _ _).lst [] (fun _ h => h.elim)) (by kernel_rfl) ?_)
      refine x_one (i := 32) (by kernel_rfl) rfl ?_
      refine owp_no rfl rfl rfl rfl (x_go [] ((St.refl nT _ _).lst [] (fun _ h => h.elim)) (by kernel_rfl) ?_)
      refine x_pre (fuel := 0) [] [(33, true), (34, true)] (by kernel_rfl) rfl ?_
      refine h_no rfl rfl rfl rfl rfl (h_pt rfl rfl rfl rfl (hwp_nilT ?_))
      refine x_nil (by kernel_rfl) ?_
      obtain rfl := sm hy221
      replace hB := ((hB.st S210).st S229).st S236
      replace h9 := h9.st S236
      replace h12 := ((h12.st S210).st S229).st S236
      replace h15 := ((h15.st S210).st S229).st S236
      replace h18 := ((h18.st S210).st S229).st S236
      replace h21 := ((h21.st S210).st S229).st S236
      replace h24 := h24.st S236
      replace h31 := h31.st S236
      replace h36 := h36.st S236
      replace h94 := (h94.st S229).st S236
      replace h215 := (h215.st S229).st S236
      exact ⟨(), _, ⟨rfl, rfl, rfl, rfl, rfl, trivial⟩, hB, h31, h9, h12, h15, h18, h21, h24, h36, h94, h215⟩
     replace hy221 := iT hy221
     refine x_go [(20, []), (27, []), (32, [])] hZ (by kernel_rfl) ?_
     refine x_pre (fuel := 15) [] [(15, true), (16, true), (17, true), (18, true), (19, true)] (by kernel_rfl) rfl ?_
     refine hwp_o rfl (hwq_yes rfl rfl (g_nt rfl rfl (h_pf rfl rfl rfl rfl (h_mv rfl rfl rfl (hwp_o rfl (hwq_yes rfl rfl (g_mv rfl rfl (hwp_o rfl (hwq_yes rfl rfl (g_mv rfl rfl (hwp_nilT ?_)))))))))))
     refine x_one (i := 20) (by kernel_rfl) rfl ?_
     refine owp_yes rfl rfl ?_
     obtain ⟨q239, e240, hy221⟩ := bs hy221
     replace h94 := (h94.st S229).st S236
     replace h138 := ((h138.st S210).st S229).st S236
     refine l_callA (O := O235) (A := All w234) (R := fun w' F v => Vb w' F v q239) (c_base_Ints (fun _ h => h) (Vb.mono (F := Fr 0 w234 O235) h138 Fr.lt) (Vb.mono (F := Fr 0 w234 O235) h94 Fr.lt) e240) rfl rfl fun v245 w241 O242 S243 h244 => ?_
     obtain rfl := h244.bool
     have hZ := S243.lst [] (fun _ h => h.elim)
     cases q239
     case false =>
      replace hy221 := iF hy221
      refine x_go [(27, []), (32, [])] hZ (by kernel_rfl) ?_
      refine x_pre (fuel := 4) [] [(21, true), (22, true), (23, true), (24, true), (25, true), (26, true), (28, true), (29, true), (30, true), (31, true)] (by kernel_rfl) rfl ?_
      refine hwp_o rfl (hwq_yes rfl rfl (g_nf rfl rfl (h_pf rfl rfl rfl rfl (h_mv rfl rfl rfl (h_no rfl rfl rfl rfl rfl (h_no rfl rfl rfl rfl rfl (h_no rfl rfl rfl rfl rfl (h_no rfl rfl rfl rfl rfl (h_no rfl rfl rfl rfl rfl (h_no rfl rfl rfl rfl rfl (h_no rfl rfl rfl rfl rfl (hwp_nilT ?_))))))))))))
      refine x_one (i := 27) (by kernel_rfl) rfl ?_
      refine owp_no rfl rfl rfl rfl (x_go [(32, [])] ((St.refl nT _ _).lst [] (fun _ h => h.elim)) (by kernel_rfl) ?_)
      refine x_one (i := 32) (by kernel_rfl) rfl ?_
      refine owp_no rfl rfl rfl rfl (x_go [] ((St.refl nT _ _).lst [] (fun _ h => h.elim)) (by kernel_rfl) ?_)
      refine x_pre (fuel := 0) [] [(33, true), (34, true)] (by kernel_rfl) rfl ?_
      refine h_no rfl rfl rfl rfl rfl (h_pt rfl rfl rfl rfl (hwp_nilT ?_))
      refine x_nil (by kernel_rfl) ?_
      obtain rfl := sm hy221
      replace hB := (((hB.st S210).st S229).st S236).st S243
      replace h9 := (h9.st S236).st S243
      replace h12 := (((h12.st S210).st S229).st S236).st S243
      replace h15 := (((h15.st S210).st S229).st S236).st S243
      replace h18 := (((h18.st S210).st S229).st S236).st S243
      replace h21 := (((h21.st S210).st S229).st S236).st S243
      replace h24 := (h24.st S236).st S243
      replace h31 := (h31.st S236).st S243
      replace h36 := (h36.st S236).st S243
      replace h94 := h94.st S243
      replace h215 := ((h215.st S229).st S236).st S243
      exact ⟨(), _, ⟨rfl, rfl, rfl, rfl, rfl, trivial⟩, hB, h31, h9, h12, h15, h18, h21, h24, h36, h94, h215⟩
     replace hy221 := iT hy221
     refine x_go [(27, []), (32, [])] hZ (by kernel_rfl) ?_
     refine x_pre (fuel := 4) [] [(21, true), (22, true), (23, true), (24, true), (25, true), (26, true), (28, true), (29, true), (30, true), (31, true)] (by kernel_rfl) rfl ?_
     refine hwp_o rfl (hwq_yes rfl rfl (g_nt rfl rfl (h_pf rfl rfl rfl rfl (h_mv rfl rfl rfl (hwp_o rfl (hwq_yes rfl rfl (g_fa rfl rfl (hwp_o rfl (hwq_yes rfl rfl ?_)))))))))
     replace h36 := (h36.st S236).st S243
     refine g_ldC (hc := fun w' ⟨O', hq⟩ => Blk.cell (i := 0) ((h36.st hq (by decide)).1) rfl) rfl rfl ?_
     refine hwp_o rfl (hwq_yes rfl rfl (g_mv rfl rfl (hwp_o rfl (hwq_yes rfl rfl (g_fa rfl rfl (hwp_o rfl (hwq_yes rfl rfl (g_ldC (hc := fun w' ⟨O', hq⟩ => Blk.cell (i := 0) ((h36.st hq (by decide)).1) rfl) rfl rfl ?_))))))))
     refine hwp_o rfl (hwq_yes rfl rfl (g_fa rfl rfl (hwp_o rfl (hwq_yes rfl rfl ?_))))
     replace h31 := (h31.st S236).st S243
     refine g_ldC (hc := fun w' ⟨O', hq⟩ => Blk.cell (i := 5) ((h31.st hq (by decide)).1) rfl) rfl rfl ?_
     refine hwp_nilT ?_
     refine x_one (i := 27) (by kernel_rfl) rfl ?_
     refine owp_yes rfl rfl ?_
     obtain ⟨q246, e247, hy221⟩ := bs hy221
     replace h9 := (h9.st S236).st S243
     replace h94 := h94.st S243
     refine l_callA (O := O242) (A := All w241) (R := fun w' F v => Vb w' F v q246) (c_base_Rank (fun _ h => h) (Vb.mono (F := Fr 0 w241 O242) h9 Fr.lt) (Vb.mono (F := Fr 0 w241 O242) h94 Fr.lt) e247) rfl rfl fun v252 w248 O249 S250 h251 => ?_
     obtain ⟨rfl, r253⟩ := h251.int
     have hZ := S250.lst [] (fun _ h => h.elim)
     refine x_go [(32, [])] hZ (by kernel_rfl) ?_
     refine x_one (i := 32) (by kernel_rfl) rfl ?_
     refine owp_yes rfl rfl ?_
     obtain ⟨q254, e255, hy221⟩ := bs hy221
     replace h9 := h9.st S250
     replace h24 := ((h24.st S236).st S243).st S250
     refine l_callA (O := O249) (A := All w248) (R := fun w' F v => Vb w' F v q254) (c_base_Rank (fun _ h => h) (Vb.mono (F := Fr 0 w248 O249) h9 Fr.lt) (Vb.mono (F := Fr 0 w248 O249) h24 Fr.lt) e255) rfl rfl fun v260 w256 O257 S258 h259 => ?_
     obtain ⟨rfl, r261⟩ := h259.int
     have hZ := S258.lst [] (fun _ h => h.elim)
     refine x_go [] hZ (by kernel_rfl) ?_
     refine x_pre (fuel := 0) [] [(33, true), (34, true)] (by kernel_rfl) rfl ?_
     refine hwp_o rfl (hwq_yes rfl rfl (hwq_split (fun _ _ => ev_gtr rfl rfl) rfl (fun c262 => ?_) (fun c262 => ?_)))
     ·
      replace hy221 := ip hy221 c262
      refine h_pf rfl rfl rfl rfl (hwp_nilT ?_)
      refine x_nil (by kernel_rfl) ?_
      obtain rfl := sm hy221
      replace hB := (((((hB.st S210).st S229).st S236).st S243).st S250).st S258
      replace h9 := h9.st S258
      replace h12 := (((((h12.st S210).st S229).st S236).st S243).st S250).st S258
      replace h15 := (((((h15.st S210).st S229).st S236).st S243).st S250).st S258
      replace h18 := (((((h18.st S210).st S229).st S236).st S243).st S250).st S258
      replace h21 := (((((h21.st S210).st S229).st S236).st S243).st S250).st S258
      replace h24 := h24.st S258
      replace h31 := (h31.st S250).st S258
      replace h36 := (h36.st S250).st S258
      replace h94 := (h94.st S250).st S258
      replace h215 := ((((h215.st S229).st S236).st S243).st S250).st S258
      exact ⟨(), _, ⟨rfl, rfl, rfl, rfl, rfl, trivial⟩, hB, h31, h9, h12, h15, h18, h21, h24, h36, h94, h215⟩
     ·
      replace hy221 := im hy221 c262
      refine h_pf rfl rfl rfl rfl (hwp_nilT ?_)
      refine x_nil (by kernel_rfl) ?_
      obtain rfl := sm hy221
      replace hB := (((((hB.st S210).st S229).st S236).st S243).st S250).st S258
      replace h9 := h9.st S258
      replace h12 := (((((h12.st S210).st S229).st S236).st S243).st S250).st S258
      replace h15 := (((((h15.st S210).st S229).st S236).st S243).st S250).st S258
      replace h18 := (((((h18.st S210).st S229).st S236).st S243).st S250).st S258
      replace h21 := (((((h21.st S210).st S229).st S236).st S243).st S250).st S258
      replace h24 := h24.st S258
      replace h31 := (h31.st S250).st S258
      replace h36 := (h36.st S250).st S258
      replace h94 := (h94.st S250).st S258
      replace h215 := ((((h215.st S229).st S236).st S243).st S250).st S258
      exact ⟨(), _, ⟨rfl, rfl, rfl, rfl, rfl, trivial⟩, hB, h31, h9, h12, h15, h18, h21, h24, h36, h94, h215⟩
   replace hB := hB.st S210
   replace h9 := h9.st S210
   replace h12 := h12.st S210
   replace h15 := h15.st S210
   replace h18 := h18.st S210
   replace h21 := h21.st S210
   replace h24 := h24.st S210
   replace h31 := h31.st S210
   replace h36 := h36.st S210
   replace h94 := h94.st S210
   rintro l263 w264 ⟨x223, O265, hs266, hB, h31, h9, h12, h15, h18, h21, h24, h36, h94, h215⟩
   refine ewp_sub _ hs266 ?_
   refine ewp_cond rfl (fun c267 => ?_) (fun c267 => ?_)
   ·
    replace hm := ip hm c267
    refine ewp_seq (ewp_region (o_as rfl rfl (o_z ?_)))
    refine ewp_ret ?_
    obtain rfl := sm hm
    exact ret1v rfl (res_tmp rfl) ⟨hB.ext, vBool⟩
   ·
    replace hm := im' hm c267
    refine ewp_skip (ewp_seq (ewp_region (o_la (hl := rfl) (hc := (h36.1).cellsAt) rfl rfl ?_)))
    obtain ⟨q268, e269, hm⟩ := bs hm
    refine l_call (O := O265) (R := fun w' F v => Vb w' F v q268) (c_base_Distances Fr.lt (Vb.ofAgg (cs := [(.slice A10 x0.task.vars.length c11), (.slice A13 x0.task.init.length c14), (.slice A16 x0.task.goal.length c17), (.slice A19 x0.task.ops.length c20)]) (x := (⟨x0.task.vars, x0.task.init, x0.task.goal, x0.task.ops⟩ : Tsk)) rfl ⟨_, _, _, _, rfl, h9, h12, h15, h18⟩) e269) rfl rfl fun v274 w270 O271 S272 h273 => ?_
    obtain ⟨A275, c276, rfl⟩ := h273.form
    refine o_as rfl rfl (o_z ?_)
    refine ewp_seq (ewp_region (o_as rfl rfl (o_z ?_)))
    refine ewp_seq (ewp_seq (ewp_region (o_mv rfl rfl (o_ln rfl rfl ?_))))
    replace h215 := h215.st S272
    have l278 : q206.1.length ≤ 9223372036854775807 := Nat.le_trans h215.len.2.1 h215.len.2.2
    have r277 : inI64 (q206.1.length : Int) := rngNat l278
    refine o_mv rfl rfl (o_z ?_)
    obtain ⟨res279, hL280, hm⟩ := bs hm
    refine ewp_join (aft res279 (fun (s281 : Bool) (x282 : Unit) => [(1, (.pointer (some ⟨g27, 0, none⟩))), (3, (.pointer (some ⟨g32, 0, none⟩))), (4, (.slice A97 q84.1.length c98)), (12, (.slice A217 q206.1.length c218)), (14, (.bool s281))]) (fun s281 x282 w' => ∃ O' : Lab, Bs w A w' O' ∧ Lc 2 w' O' g27 54 [(.slice A10 x0.task.vars.length c11), (.slice A13 x0.task.init.length c14), (.slice A16 x0.task.goal.length c17), (.slice A19 x0.task.ops.length c20), (.slice A22 x0.gens.length c23), (.slice A25 x0.state.length c26)] ∧ Vb w' (Fr 0 w' O') (.slice A10 x0.task.vars.length c11) x0.task.vars ∧ Vb w' (Fr 0 w' O') (.slice A13 x0.task.init.length c14) x0.task.init ∧ Vb w' (Fr 0 w' O') (.slice A16 x0.task.goal.length c17) x0.task.goal ∧ Vb w' (Fr 0 w' O') (.slice A19 x0.task.ops.length c20) x0.task.ops ∧ Vb w' (Fr 0 w' O') (.slice A22 x0.gens.length c23) x0.gens ∧ Vb w' (Fr 0 w' O') (.slice A25 x0.state.length c26) x0.state ∧ Lc 3 w' O' g32 26 [(.slice A10 x0.task.vars.length c11), (.slice A13 x0.task.init.length c14), (.slice A16 x0.task.goal.length c17), (.slice A19 x0.task.ops.length c20)] ∧ Vb w' (Fr 0 w' O') (.slice A97 q84.1.length c98) q84.1 ∧ Vb w' (Fr 0 w' O') (.slice A217 q206.1.length c218) q206.1)) ?_ ?_
    ·
     refine ewp_block ?_
     replace hB := hB.st S272
     replace h9 := h9.st S272
     replace h12 := h12.st S272
     replace h15 := h15.st S272
     replace h18 := h18.st S272
     replace h21 := h21.st S272
     replace h24 := h24.st S272
     replace h31 := h31.st S272
     replace h36 := h36.st S272
     replace h94 := h94.st S272
     refine ewp_rng (σ := Bool) (X := Unit) (q206.1.length) hL280 rfl l278 (fun (s281 : Bool) (x282 : Unit) => [(1, (.pointer (some ⟨g27, 0, none⟩))), (3, (.pointer (some ⟨g32, 0, none⟩))), (4, (.slice A97 q84.1.length c98)), (12, (.slice A217 q206.1.length c218)), (13, (.slice A275 q268.length c276)), (14, (.bool s281)), (124, (.slice A217 q206.1.length c218))]) _ (fun s281 x282 w' => ∃ O' : Lab, Bs w A w' O' ∧ Lc 2 w' O' g27 54 [(.slice A10 x0.task.vars.length c11), (.slice A13 x0.task.init.length c14), (.slice A16 x0.task.goal.length c17), (.slice A19 x0.task.ops.length c20), (.slice A22 x0.gens.length c23), (.slice A25 x0.state.length c26)] ∧ Vb w' (Fr 0 w' O') (.slice A10 x0.task.vars.length c11) x0.task.vars ∧ Vb w' (Fr 0 w' O') (.slice A13 x0.task.init.length c14) x0.task.init ∧ Vb w' (Fr 0 w' O') (.slice A16 x0.task.goal.length c17) x0.task.goal ∧ Vb w' (Fr 0 w' O') (.slice A19 x0.task.ops.length c20) x0.task.ops ∧ Vb w' (Fr 0 w' O') (.slice A22 x0.gens.length c23) x0.gens ∧ Vb w' (Fr 0 w' O') (.slice A25 x0.state.length c26) x0.state ∧ Lc 3 w' O' g32 26 [(.slice A10 x0.task.vars.length c11), (.slice A13 x0.task.init.length c14), (.slice A16 x0.task.goal.length c17), (.slice A19 x0.task.ops.length c20)] ∧ Vb w' (Fr 0 w' O') (.slice A97 q84.1.length c98) q84.1 ∧ Vb w' (Fr 0 w' O') (.slice A217 q206.1.length c218) q206.1 ∧ Vb w' (Fr 0 w' O') (.slice A275 q268.length c276) q268) _ () ⟨O271, hB, h31, h9, h12, h15, h18, h21, h24, h36, h94, h215, h273⟩ ⟨rfl, rfl, rfl, rfl, rfl, rfl, rfl, rfl, rfl, trivial⟩ (fun _ _ => ⟨rfl, rfl⟩) (fun _ _ => ⟨rfl, rfl, rfl, rfl, rfl, trivial⟩) (fun _ _ _ ⟨O', hB, h31, h9, h12, h15, h18, h21, h24, h36, h94, h215, h273⟩ => ⟨O', hB, h31, h9, h12, h15, h18, h21, h24, h36, h94, h215⟩) ⟨rfl, rfl, rfl⟩ ⟨rfl, rfl⟩ ?_
     rintro k283 a284 s281 x282 w285 cc287 hx288 ⟨O286, hB, h31, h9, h12, h15, h18, h21, h24, h36, h94, h215, h273⟩ hf289 hret290 hbrk291
     have rk283 : inI64 (k283 : Int) := rngK hx288 l278
     refine ewp_seq (ewp_region ?_)
     obtain ⟨b294, o295, ce296, hA297, hl298, hd299, v301, rfl, h302⟩ := h215.elem' hx288
     replace h302 := Vb.of_slice h302
     obtain ⟨A303, c304, rfl⟩ := h302.form
     refine o_iaE (hA := hA297) (hj := rfl) (hlt := hl298) rfl rfl rfl ?_
     refine o_ld (hc := cat0 hd299) rfl rfl ?_
     refine o_as rfl rfl (o_z ?_)
     refine ewp_seq ?_
     obtain ⟨y305, hy306, hf289⟩ := bs hf289
     refine ewp_join (fun l' w' => ∃ (x308 : Unit) (O' : Lab), subs l' [(1, (.pointer (some ⟨g27, 0, none⟩))), (3, (.pointer (some ⟨g32, 0, none⟩))), (4, (.slice A97 q84.1.length c98)), (12, (.slice A217 q206.1.length c218)), (13, (.slice A275 q268.length c276)), (14, (.bool y305)), (16, (.slice A303 a284.length c304)), (124, (.slice A217 q206.1.length c218)), (125, (.int .i64 (q206.1.length : Int))), (126, (.int .i64 (k283 : Int)))] ∧ Bs w A w' O' ∧ Lc 2 w' O' g27 54 [(.slice A10 x0.task.vars.length c11), (.slice A13 x0.task.init.length c14), (.slice A16 x0.task.goal.length c17), (.slice A19 x0.task.ops.length c20), (.slice A22 x0.gens.length c23), (.slice A25 x0.state.length c26)] ∧ Vb w' (Fr 0 w' O') (.slice A10 x0.task.vars.length c11) x0.task.vars ∧ Vb w' (Fr 0 w' O') (.slice A13 x0.task.init.length c14) x0.task.init ∧ Vb w' (Fr 0 w' O') (.slice A16 x0.task.goal.length c17) x0.task.goal ∧ Vb w' (Fr 0 w' O') (.slice A19 x0.task.ops.length c20) x0.task.ops ∧ Vb w' (Fr 0 w' O') (.slice A22 x0.gens.length c23) x0.gens ∧ Vb w' (Fr 0 w' O') (.slice A25 x0.state.length c26) x0.state ∧ Lc 3 w' O' g32 26 [(.slice A10 x0.task.vars.length c11), (.slice A13 x0.task.init.length c14), (.slice A16 x0.task.goal.length c17), (.slice A19 x0.task.ops.length c20)] ∧ Vb w' (Fr 0 w' O') (.slice A97 q84.1.length c98) q84.1 ∧ Vb w' (Fr 0 w' O') (.slice A217 q206.1.length c218) q206.1 ∧ Vb w' (Fr 0 w' O') (.slice A275 q268.length c276) q268 ∧ Vb w' (Fr 0 w' O') (.slice A303 a284.length c304) a284) ?_ ?_
     ·
      refine ewp_region (o_mv rfl rfl (o_mv rfl rfl ?_))
      rcases Bool.eq_false_or_eq_true s281 with c309 | c309
      ·
       try rw [c309]
       replace hy306 := ip hy306 c309
       refine owp_no rfl rfl rfl rfl (owp_no rfl rfl rfl rfl (owp_no rfl rfl rfl rfl (o_pt rfl rfl rfl (o_as rfl rfl (o_z ?_)))))
       obtain rfl := sm hy306
       exact ⟨(), _, ⟨rfl, rfl, rfl, rfl, rfl, rfl, rfl, rfl, rfl, rfl, trivial⟩, hB, h31, h9, h12, h15, h18, h21, h24, h36, h94, h215, h273, h302⟩
      ·
       try rw [c309]
       replace hy306 := im' hy306 c309
       refine owp_yes rfl rfl (o_mv rfl rfl (owp_yes rfl rfl (o_mv rfl rfl (owp_yes rfl rfl ?_))))
       obtain ⟨q310, e311, hy306⟩ := bs hy306
       refine l_callA (O := O286) (A := All w285) (R := fun w' F v => Vb w' F v q310) (c_base_Ints (fun _ h => h) (Vb.mono (F := Fr 0 w285 O286) h302 Fr.lt) (Vb.mono (F := Fr 0 w285 O286) h94 Fr.lt) e311) rfl rfl fun v316 w312 O313 S314 h315 => ?_
       obtain rfl := h315.bool
       cases q310
       case false =>
        replace hy306 := iF hy306
        refine o_pf rfl rfl rfl (o_as rfl rfl (o_z ?_))
        obtain rfl := sm hy306
        replace hB := hB.st S314
        replace h9 := h9.st S314
        replace h12 := h12.st S314
        replace h15 := h15.st S314
        replace h18 := h18.st S314
        replace h21 := h21.st S314
        replace h24 := h24.st S314
        replace h31 := h31.st S314
        replace h36 := h36.st S314
        replace h94 := h94.st S314
        replace h215 := h215.st S314
        replace h273 := h273.st S314
        replace h302 := h302.st S314
        exact ⟨(), _, ⟨rfl, rfl, rfl, rfl, rfl, rfl, rfl, rfl, rfl, rfl, trivial⟩, hB, h31, h9, h12, h15, h18, h21, h24, h36, h94, h215, h273, h302⟩
       replace hy306 := iT hy306
       refine o_pf rfl rfl rfl (o_as rfl rfl (o_z ?_))
       obtain rfl := sm hy306
       replace hB := hB.st S314
       replace h9 := h9.st S314
       replace h12 := h12.st S314
       replace h15 := h15.st S314
       replace h18 := h18.st S314
       replace h21 := h21.st S314
       replace h24 := h24.st S314
       replace h31 := h31.st S314
       replace h36 := h36.st S314
       replace h94 := h94.st S314
       replace h215 := h215.st S314
       replace h273 := h273.st S314
       replace h302 := h302.st S314
       exact ⟨(), _, ⟨rfl, rfl, rfl, rfl, rfl, rfl, rfl, rfl, rfl, rfl, trivial⟩, hB, h31, h9, h12, h15, h18, h21, h24, h36, h94, h215, h273, h302⟩
     rintro l317 w318 ⟨x308, O319, hs320, hB, h31, h9, h12, h15, h18, h21, h24, h36, h94, h215, h273, h302⟩
     refine ewp_sub _ hs320 ?_
     refine ewp_seq ?_
     obtain ⟨y321, hy322, hf289⟩ := bs hf289
     refine ewp_join (fun l' w' => ∃ (x324 : Unit) (O' : Lab), subs l' [(1, (.pointer (some ⟨g27, 0, none⟩))), (3, (.pointer (some ⟨g32, 0, none⟩))), (4, (.slice A97 q84.1.length c98)), (12, (.slice A217 q206.1.length c218)), (13, (.slice A275 q268.length c276)), (14, (.bool y305)), (124, (.slice A217 q206.1.length c218)), (125, (.int .i64 (q206.1.length : Int))), (126, (.int .i64 (k283 : Int))), (157, (.bool y321))] ∧ Bs w A w' O' ∧ Lc 2 w' O' g27 54 [(.slice A10 x0.task.vars.length c11), (.slice A13 x0.task.init.length c14), (.slice A16 x0.task.goal.length c17), (.slice A19 x0.task.ops.length c20), (.slice A22 x0.gens.length c23), (.slice A25 x0.state.length c26)] ∧ Vb w' (Fr 0 w' O') (.slice A10 x0.task.vars.length c11) x0.task.vars ∧ Vb w' (Fr 0 w' O') (.slice A13 x0.task.init.length c14) x0.task.init ∧ Vb w' (Fr 0 w' O') (.slice A16 x0.task.goal.length c17) x0.task.goal ∧ Vb w' (Fr 0 w' O') (.slice A19 x0.task.ops.length c20) x0.task.ops ∧ Vb w' (Fr 0 w' O') (.slice A22 x0.gens.length c23) x0.gens ∧ Vb w' (Fr 0 w' O') (.slice A25 x0.state.length c26) x0.state ∧ Lc 3 w' O' g32 26 [(.slice A10 x0.task.vars.length c11), (.slice A13 x0.task.init.length c14), (.slice A16 x0.task.goal.length c17), (.slice A19 x0.task.ops.length c20)] ∧ Vb w' (Fr 0 w' O') (.slice A97 q84.1.length c98) q84.1 ∧ Vb w' (Fr 0 w' O') (.slice A217 q206.1.length c218) q206.1 ∧ Vb w' (Fr 0 w' O') (.slice A275 q268.length c276) q268) ?_ ?_
     ·
      refine ewp_drawX [(3, []), (10, []), (17, [])] O319 ?_
      refine x_pre (fuel := 19) [] [(0, true), (1, true), (2, true)] (by kernel_rfl) rfl ?_
      refine h_fa rfl rfl rfl (h_ldC (hc := fun w' ⟨O', hq⟩ => Blk.cell (i := 0) ((h36.st hq (by decide)).1) rfl) rfl rfl rfl ?_)
      refine h_mv rfl rfl rfl (hwp_nilT ?_)
      refine x_one (i := 3) (by kernel_rfl) rfl ?_
      obtain ⟨q325, e326, hy322⟩ := bs hy322
      refine l_callA (O := O319) (A := All w318) (R := fun w' F v => Vb w' F v q325) (c_base_State (fun _ h => h) (Vb.mono (F := Fr 0 w318 O319) h9 Fr.lt) (Vb.mono (F := Fr 0 w318 O319) h302 Fr.lt) e326) rfl rfl fun v331 w327 O328 S329 h330 => ?_
      obtain rfl := h330.bool
      have hZ := S329.lst [] (fun _ h => h.elim)
      cases q325
      case false =>
       replace hy322 := iF hy322
       refine x_go [(10, []), (17, [])] hZ (by kernel_rfl) ?_
       refine x_pre (fuel := 8) [] [(4, true), (5, true), (6, true), (7, true), (8, true), (9, true), (13, true), (14, true), (15, true), (16, true)] (by kernel_rfl) rfl ?_
       refine h_nf rfl rfl rfl (h_mv rfl rfl rfl (h_no rfl rfl rfl rfl rfl (h_no rfl rfl rfl rfl rfl (h_no rfl rfl rfl rfl rfl (h_no rfl rfl rfl rfl rfl (h_no rfl rfl rfl rfl rfl (h_no rfl rfl rfl rfl rfl (h_no rfl rfl rfl rfl rfl (h_no rfl rfl rfl rfl rfl (hwp_nilT ?_))))))))))
       refine x_one (i := 10) (by kernel_rfl) rfl ?_
       refine owp_no rfl rfl rfl rfl (x_go [(17, [])] ((St.refl nT _ _).lst [] (fun _ h => h.elim)) (by kernel_rfl) ?_)
       refine x_pre (fuel := 5) [] [(11, true), (12, true)] (by kernel_rfl) rfl ?_
       refine h_no rfl rfl rfl rfl rfl (h_no rfl rfl rfl rfl rfl (hwp_nilT ?_))
       refine x_one (i := 17) (by kernel_rfl) rfl ?_
       refine owp_no rfl rfl rfl rfl (x_go [] ((St.refl nT _ _).lst [] (fun _ h => h.elim)) (by kernel_rfl) ?_)
       refine x_pre (fuel := 0) [] [(18, true), (19, true), (20, true), (21, true)] (by kernel_rfl) rfl ?_
       refine h_no rfl rfl rfl rfl rfl (h_no rfl rfl rfl rfl rfl (h_no rfl rfl rfl rfl rfl (h_pt rfl rfl rfl rfl (hwp_nilT ?_))))
       refine x_nil (by kernel_rfl) ?_
       obtain rfl := sm hy322
       replace hB := hB.st S329
       replace h9 := h9.st S329
       replace h12 := h12.st S329
       replace h15 := h15.st S329
       replace h18 := h18.st S329
       replace h21 := h21.st S329
       replace h24 := h24.st S329
       replace h31 := h31.st S329
       replace h36 := h36.st S329
       replace h94 := h94.st S329
       replace h215 := h215.st S329
       replace h273 := h273.st S329
       exact ⟨(), _, ⟨rfl, rfl, rfl, rfl, rfl, rfl, rfl, rfl, rfl, rfl, trivial⟩, hB, h31, h9, h12, h15, h18, h21, h24, h36, h94, h215, h273⟩
      replace hy322 := iT hy322
      refine x_go [(10, []), (17, [])] hZ (by kernel_rfl) ?_
      refine x_pre (fuel := 8) [] [(4, true), (5, true), (6, true), (7, true), (8, true), (9, true), (13, true), (14, true), (15, true), (16, true)] (by kernel_rfl) rfl ?_
      refine h_nt rfl rfl rfl (h_mv rfl rfl rfl (hwp_o rfl (hwq_yes rfl rfl (g_mv rfl rfl (hwp_o rfl (hwq_yes rfl rfl (g_fa rfl rfl (hwp_o rfl (hwq_yes rfl rfl ?_)))))))))
      replace h36 := h36.st S329
      refine g_ldC (hc := fun w' ⟨O', hq⟩ => Blk.cell (i := 0) ((h36.st hq (by decide)).1) rfl) rfl rfl ?_
      refine hwp_o rfl (hwq_yes rfl rfl (g_mv rfl rfl (hwp_o rfl (hwq_yes rfl rfl (g_mv rfl rfl (hwp_o rfl (hwq_yes rfl rfl (g_fa rfl rfl (hwp_o rfl (hwq_yes rfl rfl (g_ldC (hc := fun w' ⟨O', hq⟩ => Blk.cell (i := 0) ((h36.st hq (by decide)).1) rfl) rfl rfl ?_)))))))))))
      refine hwp_o rfl (hwq_yes rfl rfl (g_mv rfl rfl (hwp_nilT ?_)))
      refine x_one (i := 10) (by kernel_rfl) rfl ?_
      refine owp_yes rfl rfl ?_
      obtain ⟨q332, e333, hy322⟩ := bs hy322
      replace h9 := h9.st S329
      replace h302 := h302.st S329
      refine l_callA (O := O328) (A := All w327) (R := fun w' F v => Vb w' F v q332) (c_base_Rank (fun _ h => h) (Vb.mono (F := Fr 0 w327 O328) h9 Fr.lt) (Vb.mono (F := Fr 0 w327 O328) h302 Fr.lt) e333) rfl rfl fun v338 w334 O335 S336 h337 => ?_
      obtain ⟨rfl, r339⟩ := h337.int
      have hZ := S336.lst [] (fun _ h => h.elim)
      refine x_go [(17, [])] hZ (by kernel_rfl) ?_
      refine x_pre (fuel := 5) [] [(11, true), (12, true)] (by kernel_rfl) rfl ?_
      refine hwp_o rfl (hwq_yes rfl rfl ?_)
      obtain ⟨a340, e341, hy322⟩ := bs hy322
      obtain ⟨p343, x342⟩ := atI_some' e341
      replace h273 := (h273.st S329).st S336
      obtain ⟨b344, o345, ce346, hA347, hF350, hl348, hd349, rfl, r351⟩ := h273.elem x342
      refine g_iaE (hA := hA347) (hj := (Int.toNat_of_nonneg p343).symm) (hlt := hl348) rfl rfl rfl ?_
      refine hwp_o rfl (hwq_yes rfl rfl (g_ldC (hc := fun w' ⟨O', hq⟩ => cat0 (cellsAt_agree (hq.agree (i := 0) (by decide)) hF350 hd349)) rfl rfl ?_))
      refine hwp_nilT ?_
      refine x_one (i := 17) (by kernel_rfl) rfl ?_
      refine owp_yes rfl rfl ?_
      obtain ⟨q352, e353, hy322⟩ := bs hy322
      replace h9 := h9.st S336
      replace h94 := (h94.st S329).st S336
      refine l_callA (O := O335) (A := All w334) (R := fun w' F v => Vb w' F v q352) (c_base_Rank (fun _ h => h) (Vb.mono (F := Fr 0 w334 O335) h9 Fr.lt) (Vb.mono (F := Fr 0 w334 O335) h94 Fr.lt) e353) rfl rfl fun v358 w354 O355 S356 h357 => ?_
      obtain ⟨rfl, r359⟩ := h357.int
      have hZ := S356.lst [] (fun _ h => h.elim)
      refine x_go [] hZ (by kernel_rfl) ?_
      refine x_pre (fuel := 0) [] [(18, true), (19, true), (20, true), (21, true)] (by kernel_rfl) rfl ?_
      refine hwp_o rfl (hwq_yes rfl rfl ?_)
      obtain ⟨a360, e361, hy322⟩ := bs hy322
      obtain ⟨p363, x362⟩ := atI_some' e361
      replace h273 := h273.st S356
      obtain ⟨b364, o365, ce366, hA367, hF370, hl368, hd369, rfl, r371⟩ := h273.elem x362
      refine g_iaE (hA := hA367) (hj := (Int.toNat_of_nonneg p363).symm) (hlt := hl368) rfl rfl rfl ?_
      refine hwp_o rfl (hwq_yes rfl rfl (g_ldC (hc := fun w' ⟨O', hq⟩ => cat0 (cellsAt_agree (hq.agree (i := 0) (by decide)) hF370 hd369)) rfl rfl ?_))
      refine hwp_o rfl (hwq_yes rfl rfl (hwq_split (fun _ _ => ev_ne rfl rfl) rfl (fun c372 => ?_) (fun c372 => ?_)))
      ·
       replace hy322 := ip hy322 c372
       refine h_pf rfl rfl rfl rfl (hwp_nilT ?_)
       refine x_nil (by kernel_rfl) ?_
       obtain rfl := sm hy322
       replace hB := ((hB.st S329).st S336).st S356
       replace h9 := h9.st S356
       replace h12 := ((h12.st S329).st S336).st S356
       replace h15 := ((h15.st S329).st S336).st S356
       replace h18 := ((h18.st S329).st S336).st S356
       replace h21 := ((h21.st S329).st S336).st S356
       replace h24 := ((h24.st S329).st S336).st S356
       replace h31 := ((h31.st S329).st S336).st S356
       replace h36 := (h36.st S336).st S356
       replace h94 := h94.st S356
       replace h215 := ((h215.st S329).st S336).st S356
       exact ⟨(), _, ⟨rfl, rfl, rfl, rfl, rfl, rfl, rfl, rfl, rfl, rfl, trivial⟩, hB, h31, h9, h12, h15, h18, h21, h24, h36, h94, h215, h273⟩
      ·
       replace hy322 := im hy322 c372
       refine h_pf rfl rfl rfl rfl (hwp_nilT ?_)
       refine x_nil (by kernel_rfl) ?_
       obtain rfl := sm hy322
       replace hB := ((hB.st S329).st S336).st S356
       replace h9 := h9.st S356
       replace h12 := ((h12.st S329).st S336).st S356
       replace h15 := ((h15.st S329).st S336).st S356
       replace h18 := ((h18.st S329).st S336).st S356
       replace h21 := ((h21.st S329).st S336).st S356
       replace h24 := ((h24.st S329).st S336).st S356
       replace h31 := ((h31.st S329).st S336).st S356
       replace h36 := (h36.st S336).st S356
       replace h94 := h94.st S356
       replace h215 := ((h215.st S329).st S336).st S356
       exact ⟨(), _, ⟨rfl, rfl, rfl, rfl, rfl, rfl, rfl, rfl, rfl, rfl, trivial⟩, hB, h31, h9, h12, h15, h18, h21, h24, h36, h94, h215, h273⟩
     rintro l373 w374 ⟨x324, O375, hs376, hB, h31, h9, h12, h15, h18, h21, h24, h36, h94, h215, h273⟩
     refine ewp_sub _ hs376 ?_
     refine ewp_cond rfl (fun c377 => ?_) (fun c377 => ?_)
     ·
      replace hf289 := ip hf289 c377
      refine ewp_seq (ewp_region (o_as rfl rfl (o_z ?_)))
      refine ewp_ret ?_
      obtain rfl := sm hf289
      obtain rfl := hret290 _ rfl
      obtain rfl := sm (fin_ret hm)
      exact ret1v rfl (res_tmp rfl) ⟨hB.ext, vBool⟩
     ·
      replace hf289 := im' hf289 c377
      refine ewp_skip ?_
      obtain rfl := sm hf289
      refine (?_ : Exists _)
      exact ⟨_, (), rfl, ⟨rfl, rfl, rfl, rfl, rfl, rfl, rfl, rfl, rfl, trivial⟩, _, hB, h31, h9, h12, h15, h18, h21, h24, h36, h94, h215, h273⟩
    replace hB := hB.st S272
    replace h9 := h9.st S272
    replace h12 := h12.st S272
    replace h15 := h15.st S272
    replace h18 := h18.st S272
    replace h21 := h21.st S272
    replace h24 := h24.st S272
    replace h31 := h31.st S272
    replace h36 := h36.st S272
    replace h94 := h94.st S272
    rintro l378 w379 ⟨s382, x383, rfl, hs381, O380, hB, h31, h9, h12, h15, h18, h21, h24, h36, h94, h215⟩
    replace hm := fin_done hm
    refine ewp_sub _ hs381 ?_
    refine ewp_seq (ewp_region (o_la (hl := rfl) (hc := (h36.1).cellsAt) rfl rfl ?_))
    refine o_fa rfl rfl (o_ld (hc := Blk.cell (i := 4) (h31.1) rfl) rfl rfl ?_)
    refine o_mv rfl rfl ?_
    obtain ⟨q384, e385, hm⟩ := bs hm
    refine l_call (O := O380) (R := fun w' F v => T2 w' F v q384) (c_symmetry_Orbit Fr.lt (Vb.ofAgg (cs := [(.slice A10 x0.task.vars.length c11), (.slice A13 x0.task.init.length c14), (.slice A16 x0.task.goal.length c17), (.slice A19 x0.task.ops.length c20)]) (x := (⟨x0.task.vars, x0.task.init, x0.task.goal, x0.task.ops⟩ : Tsk)) rfl ⟨_, _, _, _, rfl, h9, h12, h15, h18⟩) h21 h94 (show inI64 (600) from by decide) e385) rfl rfl fun v390 w386 O387 S388 h389 => ?_
    obtain ⟨v391, v392, rfl, h393, h394⟩ := h389
    obtain ⟨A395, c396, rfl⟩ := h393.form
    obtain ⟨rfl, r397⟩ := h394.err
    refine o_mv rfl rfl (o_ex rfl rfl rfl (o_ex rfl rfl rfl (o_as rfl rfl (o_as rfl rfl (o_z ?_)))))
    refine ewp_seq ?_
    obtain ⟨y398, hy399, hm⟩ := bs hm
    refine ewp_join (fun l' w' => ∃ (x401 : Unit) (O' : Lab), subs l' [(2, (.bool y398))] ∧ Bs w A w' O') ?_ ?_
    ·
     refine ewp_region (o_mv rfl rfl (o_mv rfl rfl ?_))
     rcases Bool.eq_false_or_eq_true s382 with c402 | c402
     ·
      try rw [c402]
      replace hy399 := ip hy399 c402
      refine owp_yes rfl rfl (o_mv rfl rfl (owp_yes rfl rfl (o_erS rfl rfl (fun c403 => ?_) fun c403 => ?_)))
      ·
       replace hy399 := ip hy399 c403
       refine o_pt rfl rfl rfl (o_mv rfl rfl (owp_yes rfl rfl (o_mv rfl rfl (owp_yes rfl rfl (o_ln rfl rfl ?_)))))
       have l405 : q384.1.length ≤ 9223372036854775807 := Nat.le_trans h393.len.2.1 h393.len.2.2
       have r404 : inI64 (q384.1.length : Int) := rngNat l405
       refine owp_yes rfl rfl (o_mv rfl rfl (owp_yes rfl rfl (o_ln rfl rfl ?_)))
       replace h215 := h215.st S388
       have l407 : q206.1.length ≤ 9223372036854775807 := Nat.le_trans h215.len.2.1 h215.len.2.2
       have r406 : inI64 (q206.1.length : Int) := rngNat l407
       refine owp_yes rfl rfl (o_eeS rfl rfl rfl (fun c408 => ?_) fun c408 => ?_)
       ·
        replace hy399 := ip hy399 c408
        refine o_pt rfl rfl rfl (o_as rfl rfl (o_z ?_))
        obtain rfl := sm hy399
        replace hB := hB.st S388
        exact ⟨(), _, ⟨rfl, trivial⟩, hB⟩
       ·
        replace hy399 := im hy399 c408
        refine o_pt rfl rfl rfl (o_as rfl rfl (o_z ?_))
        obtain rfl := sm hy399
        replace hB := hB.st S388
        exact ⟨(), _, ⟨rfl, trivial⟩, hB⟩
      ·
       replace hy399 := im hy399 c403
       refine o_pt rfl rfl rfl (o_mv rfl rfl (owp_no rfl rfl rfl rfl (owp_no rfl rfl rfl rfl (owp_no rfl rfl rfl rfl (owp_no rfl rfl rfl rfl (owp_no rfl rfl rfl rfl (o_pf rfl rfl rfl (o_as rfl rfl (o_z ?_)))))))))
       obtain rfl := sm hy399
       replace hB := hB.st S388
       exact ⟨(), _, ⟨rfl, trivial⟩, hB⟩
     ·
      try rw [c402]
      replace hy399 := im' hy399 c402
      refine owp_no rfl rfl rfl rfl (owp_no rfl rfl rfl rfl (o_pf rfl rfl rfl (o_mv rfl rfl (owp_no rfl rfl rfl rfl (owp_no rfl rfl rfl rfl (owp_no rfl rfl rfl rfl (owp_no rfl rfl rfl rfl (owp_no rfl rfl rfl rfl (o_pf rfl rfl rfl (o_as rfl rfl (o_z ?_)))))))))))
      obtain rfl := sm hy399
      replace hB := hB.st S388
      exact ⟨(), _, ⟨rfl, trivial⟩, hB⟩
    replace hB := hB.st S388
    rintro l409 w410 ⟨x401, O411, hs412, hB⟩
    refine ewp_sub _ hs412 ?_
    refine ewp_ret ?_
    obtain rfl := sm hm
    exact ret1v rfl (res_tmp rfl) ⟨hB.ext, vBool⟩
end
section
open Go Go.RowKit
theorem orb_trans {gens : List Swp} {a b c : List Int} (h : Orb gens a b) (h' : Orb gens b c) : Orb gens a c := by
  induction h' with
  | self => exact h
  | step _ hx ih => exact .step ih hx
theorem word_orb {gens : List Swp} {s ws r : List Int} (h : Word gens s ws r) : Orb gens s r := by
  induction h with
  | nil => exact .self
  | cons hx _ ih => exact orb_trans (.step .self (List.mem_of_getElem? hx)) ih
theorem imS_inj {t : Tsk} {x : Swp} {a b : List Int} (hok : TaskOk t) (hx : SymP t x) (ha : StateOk t.vars a) (hb : StateOk t.vars b) (h : imS x a = imS x b) : a = b := by
  have h1 := (imS_eq hok hx.1 ha).2.1
  have h2 := (imS_eq hok hx.1 hb).2.1
  rw [h] at h1
  exact ims_uniq (inv_sym hok hx).1 (ims_ok hx.1 hb h2).1 (ims_back hok hx ha h1) (ims_back hok hx hb h2)
theorem orb_list {t : Tsk} (hsm : SmallOk t) {gens : List Swp} (hg : ∀ x ∈ gens, SymP t x) {s : List Int} (hs : StateOk t.vars s) : ∃ out : List (List Int), out.Nodup ∧ (∀ y ∈ out, Orb gens s y) ∧ (∀ y, Orb gens s y → y ∈ out) ∧ m_symmetry_Orbit t gens s 600 = some (srt_slices_Compare_Lint_int out, ⟨0⟩) := by
  obtain ⟨out, o1, o2, o3⟩ := orbit_eq hsm hg hs 600
  have hfew : out.length ≤ 512 := Nat.le_trans (nodup_len2 o1 fun y hy => mem_statesL.2 ((o2 y hy).ok hsm.ok hg hs)) hsm.many
  rcases o3 with ⟨hl, _⟩ | ⟨_, hall, e⟩
  · omega
  · exact ⟨out, o1, o2, hall, e⟩
theorem orb_back {t : Tsk} (hsm : SmallOk t) {gens : List Swp} (hg : ∀ x ∈ gens, SymP t x) {s y : List Int} {x : Swp} (hs : StateOk t.vars s) (hx : x ∈ gens) (hy : StateOk t.vars y) (h : Orb gens s (imS x y)) : Orb gens s y := by
  have hok := hsm.ok
  obtain ⟨out, o1, o2, o3, _⟩ := orb_list hsm hg hs
  have hmap : ∀ z ∈ out.map (imS x), z ∈ out := fun z hz => by
    obtain ⟨w, hw, rfl⟩ := List.mem_map.1 hz
    exact o3 _ (.step (o2 w hw) hx)
  have hnd : (out.map (imS x)).Nodup := by
    rw [List.nodup_iff_pairwise_ne, List.pairwise_map]
    rw [List.nodup_iff_pairwise_ne] at o1
    exact o1.imp_of_mem fun {a b} ha hb hne e => hne (imS_inj hok (hg x hx) ((o2 a ha).ok hok hg hs) ((o2 b hb).ok hok hg hs) e)
  by_cases hin : imS x y ∈ out.map (imS x)
  · obtain ⟨z, hz, e⟩ := List.mem_map.1 hin
    rw [← imS_inj hok (hg x hx) ((o2 z hz).ok hok hg hs) hy e]
    exact o2 z hz
  · exfalso
    have := nodup_len2 (List.nodup_cons.2 ⟨hin, hnd⟩) (b := out) fun z hz => by
      rcases List.mem_cons.1 hz with rfl | hz
      · exact o3 _ h
      · exact hmap z hz
    rw [List.length_cons, List.length_map] at this
    omega
theorem orb_sym {t : Tsk} (hsm : SmallOk t) {gens : List Swp} (hg : ∀ x ∈ gens, SymP t x) {s0 s : List Int} (h0 : StateOk t.vars s0) (h : Orb gens s0 s) : Orb gens s s0 := by
  induction h with
  | self => exact .self
  | @step s x hs hx ih =>
    have hso := hs.ok hsm.ok hg h0
    exact orb_trans (orb_back hsm hg (imS_eq hsm.ok (hg x hx).1 hso).2.2 hx hso .self) ih
theorem orb_dist {t : Tsk} (hsm : SmallOk t) {gens : List Swp} (hg : ∀ x ∈ gens, SymP t x) {d : List Int} (hd : DistP t d) {s0 s : List Int} (h0 : StateOk t.vars s0) (h : Orb gens s0 s) {i : Nat} {c : Int} (hi : (statesL t.vars)[i]? = some s0) (hc : d[i]? = some c) : ∀ (j : Nat) c', (statesL t.vars)[j]? = some s → d[j]? = some c' → c = c' := by
  induction h with
  | self =>
    intro j c' hj hc'
    have := states_uniq hsm.ok hi hj
    subst this
    rw [hc] at hc'
    exact Option.some.inj hc'
  | @step s x hs hx ih =>
    intro j c' hj hc'
    have hso := hs.ok hsm.ok hg h0
    obtain ⟨k, hk⟩ := List.getElem?_of_mem (mem_statesL.2 hso)
    obtain ⟨c2, hc2⟩ := some_of_lt (l := d) (k := k) (by rw [hd.1.1]; exact lt_of_get hk)
    rw [ih k c2 hk hc2]
    exact dist_im hsm.ok (hg x hx) hd hso (imS_eq hsm.ok (hg x hx).1 hso).2.1 hk hj hc2 hc'
theorem word_loop {t : Tsk} (hok : TaskOk t) {gens : List Swp} (hg : ∀ x ∈ gens, SymP t x) {s ws r : List Int} (h : Word gens s ws r) : ∀ (j : Nat), StateOk t.vars s → rng (ρ := Bool) (fun (_ : Nat) (a127 : Int) (s124 : (List Int)) => bnd (if a127 < 0 then (some true) else (if (gens.length : Int) ≤ a127 then (some true) else (some false)) : Option Bool) fun y149 => if y149 = true then (some (.ret false)) else (bnd (atI gens a127) fun a162 => bnd (m_symmetry_State t a162 s124) fun q185 => if q185.2.n ≠ 0 then (some (.ret false)) else (some (.next q185.1)))) ws j s = some (.done r) := by
  induction h with
  | nil => intro j _; simp [rng]
  | @cons s r ws m x hx _ ih =>
    intro j hs
    have hm := lt_of_get hx
    have hsx := hg x (List.mem_of_getElem? hx)
    obtain ⟨i1, i2, i3⟩ := imS_eq hok hsx.1 hs
    have e : (bnd (if (m : Int) < 0 then (some true) else (if (gens.length : Int) ≤ (m : Int) then (some true) else (some false)) : Option Bool) fun y149 => if y149 = true then (some (.ret false)) else (bnd (atI gens (m : Int)) fun a162 => bnd (m_symmetry_State t a162 s) fun q185 => if q185.2.n ≠ 0 then (some (.ret false)) else (some (Ctl.next (ρ := Bool) q185.1)))) = some (.next (imS x s)) := by
      rw [if_neg (by omega), if_neg (by omega), bnd_some, if_f, atI_eq, hx, bnd_some, state_ok hok hsx hs i1, bnd_some, if_neg (by simp)]
    simp only [rng, e]
    exact ih (j + 1) i3
theorem orbits_eq (q : Qst) : m_law51_SymmetryOrbits q = some true := by
  unfold m_law51_SymmetryOrbits
  have ha : (bnd (bnd (m_law51_awake) fun q73 => if q73 = true then some true else some false : Option Bool) fun y69 => some y69) = some true := by rw [awake51]; rfl
  rw [ha]
  rcases large_some q with hb | ⟨hb, hgl⟩
  · rw [hb, bnd_some, if_t, bnd_some, if_t]
  rw [hb, bnd_some, if_f]
  obtain ⟨t, gens, st⟩ := q
  dsimp only at hgl ⊢
  rw [show (⟨t.vars, t.init, t.goal, t.ops⟩ : Tsk) = t from rfl]
  unfold m_base_Small
  rw [bnd_some]
  by_cases hsm : SmallOk t
  case neg => rw [bof_f hsm, if_f, bnd_some, if_t]
  have hok := hsm.ok
  rw [bof_t hsm, if_t, awake51, bnd_some, if_t, bnd_some, if_f]
  by_cases hg : ∀ x ∈ gens, SymP t x
  case neg =>
    have hd : m_symmetry_demand t gens = some ⟨2⟩ := by rw [demandL hok, bof_f hg, if_f]
    rw [(can_err (s := st) (by decide) hd 0).1, bnd_some, if_pos (by simp)]
  by_cases hs : StateOk t.vars st
  case neg =>
    have hd : m_symmetry_demand t gens = some ⟨0⟩ := by rw [demandL hok, bof_t hg, if_t]
    rw [(can_bad hd hs 0).1, bnd_some, if_pos (by simp)]
  obtain ⟨r, ws, c1, _, c3, c4, c5⟩ := canon_eq hsm hg (by omega) hs
  have hro := word_orb c5
  obtain ⟨out, o1, o2, o3, o4⟩ := orb_list hsm hg hs
  obtain ⟨out', p1, p2, p3, p4⟩ := orb_list hsm hg c3
  obtain ⟨d, d1, d2⟩ := dist_eq hsm
  obtain ⟨i, i1, i2⟩ := rank_at hsm c3
  obtain ⟨j, j1, j2⟩ := rank_at hsm hs
  obtain ⟨c, hc⟩ := some_of_lt (l := d) (k := i) (by rw [d2.1.1]; exact lt_of_get i2)
  have hij : ¬ (j : Int) < (i : Int) := fun hlt => by
    have hsr := states_sorted t.vars
    rw [List.pairwise_iff_getElem] at hsr
    have hj' := lt_of_get j2
    have hi' := lt_of_get i2
    have := hsr j i hj' hi' (by omega)
    rw [List.getElem?_eq_getElem hj'] at j2
    rw [List.getElem?_eq_getElem hi'] at i2
    rw [Option.some.inj j2, Option.some.inj i2] at this
    have hneg := cfL_neg st r
    omega
  have hlen : out'.length = out.length := Nat.le_antisymm (nodup_len2 p1 fun y hy => o3 y (orb_trans hro (p2 y hy))) (nodup_len2 o1 fun y hy => p3 y (orb_trans (orb_sym hsm hg hs hro) (o2 y hy)))
  have hl1 : (srt_slices_Compare_Lint_int out).length = out.length := (srtL_perm out).length_eq
  have hl2 : (srt_slices_Compare_Lint_int out').length = out'.length := (srtL_perm out').length_eq
  have hsl : st.length ≤ 1000000 := by have := hs.1; have := hok.1; omega
  rw [c1, bnd_some, if_neg (by simp), appI_eq (by simp; omega) (by simp; omega), bnd_some, List.nil_append, word_loop hok hg c5 0 hs, bnd_some, fin_d, o4, bnd_some, if_neg (by simp)]
  unfold m_base_State m_base_Ints
  rw [bnd_some, bof_t c3, if_t, bnd_some, bof_t hs, if_t, bnd_some, bof_t rfl, if_t, i1, bnd_some, j1, bnd_some, if_neg hij, bnd_some, if_f, d1, bnd_some]
  have : ∃ s, rng (ρ := Bool) (fun (_ : Nat) (a284 : List Int) (s281 : Bool) => bnd (if s281 = true then (some true) else (bnd (some (bof (a284 = r))) fun q310 => if q310 = true then some true else some false) : Option Bool) fun y305 => bnd (bnd (some (bof (StateOk t.vars a284))) fun q325 => if q325 = true then bnd (m_base_Rank t.vars a284) fun q332 => bnd (atI d q332) fun a340 => bnd (some (i : Int)) fun q352 => bnd (atI d q352) fun a360 => if a340 ≠ a360 then (some true) else (some false) else some true : Option Bool) fun y321 => if y321 = true then (some (.ret false)) else (some (.next y305))) (srt_slices_Compare_Lint_int out) 0 false = some (.done s) ∧ s = bof (r ∈ (srt_slices_Compare_Lint_int out).take (srt_slices_Compare_Lint_int out).length) := by
    refine rng_all (fun k s => s = bof (r ∈ (srt_slices_Compare_Lint_int out).take k)) (by rw [bof_f (by simp)]) fun k a s hk hI => ?_
    subst hI
    have hmem : a ∈ out := (srtL_perm out).mem_iff.1 (List.mem_of_getElem? hk)
    have hao := o2 a hmem
    have hast := hao.ok hok hg hs
    obtain ⟨m, m1, m2⟩ := rank_at hsm hast
    obtain ⟨c', hc'⟩ := some_of_lt (l := d) (k := m) (by rw [d2.1.1]; exact lt_of_get m2)
    have hcc : c = c' := orb_dist hsm hg d2 c3 (orb_trans (orb_sym hsm hg hs hro) hao) i2 hc m c' m2 hc'
    rw [bnd_some, bnd_some, bof_t hast, if_t, m1, bnd_some, atI_eq, hc', bnd_some, bnd_some, atI_eq, hc, bnd_some, if_neg (show ¬ c' ≠ c from fun h => h hcc.symm)]
    by_cases h1 : r ∈ (srt_slices_Compare_Lint_int out).take k
    · rw [bof_t h1, if_t, bnd_some, bnd_some, if_f]
      exact ⟨_, rfl, by rw [bof_t ((take_succ_mem hk).2 (.inl h1))]⟩
    · rw [bof_f h1, if_f]
      by_cases h2 : a = r
      · rw [bof_t h2, if_t, bnd_some, bnd_some, if_f]
        exact ⟨_, rfl, by rw [bof_t ((take_succ_mem hk).2 (.inr h2.symm))]⟩
      · rw [bof_f h2, if_f, bnd_some, bnd_some, if_f]
        refine ⟨_, rfl, ?_⟩
        rw [bof_f (fun hh => by rcases (take_succ_mem hk).1 hh with hh | hh; exact h1 hh; exact h2 hh.symm)]
  obtain ⟨s, s1, s2⟩ := this
  rw [List.take_length, bof_t ((srtL_perm out).mem_iff.2 (o3 r hro))] at s2
  subst s2
  dsimp only
  rw [s1, bnd_some, fin_d, p4, bnd_some, if_t, if_pos (by simp), if_pos (by dsimp only; omega), bnd_some]
end
section
open Go Go.RowKit Go.ChangeShapes Go.WideShapes Go.Deep
theorem lawSOrbits {w : World} {v0 : Value} {a0 : Qst} (h0 : V w v0 a0) : Fn Try.prog 7 [v0] w fun v w' => v = .bool true ∧ Ext w w' :=
  (c_law51_SymmetryOrbits (fun _ h => h) h0 (orbits_eq a0)).mono fun _ _ h => ⟨h.2.bool, h.1⟩
set_option maxRecDepth 100000 in
theorem symmetryOrbits_lifted (os : Os) (started : os.Started) (H : Type) (enc : TypeId × Value → H) :
    ReturnsInHanded {} Try.checked os 7 .any (Rows.symmetryOrbitsSpec.pre6 enc Try.prog Try.f7 Rows.symmetryOrbitsRow.domain false) (Rows.symmetryOrbitsSpec.post enc Try.prog Try.f7 false true false false) := by
  refine returnsInHanded_of_change (C := Try.checked) ownTry started (by kernel_rfl) Try.func7 (ChangeSpec.witness6 (enc := enc) (C := Try.checked) false ⟨#[], #[(.agg #[.slice none 0 0, .slice none 0 0, .slice none 0 0, .slice none 0 0, .slice none 0 0, .slice none 0 0])], []⟩ 8 (by kernel_rfl) (by kernel_rfl) (by kernel_rfl) (by kernel_rfl)) ?_
  intro W base args ds gs before hval hW _ _
  have hopen : ∀ p, DataW.TrodAll enc Try.prog W 0 (fun _ => true) true Try.f7.params.toList args.toList ds p → ∃ v0 d0, args = #[v0] ∧ ds = [d0] ∧ (∃ a : Qst, V W v0 a) := by
    intro p hA
    rw [Try.params7] at hA
    replace hval : ∀ (j : Nat) t v, (#[54] : Array TypeId)[j]? = some t → args[j]? = some v → Value.okWide Try.prog W .any base t v := by rw [← Try.params7]; exact hval
    obtain ⟨v0, vs0, d0, ds0, p0, q0, g0, e0, _, h0, r0⟩ := trodAll_cons hA
    obtain ⟨g, e, _⟩ := trodAll_nil r0
    rw [g] at g0; rw [e] at e0
    obtain rfl : args = #[v0] := by cases args; simp_all
    exact ⟨v0, d0, rfl, e0, (by first | exact openAgg rfl (hval 0 54 v0 rfl rfl) h0 | exact openOne rfl (hval 0 54 v0 rfl rfl) h0)⟩
  refine lawPost rfl (by kernel_rfl) (by rw [Try.params7]; exact of_decide_eq_true (by kernel_rfl)) hW ?_ ?_
  · intro p hA
    obtain ⟨v0, d0, _, rfl, _⟩ := hopen p hA
    rfl
  · intro p hA
    obtain ⟨v0, d0, rfl, _, ⟨a0, h0⟩⟩ := hopen p hA
    exact lawSOrbits h0
theorem symmetryOrbits_holds : Rows.SymmetryOrbitsSaid :=
  OpenClaim.holds_of_wide 7 Try.f7 rfl rfl rfl rfl rfl rfl rfl ⟨rfl, rfl, rfl, rfl, rfl⟩ rfl rfl rfl rfl rfl (by kernel_rfl) Try.func7 (by kernel_rfl)
    (of_decide_eq_true (by kernel_rfl)) (by unfold Func.isWrapper; first | (rw [if_pos (by decide +kernel)]; kernel_rfl) | (rw [if_neg (by decide +kernel)]; exact ⟨rfl, rfl⟩))
    (fun os started H enc _ => symmetryOrbits_lifted os started H enc)
#print axioms symmetryOrbits_holds
end
end Go.Proofs.Ytdhaelekmjgbmaa

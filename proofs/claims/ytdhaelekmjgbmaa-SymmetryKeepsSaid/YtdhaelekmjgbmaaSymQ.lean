/- Own text: what the models of chapter 51 compute, second part: images of facts and operators; both checks are the same. Plain, no program in sight. -/
import Derived.Test.YtdhaelekmjgbmaaSymP
namespace Go.Proofs.Ytdhaelekmjgbmaa
open Go Go.RowKit
theorem rng_dec {α : Type} {f : Nat → α → Unit → Option (Ctl Unit Bool)} {xs : List α} (P : Nat → Prop) (h : ∀ k x, xs[k]? = some x → f k x () = if bof (P k) = true then some (.next ()) else some (.ret false)) :
    (bnd (rng (ρ := Bool) f xs 0 ()) fun r => fin r fun _ => some true) = some (bof (∀ k, k < xs.length → P k)) := by
  rcases rng_inv (f := f) (xs := xs) (s₀ := ()) (fun k _ => ∀ j, j < k → P j) (fun r => r = false ∧ ¬ ∀ k, k < xs.length → P k) (fun j hj => by omega) (fun k x _ hx hI => by
    rw [h k x hx]
    by_cases hp : P k
    · rw [bof_t hp, if_t]
      exact .inl ⟨_, rfl, upto_step hI hp⟩
    · rw [bof_f hp, if_f]
      exact .inr ⟨_, rfl, rfl, fun hh => hp (hh k (lt_of_get hx))⟩) with ⟨_, hr, hc⟩ | ⟨r, hr, rfl, hno⟩
  · rw [hr, bnd_some, fin_d, bof_t hc]
  · rw [hr, bnd_some, fin_r, bof_f hno]
theorem perm_n {l : List Int} {n : Nat} (hn : n ≤ 1000000) : m_symmetry_permutation l (n : Int) = some (bof (PermR l n)) := by
  rw [perm_eq (by omega)]
  exact bof_if ⟨fun h => by have : l.length = n := by omega
                            rw [← this]; exact h.2, fun h => ⟨by rw [h.len], by rw [h.len]; exact h⟩⟩
theorem refperm_n {l : List Int} {n : Nat} (hn : n ≤ 1000000) : m_ref51_permutation l (n : Int) = some (bof (PermR l n)) := by
  rw [refperm_eq (by omega)]
  exact bof_if ⟨fun h => by have : l.length = n := by omega
                            rw [← this]; exact h.2, fun h => ⟨by rw [h.len], by rw [h.len]; exact h⟩⟩
/-- Facts go to facts. -/
def FactsPerm (t : Tsk) (x : Swp) : Prop := PermR x.vars t.vars.length ∧ x.vals.length = t.vars.length ∧ ∀ (k : Nat), k < t.vars.length → ∃ (n : Nat) (a : Int) (l : List Int), t.vars[k]? = some (n : Int) ∧ x.vars[k]? = some a ∧ x.vals[k]? = some l ∧ atI t.vars a = some (n : Int) ∧ PermR l n
theorem facts_eq {t : Tsk} {x : Swp} (hok : TaskOk t) : m_symmetry_facts t x = some (bof (FactsPerm t x)) := by
  obtain ⟨hl, _, hv, _⟩ := hok
  unfold m_symmetry_facts
  rw [perm_n (by omega), bnd_some]
  by_cases h1 : PermR x.vars t.vars.length
  case neg => rw [bof_f h1, if_f, bnd_some, if_t, bof_f (fun h => h1 h.1)]
  rw [bof_t h1, if_t]
  by_cases h2 : x.vals.length = t.vars.length
  case neg => rw [if_pos (by omega), bnd_some, if_t, bof_f (fun h => h2 h.2.1)]
  rw [if_neg (by omega), bnd_some, if_f]
  rw [rng_dec (fun k => ∃ (n : Nat) (a : Int) (l : List Int), t.vars[k]? = some (n : Int) ∧ x.vars[k]? = some a ∧ x.vals[k]? = some l ∧ atI t.vars a = some (n : Int) ∧ PermR l n) (fun k y hy => by
    have hk := lt_of_get hy
    obtain ⟨a, ha⟩ := some_of_lt (l := x.vars) (k := k) (by rw [h1.len]; omega)
    obtain ⟨l, hll⟩ := some_of_lt (l := x.vals) (k := k) (by omega)
    have hy2 := hv k y hy
    obtain ⟨n, rfl⟩ := Int.eq_ofNat_of_zero_le (by omega : 0 ≤ y)
    obtain ⟨ha1, ha2⟩ := h1.mem (List.mem_of_getElem? ha)
    obtain ⟨j, rfl⟩ := Int.eq_ofNat_of_zero_le ha1
    obtain ⟨m, hm⟩ := some_of_lt (l := t.vars) (k := j) (by omega)
    rw [ha, bnd_some, atI_eq, hm, bnd_some]
    by_cases hmn : m = (n : Int)
    · rw [if_neg (by simpa using hmn), hll, bnd_some, perm_n (by omega), bnd_some]
      by_cases hp : PermR l n
      · rw [bof_t hp, if_t, bnd_some, if_f, bof_t ⟨n, _, l, hy, rfl, rfl, by rw [atI_eq, hm, hmn], hp⟩, if_t]
      · rw [bof_f hp, if_f, bnd_some, if_t, bof_f (fun ⟨n', a', l', q1, q2, q3, q4, q5⟩ => by
          have e1 : (n : Int) = n' := by rw [hy] at q1; exact Option.some.inj q1
          have e2 : l = l' := Option.some.inj q3
          have e3 : n = n' := by omega
          subst e2 e3; exact hp q5), if_f]
    · rw [if_pos hmn, bnd_some, if_t, bof_f (fun ⟨n', a', l', q1, q2, q3, q4, q5⟩ => by
        have e1 : (n : Int) = n' := by rw [hy] at q1; exact Option.some.inj q1
        have e2 : (j : Int) = a' := Option.some.inj q2
        rw [← e2, atI_eq, hm] at q4
        exact hmn (by rw [e1]; exact Option.some.inj q4)), if_f])]
  exact bof_if ⟨fun h => ⟨h1, h2, h⟩, fun h => h.2.2⟩
theorem shape_eq {t : Tsk} {x : Swp} (hok : TaskOk t) : m_ref51_shape t x = some (bof (FactsPerm t x ∧ PermR x.ops t.ops.length)) := by
  obtain ⟨hl, hlo, hv, _⟩ := hok
  unfold m_ref51_shape
  rw [refperm_n (by omega), bnd_some]
  by_cases h1 : PermR x.vars t.vars.length
  case neg => rw [bof_f h1, if_f, bnd_some, if_t, bof_f (fun h => h1 h.1.1)]
  rw [bof_t h1, if_t]
  by_cases h2 : x.vals.length = t.vars.length
  case neg => rw [if_pos (by omega), bnd_some, if_t, bof_f (fun h => h2 h.1.2.1)]
  rw [if_neg (by omega), refperm_n (by omega), bnd_some]
  by_cases h3 : PermR x.ops t.ops.length
  case neg => rw [bof_f h3, if_f, bnd_some, if_t, bof_f (fun h => h3 h.2)]
  rw [bof_t h3, if_t, bnd_some, if_f]
  rw [rng_dec (fun k => ∃ (n : Nat) (a : Int) (l : List Int), t.vars[k]? = some (n : Int) ∧ x.vars[k]? = some a ∧ x.vals[k]? = some l ∧ atI t.vars a = some (n : Int) ∧ PermR l n) (fun k y hy => by
    have hk := lt_of_get hy
    obtain ⟨a, ha⟩ := some_of_lt (l := x.vars) (k := k) (by rw [h1.len]; omega)
    obtain ⟨l, hll⟩ := some_of_lt (l := x.vals) (k := k) (by omega)
    have hy2 := hv k y hy
    obtain ⟨n, rfl⟩ := Int.eq_ofNat_of_zero_le (by omega : 0 ≤ y)
    obtain ⟨ha1, ha2⟩ := h1.mem (List.mem_of_getElem? ha)
    obtain ⟨j, rfl⟩ := Int.eq_ofNat_of_zero_le ha1
    obtain ⟨m, hm⟩ := some_of_lt (l := t.vars) (k := j) (by omega)
    rw [ha, bnd_some, atI_eq, hm, bnd_some]
    by_cases hmn : m = (n : Int)
    · rw [if_neg (by simpa using hmn), hll, bnd_some, refperm_n (by omega), bnd_some]
      by_cases hp : PermR l n
      · rw [bof_t hp, if_t, bnd_some, if_f, bof_t ⟨n, _, l, hy, rfl, rfl, by rw [atI_eq, hm, hmn], hp⟩, if_t]
      · rw [bof_f hp, if_f, bnd_some, if_t, bof_f (fun ⟨n', a', l', q1, q2, q3, q4, q5⟩ => by
          have e1 : (n : Int) = n' := by rw [hy] at q1; exact Option.some.inj q1
          have e2 : l = l' := Option.some.inj q3
          have e3 : n = n' := by omega
          subst e2 e3; exact hp q5), if_f]
    · rw [if_pos hmn, bnd_some, if_t, bof_f (fun ⟨n', a', l', q1, q2, q3, q4, q5⟩ => by
        have e1 : (n : Int) = n' := by rw [hy] at q1; exact Option.some.inj q1
        have e2 : (j : Int) = a' := Option.some.inj q2
        rw [← e2, atI_eq, hm] at q4
        exact hmn (by rw [e1]; exact Option.some.inj q4)), if_f])]
  exact bof_if ⟨fun h => ⟨⟨h1, h2, h⟩, h3⟩, fun h => h.1.2.2⟩
theorem equal_facts (a b : List Fct) : m_slices_Equal_Lapi_Fact_api_Fact a b = some (bof (a = b)) := by
  unfold m_slices_Equal_Lapi_Fact_api_Fact
  by_cases hl : a.length = b.length
  case neg => rw [if_pos (by omega), bof_f (fun h => hl (by rw [h]))]
  rw [if_neg (by omega), rng_dec (fun k => a[k]? = b[k]?) (fun k y hy => by
    obtain ⟨z, hz⟩ := some_of_lt (l := b) (k := k) (by have := lt_of_get hy; omega)
    rw [hz, bnd_some]
    by_cases h : y = z
    · rw [if_neg (by simp [h]), bof_t (by rw [hy, h]), if_t]
    · rw [if_pos (fun hh => h (by cases y; cases z; simpa using hh)), bof_f (by rw [hy]; simpa using h), if_f])]
  refine bof_if ⟨fun h => List.ext_getElem? fun k => ?_, fun h => by rw [h]; exact fun _ _ => rfl⟩
  by_cases hk : k < a.length
  · exact h k hk
  · rw [List.getElem?_eq_none (by omega), List.getElem?_eq_none (by omega)]
theorem base_facts (a b : List Fct) : m_base_Facts a b = some (bof (a = b)) := equal_facts a b
theorem alike1 (a b : Eff) : m_symmetry_alike_l1 a b = some (bof (a = b)) := by
  unfold m_symmetry_alike_l1
  by_cases h1 : a.var = b.var
  case neg => rw [if_neg h1, bnd_some, bof_f (fun h => h1 (by rw [h]))]
  by_cases h2 : a.val = b.val
  case neg => rw [if_pos h1, if_neg h2, bnd_some, bof_f (fun h => h2 (by rw [h]))]
  rw [if_pos h1, if_pos h2, equal_facts, bnd_some]
  by_cases h3 : a.cond = b.cond
  · rw [bof_t h3, if_t, bnd_some, bof_t (by cases a; cases b; simp_all)]
  · rw [bof_f h3, if_f, bnd_some, bof_f (fun h => h3 (by rw [h]))]
theorem equal_effs (a b : List Eff) : m_slices_EqualFunc_Lapi_Effect_Lapi_Effect_api_Effect_api_Effect__symmetry_alike_l1 a b = some (bof (a = b)) := by
  unfold m_slices_EqualFunc_Lapi_Effect_Lapi_Effect_api_Effect_api_Effect__symmetry_alike_l1
  by_cases hl : a.length = b.length
  case neg => rw [if_pos (by omega), bof_f (fun h => hl (by rw [h]))]
  rw [if_neg (by omega), rng_dec (fun k => a[k]? = b[k]?) (fun k y hy => by
    obtain ⟨z, hz⟩ := some_of_lt (l := b) (k := k) (by have := lt_of_get hy; omega)
    rw [hz, bnd_some, alike1, bnd_some]
    by_cases h : y = z
    · rw [bof_t h, if_t, bof_t (by rw [hy, h]), if_t]
    · rw [bof_f h, if_f, bof_f (by rw [hy]; simpa using h), if_f])]
  refine bof_if ⟨fun h => List.ext_getElem? fun k => ?_, fun h => by rw [h]; exact fun _ _ => rfl⟩
  by_cases hk : k < a.length
  · exact h k hk
  · rw [List.getElem?_eq_none (by omega), List.getElem?_eq_none (by omega)]
theorem alike_eq (p q : Opr) : m_symmetry_alike p q = some (bof (p.cost = q.cost ∧ p.pre = q.pre ∧ p.effs = q.effs)) := by
  unfold m_symmetry_alike
  by_cases h1 : p.cost = q.cost
  case neg => rw [if_neg h1, bnd_some, bof_f (fun h => h1 h.1)]
  rw [if_pos h1, equal_facts, bnd_some]
  by_cases h2 : p.pre = q.pre
  case neg => rw [bof_f h2, if_f, bnd_some, bof_f (fun h => h2 h.2.1)]
  rw [bof_t h2, if_t, equal_effs, bnd_some]
  by_cases h3 : p.effs = q.effs
  · rw [bof_t h3, if_t, bnd_some, bof_t ⟨h1, h2, h3⟩]
  · rw [bof_f h3, if_f, bnd_some, bof_f (fun h => h3 h.2.2)]
/-- The image of a fact. -/
def imF (x : Swp) (f : Fct) : Fct := ⟨(x.vars[f.var.toNat]?).getD 0, (((x.vals[f.var.toNat]?).getD [])[f.val.toNat]?).getD 0⟩
def imL (x : Swp) (fs : List Fct) : List Fct := srt_symmetry_mapped_l1 (fs.map (imF x))
def imE (x : Swp) (e : Eff) : Eff := ⟨imL x e.cond, (imF x ⟨e.var, e.val⟩).var, (imF x ⟨e.var, e.val⟩).val⟩
def imO (x : Swp) (o : Opr) : Opr := ⟨⟨#[]⟩, o.cost, imL x o.pre, o.effs.map (imE x)⟩
theorem imF_at {t : Tsk} {x : Swp} {f : Fct} (hp : FactsPerm t x) (hf : FactOk t.vars f) : ∃ l, atI x.vars f.var = some (imF x f).var ∧ atI x.vals f.var = some l ∧ atI l f.val = some (imF x f).val ∧ 0 ≤ (imF x f).var ∧ 0 ≤ (imF x f).val := by
  obtain ⟨h1, h2, n, hn, h3⟩ := hf
  obtain ⟨fv, fz⟩ := f
  simp only at h1 h2 hn h3 ⊢
  obtain ⟨j, rfl⟩ := Int.eq_ofNat_of_zero_le h1
  obtain ⟨i, rfl⟩ := Int.eq_ofNat_of_zero_le h2
  rw [show ((j : Int)).toNat = j from by omega] at hn
  obtain ⟨m, a, l, q1, q2, q3, q4, q5⟩ := hp.2.2 j (lt_of_get hn)
  have e : (m : Int) = n := by rw [hn] at q1; exact (Option.some.inj q1).symm
  obtain ⟨z, hz⟩ := some_of_lt (l := l) (k := i) (by rw [q5.len]; omega)
  have ha := hp.1.mem (List.mem_of_getElem? q2)
  have hz' := q5.mem (List.mem_of_getElem? hz)
  refine ⟨l, ?_, ?_, ?_, ?_, ?_⟩ <;> simp [imF, atI_eq, q2, q3, hz] <;> omega
end Go.Proofs.Ytdhaelekmjgbmaa

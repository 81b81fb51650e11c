/- Own text: symmetries form a group: identity, compositions, inverses. Plain, no program in sight. -/
import Derived.Test.YtdhaelekmjgbmaaLaw51
namespace Go.Proofs.Ytdhaelekmjgbmaa
open Go Go.RowKit
theorem perm_get {l : List Int} {n : Nat} (h : PermR l n) {k : Nat} (hk : k < n) : ∃ a : Nat, l[k]? = some (a : Int) ∧ a < n := by
  obtain ⟨z, hz⟩ := some_of_lt (l := l) (k := k) (by rw [h.len]; exact hk)
  obtain ⟨h1, h2⟩ := h.mem (List.mem_of_getElem? hz)
  obtain ⟨a, rfl⟩ := Int.eq_ofNat_of_zero_le h1
  exact ⟨a, hz, by omega⟩
theorem perm_onto {l : List Int} {n : Nat} (h : PermR l n) {a : Nat} (ha : a < n) : ∃ k : Nat, k < n ∧ l[k]? = some (a : Int) := by
  have : (a : Int) ∈ l := h.mem_iff.2 (mem_rangeI.2 ⟨by omega, by omega⟩)
  obtain ⟨k, hk⟩ := List.getElem?_of_mem this
  exact ⟨k, by rw [← h.len]; exact lt_of_get hk, hk⟩
theorem perm_inj {l : List Int} {n : Nat} (h : PermR l n) {i j : Nat} {a : Int} (hi : l[i]? = some a) (hj : l[j]? = some a) : i = j := by
  have h1 := lt_of_get hi
  have h2 := lt_of_get hj
  have := hi.trans hj.symm
  rw [List.getElem?_eq_getElem h1, List.getElem?_eq_getElem h2] at this
  exact (List.getElem_inj h.nodup).1 (Option.some.inj this)
theorem permR_get {l : List Int} {n : Nat} (hl : l.length = n) (h1 : ∀ (k : Nat) (a : Int), l[k]? = some a → 0 ≤ a ∧ a < n) (h2 : ∀ (i j : Nat) (a : Int), l[i]? = some a → l[j]? = some a → i = j) : PermR l n := by
  refine permR_of ?_ (fun x hx => ?_) hl
  · rw [List.nodup_iff_pairwise_ne, List.pairwise_iff_getElem]
    intro i j hi hj hij e
    have := h2 i j l[i] (List.getElem?_eq_getElem hi) (by rw [List.getElem?_eq_getElem hj, e])
    omega
  · obtain ⟨k, hk⟩ := List.getElem?_of_mem hx
    exact h1 k x hk
theorem rangeI_get {n k : Nat} (h : k < n) : (rangeI n)[k]? = some (k : Int) := by
  unfold rangeI
  rw [List.getElem?_map, List.getElem?_range h]; rfl
theorem rangeI_perm (n : Nat) : PermR (rangeI n) n := List.Perm.refl _
theorem eq_rangeI {l : List Int} {n : Nat} (hl : l.length = n) (h : ∀ k, k < n → l[k]? = some (k : Int)) : l = rangeI n := List.ext_getElem? fun k => by
  by_cases hk : k < n
  · rw [h k hk, rangeI_get hk]
  · rw [List.getElem?_eq_none (by omega), List.getElem?_eq_none (by rw [rangeI_len]; omega)]
theorem upTo_eq {n : Nat} (h : n ≤ 1000000) : m_symmetry_upTo (n : Int) = some (rangeI n) := by
  unfold m_symmetry_upTo
  rw [mkI_eq (by omega) (by omega), bnd_some, List.length_replicate]
  obtain ⟨s, h1, h2, h3⟩ := rngN_all (ρ := List Int) (f := fun (k20 : Nat) (s18 : (List Int)) => bnd (s18[k20]?) fun _ => some (.next (s18.set k20 (k20 : Int)))) (N := n) (s₀ := List.replicate n 0) (fun k s => s.length = n ∧ ∀ j, j < k → s[j]? = some (j : Int)) ⟨by simp, fun j hj => by omega⟩ (fun k s hk hI => by
    obtain ⟨i1, i2⟩ := hI
    obtain ⟨z, hz⟩ := some_of_lt (l := s) (k := k) (by omega)
    rw [hz, bnd_some]
    refine ⟨_, rfl, by simpa using i1, fun j hj => ?_⟩
    rw [List.getElem?_set]
    by_cases e : k = j
    · rw [if_pos e, if_pos (by omega), e]
    · rw [if_neg e]; exact i2 j (by omega))
  rw [h1, bnd_some, fin_d, eq_rangeI h2 h3]
/-- One list after the other. -/
def alongL (a b : List Int) : List Int := a.map fun k => (b[k.toNat]?).getD 0
theorem along_get {a b : List Int} {n : Nat} (ha : PermR a n) (hb : b.length = n) {k i : Nat} {z : Int} (h1 : a[k]? = some (i : Int)) (h2 : b[i]? = some z) : (alongL a b)[k]? = some z := by
  unfold alongL
  rw [List.getElem?_map, h1]
  simp [h2]
theorem along_eq {a b : List Int} {n : Nat} (ha : PermR a n) (hb : b.length = n) (hn : n ≤ 1000000) : m_symmetry_along a b = some (alongL a b) := by
  unfold m_symmetry_along
  have hl := ha.len
  rw [mkI_eq (by omega) (by omega), bnd_some]
  obtain ⟨s, h1, h2, h3⟩ := rng_all (ρ := List Int) (f := fun (k26 : Nat) (a27 : Int) (s24 : (List Int)) => bnd (atI b a27) fun a49 => bnd (s24[k26]?) fun _ => some (.next (s24.set k26 a49))) (xs := a) (s₀ := List.replicate a.length 0) (fun k s => s.length = a.length ∧ ∀ j, j < k → s[j]? = (alongL a b)[j]?) ⟨by simp, fun j hj => by omega⟩ (fun k y s hk hI => by
    obtain ⟨i1, i2⟩ := hI
    have hlt := lt_of_get hk
    obtain ⟨i, hi, hin⟩ := perm_get ha (k := k) (by omega)
    obtain rfl : y = (i : Int) := by rw [hi] at hk; exact (Option.some.inj hk).symm
    obtain ⟨z, hz⟩ := some_of_lt (l := b) (k := i) (by omega)
    obtain ⟨u, hu⟩ := some_of_lt (l := s) (k := k) (by omega)
    rw [atI_eq, hz, bnd_some, hu, bnd_some]
    refine ⟨_, rfl, by simpa using i1, fun j hj => ?_⟩
    rw [List.getElem?_set]
    by_cases e : k = j
    · subst e; rw [if_pos rfl, if_pos (by omega), along_get ha hb hi hz]
    · rw [if_neg e]; exact i2 j (by omega))
  rw [h1, bnd_some, fin_d]
  refine congrArg some (List.ext_getElem? fun k => ?_)
  by_cases hk : k < a.length
  · exact h3 k hk
  · rw [List.getElem?_eq_none (by omega), List.getElem?_eq_none (by simp [alongL]; omega)]
theorem along_perm {a b : List Int} {n : Nat} (ha : PermR a n) (hb : PermR b n) : PermR (alongL a b) n := by
  have hl : (alongL a b).length = n := by simp [alongL, ha.len]
  have key : ∀ (k : Nat) (z : Int), (alongL a b)[k]? = some z → ∃ i : Nat, a[k]? = some (i : Int) ∧ b[i]? = some z := fun k z hz => by
    obtain ⟨i, hi, hin⟩ := perm_get ha (k := k) (by rw [← hl]; exact lt_of_get hz)
    obtain ⟨y, hy, _⟩ := perm_get hb hin
    rw [along_get ha hb.len hi hy] at hz
    exact ⟨i, hi, hy.trans hz⟩
  refine permR_get hl (fun k z hz => ?_) (fun k j z h1 h2 => ?_)
  · obtain ⟨i, hi, hz⟩ := key k z hz
    exact hb.mem (List.mem_of_getElem? hz)
  · obtain ⟨i, hi, hz⟩ := key k z h1
    obtain ⟨i', hi', hz'⟩ := key j z h2
    have := perm_inj hb hz hz'
    subst this
    exact perm_inj ha hi hi'
/-- The list undone. -/
noncomputable def backL (l : List Int) : List Int := (m_symmetry_back l).getD []
theorem back_eq {l : List Int} {n : Nat} (hp : PermR l n) (hn : n ≤ 1000000) : m_symmetry_back l = some (backL l) ∧ (backL l).length = n ∧ ∀ i k : Nat, l[i]? = some (k : Int) → (backL l)[k]? = some (i : Int) := by
  have hl := hp.len
  have : ∃ s, m_symmetry_back l = some s ∧ s.length = n ∧ ∀ i k : Nat, l[i]? = some (k : Int) → s[k]? = some (i : Int) := by
    unfold m_symmetry_back
    rw [mkI_eq (by omega) (by omega), bnd_some]
    obtain ⟨s, h1, h2, h3⟩ := rng_all (ρ := List Int) (f := fun (k24 : Nat) (a25 : Int) (s22 : (List Int)) => bnd (atI s22 a25) fun _ => some (.next (s22.set (a25).toNat (k24 : Int)))) (xs := l) (s₀ := List.replicate l.length 0) (fun k s => s.length = n ∧ ∀ i j : Nat, i < k → l[i]? = some (j : Int) → s[j]? = some (i : Int)) ⟨by simpa using hl, fun i j hi => by omega⟩ (fun k y s hk hI => by
      obtain ⟨i1, i2⟩ := hI
      have hlt := lt_of_get hk
      obtain ⟨j, hj, hjn⟩ := perm_get hp (k := k) (by omega)
      obtain rfl : y = (j : Int) := by rw [hj] at hk; exact (Option.some.inj hk).symm
      obtain ⟨u, hu⟩ := some_of_lt (l := s) (k := j) (by omega)
      rw [atI_eq, hu, bnd_some]
      refine ⟨_, rfl, by simpa using i1, fun i j' hi hij => ?_⟩
      rw [show ((j : Int)).toNat = j from by omega, List.getElem?_set]
      by_cases e : j = j'
      · subst e
        rw [if_pos rfl, if_pos (by omega), perm_inj hp hij hk]
      · rw [if_neg e]
        refine i2 i j' ?_ hij
        have : i ≠ k := fun h => e (by subst h; rw [hij] at hk; have := Option.some.inj hk; omega)
        omega)
    exact ⟨s, by rw [h1, bnd_some, fin_d], h2, fun i k h => h3 i k (lt_of_get h) h⟩
  obtain ⟨s, h1, h2, h3⟩ := this
  have e : backL l = s := by unfold backL; rw [h1]; rfl
  rw [e]; exact ⟨h1, h2, h3⟩
theorem back_perm {l : List Int} {n : Nat} (hp : PermR l n) (hn : n ≤ 1000000) : PermR (backL l) n := by
  obtain ⟨_, h2, h3⟩ := back_eq hp hn
  have key : ∀ (k : Nat) (z : Int), (backL l)[k]? = some z → ∃ i : Nat, z = (i : Int) ∧ i < n ∧ l[i]? = some (k : Int) := fun k z hz => by
    obtain ⟨i, hin, hi⟩ := perm_onto hp (a := k) (by rw [← h2]; exact lt_of_get hz)
    have := h3 i k hi
    rw [hz] at this
    exact ⟨i, Option.some.inj this, hin, hi⟩
  refine permR_get h2 (fun k z hz => ?_) (fun k j z g1 g2 => ?_)
  · obtain ⟨i, rfl, hi, _⟩ := key k z hz; omega
  · obtain ⟨i, rfl, _, hi⟩ := key k z g1
    obtain ⟨i', e, _, hi'⟩ := key j _ g2
    obtain rfl : i = i' := by omega
    rw [hi] at hi'
    have := Option.some.inj hi'
    omega
theorem back_along {l : List Int} {n : Nat} (hp : PermR l n) (hn : n ≤ 1000000) : alongL l (backL l) = rangeI n := by
  obtain ⟨_, h2, h3⟩ := back_eq hp hn
  refine eq_rangeI (by simp [alongL, hp.len]) fun k hk => ?_
  obtain ⟨a, ha, _⟩ := perm_get hp hk
  exact along_get hp h2 ha (h3 k a ha)
theorem along_back {l : List Int} {n : Nat} (hp : PermR l n) (hn : n ≤ 1000000) : alongL (backL l) l = rangeI n := by
  obtain ⟨_, h2, h3⟩ := back_eq hp hn
  refine eq_rangeI (by simp [alongL, h2]) fun k hk => ?_
  obtain ⟨i, hin, hi⟩ := perm_onto hp hk
  exact along_get (back_perm hp hn) hp.len (h3 i k hi) hi
/-- What a map of facts does to a fact. -/
theorem imF_is {x : Swp} {v u a z : Nat} {l : List Int} (h1 : x.vars[v]? = some (a : Int)) (h2 : x.vals[v]? = some l) (h3 : l[u]? = some (z : Int)) : imF x ⟨v, u⟩ = ⟨a, z⟩ := by simp [imF, h1, h2, h3]
theorem fact_cases {t : Tsk} {x : Swp} {f : Fct} (hok : TaskOk t) (hp : FactsPerm t x) (hf : FactOk t.vars f) : ∃ (v u n a z : Nat) (l : List Int), f = ⟨v, u⟩ ∧ v < t.vars.length ∧ t.vars[v]? = some (n : Int) ∧ n ≤ 64 ∧ u < n ∧ x.vars[v]? = some (a : Int) ∧ x.vals[v]? = some l ∧ PermR l n ∧ l[u]? = some (z : Int) ∧ z < n ∧ a < t.vars.length ∧ t.vars[a]? = some (n : Int) ∧ imF x f = ⟨a, z⟩ := by
  obtain ⟨fv, fu⟩ := f
  obtain ⟨h1, h2, n, hn, h3⟩ := hf
  simp only at h1 h2 hn h3
  obtain ⟨v, rfl⟩ := Int.eq_ofNat_of_zero_le h1
  obtain ⟨u, rfl⟩ := Int.eq_ofNat_of_zero_le h2
  rw [show ((v : Int)).toNat = v from by omega] at hn
  have hlt := lt_of_get hn
  obtain ⟨m, a, l, q1, q2, q3, q4, q5⟩ := hp.2.2 v hlt
  have e : (m : Int) = n := by rw [hn] at q1; exact (Option.some.inj q1).symm
  subst e
  obtain ⟨ha1, ha2⟩ := hp.1.mem (List.mem_of_getElem? q2)
  obtain ⟨a, rfl⟩ := Int.eq_ofNat_of_zero_le ha1
  obtain ⟨z, hz, hzn⟩ := perm_get q5 (k := u) (by omega)
  have hm := hok.2.2.1 v m hn
  rw [atI_eq] at q4
  exact ⟨v, u, m, a, z, l, rfl, hlt, hn, by omega, by omega, q2, q3, q5, hz, hzn, by omega, q4, imF_is q2 q3 hz⟩
theorem imF_ok {t : Tsk} {x : Swp} {f : Fct} (hok : TaskOk t) (hp : FactsPerm t x) (hf : FactOk t.vars f) : FactOk t.vars (imF x f) := by
  obtain ⟨v, u, n, a, z, l, rfl, _, _, _, _, _, _, _, _, hz, ha, hta, e⟩ := fact_cases hok hp hf
  rw [e]
  exact ⟨by simp, by simp, n, by simpa using hta, by simpa using hz⟩
theorem imL_ok {t : Tsk} {x : Swp} {fs : List Fct} (hok : TaskOk t) (hp : FactsPerm t x) (hf : FactsOk t.vars fs) : (∀ f ∈ imL x fs, FactOk t.vars f) ∧ (imL x fs).Pairwise fun a b => a.var < b.var := by
  refine ⟨fun f h => ?_, srt_strict (im_ne hp hf)⟩
  have h := (srtF_perm _).mem_iff.1 h
  obtain ⟨g, hg, rfl⟩ := List.mem_map.1 h
  exact imF_ok hok hp ((facts_pw hf).1 g hg)
theorem imL_eq {t : Tsk} {x : Swp} {fs gs : List Fct} (hp : FactsPerm t x) (hf : FactsOk t.vars fs) (hg : gs.Pairwise fun a b => a.var < b.var) (h : gs.Perm (fs.map (imF x))) : imL x fs = gs :=
  sorted_eq ((srtF_perm _).trans h.symm) (srt_strict (im_ne hp hf)) hg
/-- A map that does as one after another. -/
theorem imL_comp {t : Tsk} {x y z : Swp} {fs : List Fct} (hok : TaskOk t) (hx : FactsPerm t x) (hy : FactsPerm t y) (hz : FactsPerm t z) (hf : FactsOk t.vars fs) (hgs : FactsOk t.vars (imL x fs)) (h : ∀ f, FactOk t.vars f → imF z f = imF y (imF x f)) : imL z fs = imL y (imL x fs) := by
  refine imL_eq hz hf (imL_ok hok hy hgs).2 ?_
  refine (srtF_perm _).trans ?_
  have e : fs.map (imF z) = (fs.map (imF x)).map (imF y) := by
    rw [List.map_map]
    exact List.map_congr_left fun f hf' => h f ((facts_pw hf).1 f hf')
  rw [e]
  exact (srtF_perm _).map _
theorem factsOk_of {vars : List Int} {f : List Fct} (h1 : ∀ x ∈ f, FactOk vars x) (h2 : f.Pairwise fun x y => x.var < y.var) : FactsOk vars f := by
  refine ⟨fun i x hx => h1 x (List.mem_of_getElem? hx), fun i x y hx hy => ?_⟩
  obtain ⟨hi, rfl⟩ := List.getElem?_eq_some_iff.1 hx
  obtain ⟨hj, rfl⟩ := List.getElem?_eq_some_iff.1 hy
  exact List.pairwise_iff_getElem.1 h2 i (i + 1) hi hj (Nat.lt_succ_self i)
theorem imL_facts {t : Tsk} {x : Swp} {fs : List Fct} (hok : TaskOk t) (hp : FactsPerm t x) (hf : FactsOk t.vars fs) : FactsOk t.vars (imL x fs) := factsOk_of (imL_ok hok hp hf).1 (imL_ok hok hp hf).2
theorem imL_self {t : Tsk} {x : Swp} {fs : List Fct} (hp : FactsPerm t x) (hf : FactsOk t.vars fs) (h : ∀ f, FactOk t.vars f → imF x f = f) : imL x fs = fs := by
  refine imL_eq hp hf (facts_pw hf).2 ?_
  have : fs.map (imF x) = fs.map id := List.map_congr_left fun f hf' => h f ((facts_pw hf).1 f hf')
  rw [this, List.map_id]
theorem imE_ok {t : Tsk} {x : Swp} {e : Eff} (hok : TaskOk t) (hp : FactsPerm t x) (he : EffOk t.vars e) : EffOk t.vars (imE x e) := ⟨imL_facts hok hp he.1, imF_ok hok hp he.2⟩
theorem imE_comp {t : Tsk} {x y z : Swp} {e : Eff} (hok : TaskOk t) (hx : FactsPerm t x) (hy : FactsPerm t y) (hz : FactsPerm t z) (he : EffOk t.vars e) (h : ∀ f, FactOk t.vars f → imF z f = imF y (imF x f)) : imE z e = imE y (imE x e) := by
  have h1 := imL_comp hok hx hy hz he.1 (imL_facts hok hx he.1) h
  have h2 := h ⟨e.var, e.val⟩ he.2
  show (⟨imL z e.cond, (imF z ⟨e.var, e.val⟩).var, (imF z ⟨e.var, e.val⟩).val⟩ : Eff) = ⟨imL y (imL x e.cond), (imF y (imF x ⟨e.var, e.val⟩)).var, (imF y (imF x ⟨e.var, e.val⟩)).val⟩
  rw [h1, h2]
theorem imE_self {t : Tsk} {x : Swp} {e : Eff} (hp : FactsPerm t x) (he : EffOk t.vars e) (h : ∀ f, FactOk t.vars f → imF x f = f) : imE x e = e := by
  show (⟨imL x e.cond, (imF x ⟨e.var, e.val⟩).var, (imF x ⟨e.var, e.val⟩).val⟩ : Eff) = e
  rw [imL_self hp he.1 h, h _ he.2]
theorem effs_ok {vars : List Int} {o : Opr} (ho : OpOk vars o) : ∀ e ∈ o.effs, EffOk vars e := fun e he => by
  obtain ⟨j, hj⟩ := List.getElem?_of_mem he
  exact ho.2.2.2.2.2 j e hj
/-- The identity. -/
def idX (t : Tsk) : Swp := ⟨rangeI t.vars.length, t.vars.map fun n => rangeI n.toNat, rangeI t.ops.length⟩
theorem id_perm {t : Tsk} (hok : TaskOk t) : FactsPerm t (idX t) := by
  refine ⟨rangeI_perm _, by simp [idX], fun k hk => ?_⟩
  obtain ⟨n, hn⟩ := some_of_lt (l := t.vars) (k := k) hk
  have := hok.2.2.1 k n hn
  obtain ⟨m, rfl⟩ := Int.eq_ofNat_of_zero_le (by omega : 0 ≤ n)
  exact ⟨m, k, rangeI m, hn, rangeI_get hk, by simp [idX, hn], by rw [atI_eq, hn], rangeI_perm _⟩
theorem id_fact {t : Tsk} (hok : TaskOk t) {f : Fct} (hf : FactOk t.vars f) : imF (idX t) f = f := by
  obtain ⟨v, u, n, a, z, l, rfl, h1, h2, _, hu, h3, h4, _, h5, _, _, _, e⟩ := fact_cases hok (id_perm hok) hf
  have e1 : (idX t).vars[v]? = some (v : Int) := rangeI_get h1
  have e2 : (idX t).vals[v]? = some (rangeI n) := by simp [idX, h2]
  exact imF_is e1 e2 (rangeI_get hu)
theorem id_sym {t : Tsk} (hok : TaskOk t) : SymP t (idX t) := by
  refine ⟨id_perm hok, rangeI_perm _, imL_self (id_perm hok) hok.2.2.2.2.1 fun f => id_fact hok, fun k hk => ?_⟩
  obtain ⟨o, ho⟩ := some_of_lt (l := t.ops) (k := k) hk
  have hoo := hok.2.2.2.2.2 k o ho
  refine ⟨o, o, k, ho, rangeI_get hk, by rw [atI_eq, ho], rfl, imL_self (id_perm hok) hoo.2.2.2.2.1 fun f => id_fact hok, ?_⟩
  have : o.effs.map (imE (idX t)) = o.effs.map id := List.map_congr_left fun e he => imE_self (id_perm hok) (effs_ok hoo e he) fun f => id_fact hok
  rw [this, List.map_id]
theorem demand0 {t : Tsk} (hok : TaskOk t) : m_symmetry_demand t [] = some ⟨0⟩ := by
  unfold m_symmetry_demand m_task_Check
  rw [bnd_some, if_neg (by rw [check_ok.2 hok]; simp)]
  rfl
theorem demand2 {t : Tsk} {x y : Swp} (hok : TaskOk t) : m_symmetry_demand t [x, y] = some ⟨if bof (SymP t x ∧ SymP t y) = true then 0 else 2⟩ := by
  unfold m_symmetry_demand m_task_Check
  rw [bnd_some, if_neg (by rw [check_ok.2 hok]; simp)]
  simp only [rng]
  rw [is_eq hok, is_eq hok, bnd_some, bnd_some]
  by_cases hx : SymP t x
  · rw [bof_t hx, if_t]
    by_cases hy : SymP t y
    · rw [bof_t hy, if_t, bof_t (p := SymP t x ∧ SymP t y) ⟨hx, hy⟩]; rfl
    · rw [bof_f hy, if_f, bof_f (p := SymP t x ∧ SymP t y) (fun h => hy h.2)]; rfl
  · rw [bof_f hx, if_f, bof_f (p := SymP t x ∧ SymP t y) (fun h => hx h.1)]; rfl
/-- One map after another. -/
def compX (x y : Swp) : Swp := ⟨alongL x.vars y.vars, x.vals.mapIdx fun v l => alongL l ((y.vals[((x.vars[v]?).getD 0).toNat]?).getD []), alongL x.ops y.ops⟩
theorem comp_vals {x y : Swp} {v a : Nat} {l m : List Int} (h1 : x.vars[v]? = some (a : Int)) (h2 : x.vals[v]? = some l) (h3 : y.vals[a]? = some m) : (compX x y).vals[v]? = some (alongL l m) := by
  simp [compX, List.getElem?_mapIdx, h1, h2, h3]
theorem comp_perm {t : Tsk} {x y : Swp} (hx : FactsPerm t x) (hy : FactsPerm t y) : FactsPerm t (compX x y) := by
  refine ⟨along_perm hx.1 hy.1, by simp [compX, hx.2.1], fun k hk => ?_⟩
  obtain ⟨n, a, l, q1, q2, q3, q4, q5⟩ := hx.2.2 k hk
  obtain ⟨ha1, ha2⟩ := hx.1.mem (List.mem_of_getElem? q2)
  obtain ⟨a, rfl⟩ := Int.eq_ofNat_of_zero_le ha1
  obtain ⟨n', b, m, p1, p2, p3, p4, p5⟩ := hy.2.2 a (by omega)
  rw [atI_eq] at q4
  have e : n = n' := by rw [q4] at p1; have := Option.some.inj p1; omega
  subst e
  exact ⟨n, b, alongL l m, q1, along_get hx.1 hy.1.len q2 p2, comp_vals q2 q3 p3, p4, along_perm q5 p5⟩
theorem comp_fact {t : Tsk} {x y : Swp} (hok : TaskOk t) (hx : FactsPerm t x) (hy : FactsPerm t y) {f : Fct} (hf : FactOk t.vars f) : imF (compX x y) f = imF y (imF x f) := by
  obtain ⟨v, u, n, a, z, l, rfl, h1, h2, h3, hu, h4, h5, h6, h7, h8, h9, h10, e⟩ := fact_cases hok hx hf
  have hf2 := imF_ok hok hx hf
  rw [e] at hf2 ⊢
  obtain ⟨v', u', n', a', z', l', e', g1, g2, g3, gu, g4, g5, g6, g7, g8, g9, g10, e2⟩ := fact_cases hok hy hf2
  have e3 : v' = a := by have := congrArg Fct.var e'; simp at this; omega
  have e4 : u' = z := by have := congrArg Fct.val e'; simp at this; omega
  subst e3 e4
  rw [e2]
  have hn : n' = n := by rw [g2] at h10; have := Option.some.inj h10; omega
  subst hn
  exact imF_is (along_get hx.1 hy.1.len h4 g4) (comp_vals h4 h5 g5) (along_get h6 g6.len h7 g7)
theorem ops_cases {t : Tsk} {x : Swp} (hx : SymP t x) {k : Nat} (hk : k < t.ops.length) : ∃ (o p : Opr) (a : Nat), t.ops[k]? = some o ∧ x.ops[k]? = some (a : Int) ∧ a < t.ops.length ∧ t.ops[a]? = some p ∧ o.cost = p.cost ∧ imL x o.pre = p.pre ∧ o.effs.map (imE x) = p.effs := by
  obtain ⟨o, p, a, h1, h2, h3, h4⟩ := hx.2.2.2 k hk
  obtain ⟨ha1, ha2⟩ := hx.2.1.mem (List.mem_of_getElem? h2)
  obtain ⟨a, rfl⟩ := Int.eq_ofNat_of_zero_le ha1
  rw [atI_eq] at h3
  exact ⟨o, p, a, h1, h2, by omega, h3, h4⟩
theorem comp_sym {t : Tsk} {x y : Swp} (hok : TaskOk t) (hx : SymP t x) (hy : SymP t y) : SymP t (compX x y) := by
  have hz := comp_perm hx.1 hy.1
  have hc : ∀ f, FactOk t.vars f → imF (compX x y) f = imF y (imF x f) := fun f => comp_fact hok hx.1 hy.1
  have hL : ∀ fs, FactsOk t.vars fs → imL (compX x y) fs = imL y (imL x fs) := fun fs hf => imL_comp hok hx.1 hy.1 hz hf (imL_facts hok hx.1 hf) hc
  refine ⟨hz, along_perm hx.2.1 hy.2.1, by rw [hL _ hok.2.2.2.2.1, hx.2.2.1, hy.2.2.1], fun k hk => ?_⟩
  obtain ⟨o, p, a, h1, h2, ha, h3, h4, h5, h6⟩ := ops_cases hx hk
  obtain ⟨p', q, b, g1, g2, hb, g3, g4, g5, g6⟩ := ops_cases hy ha
  obtain rfl : p = p' := by rw [g1] at h3; exact (Option.some.inj h3).symm
  have hoo := hok.2.2.2.2.2 k o h1
  refine ⟨o, q, b, h1, along_get hx.2.1 hy.2.1.len h2 g2, by rw [atI_eq, g3], h4.trans g4, by rw [hL _ hoo.2.2.2.2.1, h5, g5], ?_⟩
  have : o.effs.map (imE (compX x y)) = o.effs.map (imE y ∘ imE x) := List.map_congr_left fun e he => imE_comp hok hx.1 hy.1 hz (effs_ok hoo e he) hc
  rw [this, ← List.map_map, h6, g6]
/-- A map undone. -/
noncomputable def invX (x : Swp) : Swp := ⟨backL x.vars, (List.range x.vals.length).map fun w => backL ((x.vals[(((backL x.vars)[w]?).getD 0).toNat]?).getD []), backL x.ops⟩
theorem inv_vals {t : Tsk} {x : Swp} (hok : TaskOk t) (hx : FactsPerm t x) {v a : Nat} {l : List Int} (h1 : x.vars[v]? = some (a : Int)) (h2 : x.vals[v]? = some l) : (invX x).vals[a]? = some (backL l) := by
  obtain ⟨_, h4, h5⟩ := back_eq hx.1 (by have := hok.1; omega)
  have := hx.1.mem (List.mem_of_getElem? h1)
  have h6 := h5 v a h1
  show ((List.range x.vals.length).map _)[a]? = _
  rw [List.getElem?_map, List.getElem?_range (by rw [hx.2.1]; omega)]
  simp [h6, h2]
theorem inv_perm {t : Tsk} {x : Swp} (hok : TaskOk t) (hx : FactsPerm t x) : FactsPerm t (invX x) := by
  have hl : t.vars.length ≤ 1000000 := by have := hok.1; omega
  refine ⟨back_perm hx.1 hl, by simp [invX, hx.2.1], fun k hk => ?_⟩
  obtain ⟨v, hv, hvk⟩ := perm_onto hx.1 hk
  obtain ⟨n, a, l, q1, q2, q3, q4, q5⟩ := hx.2.2 v hv
  obtain rfl : a = (k : Int) := by rw [hvk] at q2; exact (Option.some.inj q2).symm
  rw [atI_eq] at q4
  have hn := hok.2.2.1 v n q1
  obtain ⟨_, h4, h5⟩ := back_eq hx.1 hl
  exact ⟨n, v, backL l, q4, h5 v k hvk, inv_vals hok hx hvk q3, by rw [atI_eq, q1], back_perm q5 (by omega)⟩
theorem inv_fact {t : Tsk} {x : Swp} (hok : TaskOk t) (hx : FactsPerm t x) {f : Fct} (hf : FactOk t.vars f) : imF (invX x) (imF x f) = f := by
  obtain ⟨v, u, n, a, z, l, rfl, h1, h2, h3, hu, h4, h5, h6, h7, h8, h9, h10, e⟩ := fact_cases hok hx hf
  rw [e]
  have hl : t.vars.length ≤ 1000000 := by have := hok.1; omega
  exact imF_is ((back_eq hx.1 hl).2.2 v a h4) (inv_vals hok hx h4 h5) ((back_eq h6 (by omega)).2.2 u z h7)
theorem inv_list {t : Tsk} {x : Swp} (hok : TaskOk t) (hx : FactsPerm t x) {fs : List Fct} (hf : FactsOk t.vars fs) : imL (invX x) (imL x fs) = fs := by
  rw [← imL_comp hok hx (inv_perm hok hx) (id_perm hok) hf (imL_facts hok hx hf) (fun f hf => by rw [inv_fact hok hx hf, id_fact hok hf])]
  exact imL_self (id_perm hok) hf fun f => id_fact hok
theorem inv_eff {t : Tsk} {x : Swp} (hok : TaskOk t) (hx : FactsPerm t x) {e : Eff} (he : EffOk t.vars e) : imE (invX x) (imE x e) = e := by
  rw [← imE_comp hok hx (inv_perm hok hx) (id_perm hok) he (fun f hf => by rw [inv_fact hok hx hf, id_fact hok hf])]
  exact imE_self (id_perm hok) he fun f => id_fact hok
theorem inv_sym {t : Tsk} {x : Swp} (hok : TaskOk t) (hx : SymP t x) : SymP t (invX x) := by
  have hl : t.ops.length ≤ 1000000 := by have := hok.2.1; omega
  refine ⟨inv_perm hok hx.1, back_perm hx.2.1 hl, ?_, fun k hk => ?_⟩
  · have := inv_list hok hx.1 hok.2.2.2.2.1
    rwa [hx.2.2.1] at this
  · obtain ⟨j, hj, hjk⟩ := perm_onto hx.2.1 hk
    obtain ⟨o, p, a, h1, h2, ha, h3, h4, h5, h6⟩ := ops_cases hx hj
    obtain rfl : a = k := by rw [hjk] at h2; have := Option.some.inj h2; omega
    have hoo := hok.2.2.2.2.2 j o h1
    refine ⟨p, o, j, h3, (back_eq hx.2.1 hl).2.2 j a hjk, by rw [atI_eq, h1], h4.symm, by rw [← h5, inv_list hok hx.1 hoo.2.2.2.2.1], ?_⟩
    rw [← h6, List.map_map]
    have : o.effs.map (imE (invX x) ∘ imE x) = o.effs.map id := List.map_congr_left fun e he => inv_eff hok hx.1 (effs_ok hoo e he)
    rw [this, List.map_id]
theorem comp_inv {t : Tsk} {x : Swp} (hok : TaskOk t) (hx : SymP t x) : compX x (invX x) = idX t := by
  have hl : t.vars.length ≤ 1000000 := by have := hok.1; omega
  have hl2 : t.ops.length ≤ 1000000 := by have := hok.2.1; omega
  have h1 : (compX x (invX x)).vars = (idX t).vars := back_along hx.1.1 hl
  have h2 : (compX x (invX x)).ops = (idX t).ops := back_along hx.2.1 hl2
  have h3 : (compX x (invX x)).vals = (idX t).vals := List.ext_getElem? fun k => by
    by_cases hk : k < t.vars.length
    · obtain ⟨n, a, l, q1, q2, q3, q4, q5⟩ := hx.1.2.2 k hk
      obtain ⟨ha1, ha2⟩ := hx.1.1.mem (List.mem_of_getElem? q2)
      obtain ⟨a, rfl⟩ := Int.eq_ofNat_of_zero_le ha1
      have hn := hok.2.2.1 k n q1
      rw [comp_vals q2 q3 (inv_vals hok hx.1 q2 q3), back_along q5 (by omega)]
      simp [idX, q1]
    · rw [List.getElem?_eq_none (by simp [compX, hx.1.2.1]; omega), List.getElem?_eq_none (by simp [idX]; omega)]
  cases h : compX x (invX x)
  rw [h] at h1 h2 h3
  cases h' : idX t
  rw [h'] at h1 h2 h3
  simp_all
theorem inv_comp {t : Tsk} {x : Swp} (hok : TaskOk t) (hx : SymP t x) : compX (invX x) x = idX t := by
  have hl : t.vars.length ≤ 1000000 := by have := hok.1; omega
  have hl2 : t.ops.length ≤ 1000000 := by have := hok.2.1; omega
  have hi := inv_perm hok hx.1
  have h1 : (compX (invX x) x).vars = (idX t).vars := along_back hx.1.1 hl
  have h2 : (compX (invX x) x).ops = (idX t).ops := along_back hx.2.1 hl2
  have h3 : (compX (invX x) x).vals = (idX t).vals := List.ext_getElem? fun k => by
    by_cases hk : k < t.vars.length
    · obtain ⟨v, hv, hvk⟩ := perm_onto hx.1.1 hk
      obtain ⟨n, a, l, q1, q2, q3, q4, q5⟩ := hx.1.2.2 v hv
      obtain rfl : a = (k : Int) := by rw [hvk] at q2; exact (Option.some.inj q2).symm
      have hn := hok.2.2.1 v n q1
      rw [atI_eq] at q4
      rw [comp_vals (show (invX x).vars[k]? = some (v : Int) from (back_eq hx.1.1 hl).2.2 v k hvk) (inv_vals hok hx.1 hvk q3) q3, along_back q5 (by omega)]
      simp [idX, q4]
    · rw [List.getElem?_eq_none (by simp [compX, invX, hx.1.2.1]; omega), List.getElem?_eq_none (by simp [idX]; omega)]
  cases h : compX (invX x) x
  rw [h] at h1 h2 h3
  cases h' : idX t
  rw [h'] at h1 h2 h3
  simp_all
/-- Images of states. -/
theorem ims_uniq {t : Tsk} {x : Swp} {s r r' : List Int} (hx : FactsPerm t x) (hs : s.length = t.vars.length) (h : ImS x s r) (h' : ImS x s r') : r = r' := List.ext_getElem? fun a => by
  by_cases ha : a < t.vars.length
  · obtain ⟨v, hv, hva⟩ := perm_onto hx.1 ha
    obtain ⟨u, hu⟩ := some_of_lt (l := s) (k := v) (by omega)
    obtain ⟨b, l, z, q1, q2, q3, q4⟩ := h.2 v u hu
    obtain ⟨b', l', z', p1, p2, p3, p4⟩ := h'.2 v u hu
    obtain rfl : b = a := by rw [hva] at q1; have := Option.some.inj q1; omega
    obtain rfl : b' = b := by rw [hva] at p1; have := Option.some.inj p1; omega
    obtain rfl : l = l' := by rw [q2] at p2; exact Option.some.inj p2
    rw [q4, p4]; rw [q3] at p3; exact p3
  · rw [List.getElem?_eq_none (by rw [h.1]; omega), List.getElem?_eq_none (by rw [h'.1]; omega)]
theorem ims_ok {t : Tsk} {x : Swp} {s r : List Int} (hx : FactsPerm t x) (hs : StateOk t.vars s) (h : ImS x s r) : StateOk t.vars r := by
  refine ⟨h.1.trans hs.1, fun a z n hz hn => ?_⟩
  obtain ⟨v, hv, hva⟩ := perm_onto hx.1 (lt_of_get hn)
  obtain ⟨u, hu⟩ := some_of_lt (l := s) (k := v) (by rw [hs.1]; exact hv)
  obtain ⟨b, l, z', q1, q2, q3, q4⟩ := h.2 v u hu
  obtain rfl : b = a := by rw [hva] at q1; have := Option.some.inj q1; omega
  obtain ⟨m, b', l', p1, p2, p3, p4, p5⟩ := hx.2.2 v hv
  obtain rfl : b' = (b : Int) := by rw [hva] at p2; exact (Option.some.inj p2).symm
  obtain rfl : l = l' := by rw [q2] at p3; exact Option.some.inj p3
  rw [atI_eq, hn] at p4
  rw [q4] at hz
  obtain rfl := Option.some.inj hz
  obtain ⟨j, _, hj⟩ := atI_some q3
  have := p5.mem (List.mem_of_getElem? hj)
  have := Option.some.inj p4
  omega
theorem ims_comp {t : Tsk} {x y : Swp} {s a b : List Int} (hx : FactsPerm t x) (hy : FactsPerm t y) (hs : StateOk t.vars s) (ha : ImS x s a) (hb : ImS y a b) : ImS (compX x y) s b := by
  refine ⟨hb.1.trans ha.1, fun k v hk => ?_⟩
  obtain ⟨i, l, z, q1, q2, q3, q4⟩ := ha.2 k v hk
  obtain ⟨j, m, z', p1, p2, p3, p4⟩ := hb.2 i z q4
  obtain ⟨c, rfl, hc⟩ := atI_some q3
  obtain ⟨d, rfl, hd⟩ := atI_some p3
  have hkl : k < t.vars.length := by rw [← hs.1]; exact lt_of_get hk
  obtain ⟨n, a', l', u1, u2, u3, u4, u5⟩ := hx.2.2 k hkl
  obtain rfl : l = l' := by rw [q2] at u3; exact Option.some.inj u3
  obtain rfl : a' = (i : Int) := by rw [q1] at u2; exact (Option.some.inj u2).symm
  have hil : i < t.vars.length := by have := hx.1.mem (List.mem_of_getElem? q1); omega
  obtain ⟨n', b', m', w1, w2, w3, w4, w5⟩ := hy.2.2 i hil
  obtain rfl : m = m' := by rw [p2] at w3; exact Option.some.inj w3
  rw [atI_eq] at u4
  have e : n = n' := by rw [u4] at w1; have := Option.some.inj w1; omega
  subst e
  exact ⟨j, alongL l m, z', along_get hx.1 hy.1.len q1 p1, comp_vals q1 q2 p2, by rw [atI_eq, along_get u5 w5.len hc hd], p4⟩
theorem ims_id {t : Tsk} {s : List Int} (hok : TaskOk t) (hs : StateOk t.vars s) : ImS (idX t) s s := by
  refine ⟨rfl, fun k v hk => ?_⟩
  have hkl : k < t.vars.length := by rw [← hs.1]; exact lt_of_get hk
  obtain ⟨n, hn⟩ := some_of_lt (l := t.vars) (k := k) hkl
  obtain ⟨h1, h2⟩ := hs.2 k v n hk hn
  obtain ⟨v, rfl⟩ := Int.eq_ofNat_of_zero_le h1
  obtain ⟨n, rfl⟩ := Int.eq_ofNat_of_zero_le (by omega : 0 ≤ n)
  exact ⟨k, rangeI n, v, rangeI_get hkl, by simp [idX, hn], by rw [atI_eq, rangeI_get (by omega)], hk⟩
end Go.Proofs.Ytdhaelekmjgbmaa

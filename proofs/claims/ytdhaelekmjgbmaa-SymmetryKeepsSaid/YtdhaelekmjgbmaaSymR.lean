/- Own text: what the models of chapter 51 compute, third part: images of lists of facts, of operators; both checks are the same. Plain, no program in sight. -/
import Derived.Test.YtdhaelekmjgbmaaSymQ
namespace Go.Proofs.Ytdhaelekmjgbmaa
open Go Go.RowKit
theorem facts_pw {vars : List Int} {f : List Fct} (h : FactsOk vars f) : (∀ x ∈ f, FactOk vars x) ∧ f.Pairwise fun x y => x.var < y.var := by
  refine ⟨fun x hx => by obtain ⟨i, hi⟩ := List.getElem?_of_mem hx; exact h.1 i x hi, ?_⟩
  rw [List.pairwise_iff_getElem]
  intro i j hi hj hij
  exact factsOk_lt h j i _ _ hij (List.getElem?_eq_getElem hi) (List.getElem?_eq_getElem hj)
theorem sorted_eq {a b : List Fct} (hp : a.Perm b) (ha : a.Pairwise fun x y => x.var < y.var) (hb : b.Pairwise fun x y => x.var < y.var) : a = b :=
  List.Perm.eq_of_pairwise (fun x y _ _ h1 h2 => by omega) ha hb hp
def VarsNe (f : List Fct) : Prop := f.Pairwise fun x y => x.var ≠ y.var
theorem VarsNe.perm {a b : List Fct} (hp : a.Perm b) (h : VarsNe a) : VarsNe b := (hp.pairwise_iff (fun h e => h e.symm)).1 h
theorem srt_strict {a : List Fct} (h : VarsNe a) : (srt_symmetry_mapped_l1 a).Pairwise fun x y => x.var < y.var := by
  have h1 := srtF_sorted a
  have h2 : VarsNe (srt_symmetry_mapped_l1 a) := h.perm (srtF_perm a).symm
  exact (h1.and h2).imp fun ⟨p, q⟩ => by omega
theorem imF_var {t : Tsk} {x : Swp} {f g : Fct} (hp : FactsPerm t x) (hf : FactOk t.vars f) (hg : FactOk t.vars g) (h : (imF x f).var = (imF x g).var) : f.var = g.var := by
  obtain ⟨_, hf1, _⟩ := imF_at hp hf
  obtain ⟨_, hg1, _⟩ := imF_at hp hg
  obtain ⟨i, hi, hi'⟩ := atI_some hf1
  obtain ⟨j, hj, hj'⟩ := atI_some hg1
  rw [h, ← hj'] at hi'
  have h1 : i < x.vars.length := by rw [hj'] at hi'; exact lt_of_get hi'
  have h2 := lt_of_get hj'
  rw [List.getElem?_eq_getElem h1, List.getElem?_eq_getElem h2] at hi'
  have hij := (List.getElem_inj hp.1.nodup).1 (Option.some.inj hi')
  rw [hi, hj, hij]
theorem im_ne {t : Tsk} {x : Swp} {fs : List Fct} (hp : FactsPerm t x) (hf : FactsOk t.vars fs) : VarsNe (fs.map (imF x)) := by
  obtain ⟨h1, h2⟩ := facts_pw hf
  unfold VarsNe
  rw [List.pairwise_map]
  refine List.Pairwise.imp_of_mem (fun {a b} ha hb hab => ?_) h2
  intro e
  have := imF_var hp (h1 a ha) (h1 b hb) e
  omega
theorem facts_len {t : Tsk} {fs : List Fct} (hok : TaskOk t) (hf : FactsOk t.vars fs) : fs.length ≤ 64 := by have := factsOk_len hf; have := hok.1; omega
theorem map_take {α β : Type} {f : α → β} {l : List α} {k : Nat} {x : α} (h : l[k]? = some x) : (l.take (k + 1)).map f = (l.take k).map f ++ [f x] := by
  rw [List.take_add_one, h]; simp
theorem mapped_eq {t : Tsk} {x : Swp} {fs : List Fct} (hok : TaskOk t) (hp : FactsPerm t x) (hf : FactsOk t.vars fs) : m_symmetry_mapped x fs = some (imL x fs) := by
  have hl := facts_len hok hf
  unfold m_symmetry_mapped
  rw [rng_from (fun k => (fs.take k).map (imF x)) (by simp) (fun k f hk => by
    obtain ⟨l, h1, h2, h3, _⟩ := imF_at hp (hf.1 k f hk)
    have := lt_of_get hk
    rw [h1, bnd_some, h2, bnd_some, h3, bnd_some, appI_eq (by simp; omega) (by simp; omega), bnd_some, map_take hk]), bnd_some, fin_d, List.take_length, if_pos (by simp; omega), bnd_some]
  rfl
/-- A fact, set into facts that are sorted. -/
def insF (f : Fct) : List Fct → List Fct
  | [] => [f]
  | a :: l => if f.var < a.var then f :: a :: l else a :: insF f l
theorem with_t {f : Fct} {ρ : Type} : ∀ (l acc : List Fct) (k : Nat), acc.length + l.length ≤ 1000 → rng (ρ := ρ) (fun (_ : Nat) (a18 : Fct) (s15 : (List Fct) × Bool) => bnd (bnd (if (!s15.2) = true then (if f.var < a18.var then (some true) else (some false)) else (some false) : Option Bool) fun y54 => if y54 = true then (bnd (appI 16 s15.1 [f]) fun u65 => some (u65, true)) else (some (s15.1, s15.2)) : Option ((List Fct) × Bool)) fun y48 => bnd (appI 16 y48.1 [a18]) fun u81 => some (.next (u81, y48.2))) l k (acc, true) = some (.done (acc ++ l, true))
  | [], acc, k, _ => by simp [rng]
  | a :: l, acc, k, h => by
    simp at h
    have := with_t (f := f) (ρ := ρ) l (acc ++ [a]) (k + 1) (by simp; omega)
    rw [rng, not_t, bnd_some, if_f, bnd_some, appI_eq (by simp; omega) (by simp; omega), bnd_some]
    simp only
    rw [this]; simp
theorem with_f {f : Fct} {ρ : Type} : ∀ (l acc : List Fct) (k : Nat), acc.length + l.length ≤ 900 → ∃ r : List Fct × Bool, rng (ρ := ρ) (fun (_ : Nat) (a18 : Fct) (s15 : (List Fct) × Bool) => bnd (bnd (if (!s15.2) = true then (if f.var < a18.var then (some true) else (some false)) else (some false) : Option Bool) fun y54 => if y54 = true then (bnd (appI 16 s15.1 [f]) fun u65 => some (u65, true)) else (some (s15.1, s15.2)) : Option ((List Fct) × Bool)) fun y48 => bnd (appI 16 y48.1 [a18]) fun u81 => some (.next (u81, y48.2))) l k (acc, false) = some (.done r) ∧ r.1.length ≤ 1000 ∧ (if r.2 = true then r.1 else r.1 ++ [f]) = acc ++ insF f l
  | [], acc, k, h => ⟨(acc, false), by simp [rng], by simp at h; simp; omega, by simp [insF]⟩
  | a :: l, acc, k, h => by
    simp at h
    rw [rng, not_f]
    by_cases hlt : f.var < a.var
    · have := with_t (f := f) (ρ := ρ) l (acc ++ [f] ++ [a]) (k + 1) (by simp; omega)
      refine ⟨(acc ++ [f] ++ [a] ++ l, true), ?_, ?_, ?_⟩
      · rw [if_pos hlt, bnd_some, if_t, appI_eq (by simp; omega) (by simp; omega), bnd_some, bnd_some, appI_eq (by simp; omega) (by simp; omega), bnd_some]
        simp only
        rw [this]
      · simp; omega
      · simp [insF, hlt]
    · obtain ⟨r, h1, h2, h3⟩ := with_f (f := f) (ρ := ρ) l (acc ++ [a]) (k + 1) (by simp; omega)
      refine ⟨r, ?_, h2, ?_⟩
      · rw [if_neg hlt, bnd_some, if_f, bnd_some, appI_eq (by simp; omega) (by simp; omega), bnd_some]
        simp only
        rw [h1]
      · rw [h3]; simp [insF, hlt]
theorem with_eq {f : Fct} {l : List Fct} (h : l.length ≤ 900) : m_ref06_With l f = some (insF f l) := by
  unfold m_ref06_With
  obtain ⟨⟨r1, r2⟩, h1, h2, h3⟩ := with_f (f := f) (ρ := List Fct) l [] 0 (by simpa using h)
  rw [h1, bnd_some, fin_d]
  simp only at h2 h3 ⊢
  cases r2 with
  | true => rw [not_t, bnd_some]; simpa using h3
  | false => rw [not_f, appI_eq (by simp; omega) (by simp; omega), bnd_some, bnd_some]; simpa using h3
theorem insF_perm (f : Fct) : ∀ l, (insF f l).Perm (f :: l)
  | [] => by simp [insF]
  | a :: l => by
    unfold insF
    split
    · exact List.Perm.refl _
    · exact ((insF_perm f l).cons a).trans (List.Perm.swap f a l)
theorem insF_sorted {f : Fct} : ∀ {l : List Fct}, l.Pairwise (fun x y => x.var < y.var) → (∀ y ∈ l, y.var ≠ f.var) → (insF f l).Pairwise fun x y => x.var < y.var
  | [], _, _ => by simp [insF]
  | a :: l, h, hn => by
    obtain ⟨h1, h2⟩ := List.pairwise_cons.1 h
    unfold insF
    split
    · rename_i hlt
      refine List.pairwise_cons.2 ⟨fun y hy => ?_, h⟩
      rcases List.mem_cons.1 hy with rfl | hy
      · exact hlt
      · have := h1 y hy; omega
    · rename_i hlt
      refine List.pairwise_cons.2 ⟨fun y hy => ?_, insF_sorted h2 fun y hy => hn y (List.mem_cons_of_mem _ hy)⟩
      rcases List.mem_cons.1 ((insF_perm f l).mem_iff.1 hy) with rfl | hy
      · have := hn a List.mem_cons_self; omega
      · exact h1 y hy
theorem value_no {l : List Fct} {v : Int} (h : ∀ y ∈ l, y.var ≠ v) : m_ref06_Value l v = some (-1) := by
  unfold m_ref06_Value
  rw [rng_unit (fun k y hy => by rw [if_neg (h y (List.mem_of_getElem? hy))]), bnd_some, fin_d]
theorem make_eq {l : List Fct} (hl : l.length ≤ 64) (hv : ∀ x ∈ l, 0 ≤ x.var ∧ 0 ≤ x.val) (hn : VarsNe l) : m_ref06_Make l = some (srt_symmetry_mapped_l1 l, 0) := by
  unfold m_ref06_Make
  rw [rng_unit (fun k y hy => by
    have := hv y (List.mem_of_getElem? hy)
    rw [if_neg (by omega), if_neg (by omega), bnd_some, if_f]), bnd_some, fin_d]
  obtain ⟨s, h1, h2, h3⟩ := rng_all (ρ := List Fct × Int) (f := fun (_ : Nat) (a60 : Fct) (s57 : (List Fct)) => bnd (m_ref06_Value s57 a60.var) fun q88 => bnd (if 0 ≤ q88 then (if q88 ≠ a60.val then (some true) else (some false)) else (some false) : Option Bool) fun y96 => if y96 = true then (some (.ret (([] : List Fct), 2))) else (if q88 < 0 then (bnd (m_ref06_With s57 a60) fun q108 => some (.next q108)) else (some (.next s57)))) (xs := l) (s₀ := []) (fun k s => s.Perm (l.take k) ∧ s.Pairwise fun x y => x.var < y.var) ⟨by simp, by simp⟩ (fun k f s hk hI => by
    obtain ⟨i1, i2⟩ := hI
    have hne : ∀ y ∈ s, y.var ≠ f.var := fun y hy => by
      have hy := i1.mem_iff.1 hy
      have hd : f ∈ l.drop k := List.mem_of_getElem? (i := 0) (by rw [List.getElem?_drop, Nat.add_zero]; exact hk)
      have hn' := hn
      unfold VarsNe at hn'
      rw [← List.take_append_drop k l, List.pairwise_append] at hn'
      exact hn'.2.2 y hy f hd
    have hsl : s.length ≤ 900 := by rw [i1.length_eq, List.length_take]; omega
    rw [value_no hne, bnd_some, if_neg (by omega), bnd_some, if_f, if_pos (by omega), with_eq hsl, bnd_some]
    refine ⟨_, rfl, ?_, insF_sorted i2 hne⟩
    rw [List.take_add_one, hk]
    exact (insF_perm f s).trans ((i1.cons f).trans (List.perm_append_singleton f _).symm))
  rw [h1, bnd_some, fin_d]
  rw [List.take_length] at h2
  rw [sorted_eq (h2.trans (srtF_perm l).symm) h3 (srt_strict hn)]
theorem reffact_eq {t : Tsk} {x : Swp} {f : Fct} (hp : FactsPerm t x) (hf : FactOk t.vars f) : m_ref51_Fact x f = some (imF x f) := by
  unfold m_ref51_Fact
  obtain ⟨l, h1, h2, h3, _⟩ := imF_at hp hf
  rw [h1, bnd_some, h2, bnd_some, h3, bnd_some]
theorem reffacts_eq {t : Tsk} {x : Swp} {fs : List Fct} (hok : TaskOk t) (hp : FactsPerm t x) (hf : FactsOk t.vars fs) : m_ref51_Facts x fs = some (imL x fs) := by
  have hl := facts_len hok hf
  unfold m_ref51_Facts
  rw [rng_from (fun k => (fs.take k).map (imF x)) (by simp) (fun k f hk => by
    have := lt_of_get hk
    rw [reffact_eq hp (hf.1 k f hk), bnd_some, appI_eq (by simp; omega) (by simp; omega), bnd_some, map_take hk]), bnd_some, fin_d, List.take_length, make_eq (by simpa using hl) (fun y hy => by
      obtain ⟨f, hf', rfl⟩ := List.mem_map.1 hy
      obtain ⟨_, _, _, _, h⟩ := imF_at hp ((facts_pw hf).1 f hf')
      exact h) (im_ne hp hf), bnd_some]
  rfl
theorem image_eq {t : Tsk} {x : Swp} {o : Opr} (hok : TaskOk t) (hp : FactsPerm t x) (ho : OpOk t.vars o) : m_symmetry_image x o = some (imO x o) := by
  obtain ⟨_, _, hl, _, hpre, heff⟩ := ho
  unfold m_symmetry_image
  rw [mapped_eq hok hp hpre, bnd_some, bnd_some, rng_from (fun k => (o.effs.take k).map (imE x)) (by simp) (fun k e hk => by
    obtain ⟨h1, h2⟩ := heff k e hk
    obtain ⟨l, g1, g2, g3, _⟩ := imF_at hp h2
    have := lt_of_get hk
    rw [show e.var = (⟨e.var, e.val⟩ : Fct).var from rfl, g1, bnd_some, g2, bnd_some, show e.val = (⟨e.var, e.val⟩ : Fct).val from rfl, g3, bnd_some, mapped_eq hok hp h1, bnd_some, appI_eq (by simp; omega) (by simp; omega), bnd_some, map_take hk]
    rfl), bnd_some, fin_d, List.take_length]
  rfl
theorem eff_ext {a b : Eff} : a = b ↔ a.var = b.var ∧ a.val = b.val ∧ a.cond = b.cond := ⟨fun h => by rw [h]; exact ⟨rfl, rfl, rfl⟩, fun ⟨h1, h2, h3⟩ => by cases a; cases b; simp_all⟩
theorem fits_eq {t : Tsk} {x : Swp} {o p : Opr} (hok : TaskOk t) (hp : FactsPerm t x) (ho : OpOk t.vars o) : m_ref51_fits x o p = some (bof (o.cost = p.cost ∧ imL x o.pre = p.pre ∧ o.effs.map (imE x) = p.effs)) := by
  obtain ⟨_, _, hl, _, hpre, heff⟩ := ho
  unfold m_ref51_fits
  by_cases h1 : o.cost = p.cost
  case neg => rw [if_pos h1, bnd_some, if_t, bof_f (fun h => h1 h.1)]
  rw [if_neg (by simpa using h1)]
  by_cases h2 : o.effs.length = p.effs.length
  case neg => rw [if_pos (by omega), bnd_some, if_t, bof_f (fun h => h2 (by rw [← h.2.2]; simp))]
  rw [if_neg (by omega), reffacts_eq hok hp hpre, bnd_some, base_facts, bnd_some]
  by_cases h3 : imL x o.pre = p.pre
  case neg => rw [bof_f h3, if_f, bnd_some, if_t, bof_f (fun h => h3 h.2.1)]
  rw [bof_t h3, if_t, bnd_some, if_f, rng_dec (fun k => (o.effs.map (imE x))[k]? = p.effs[k]?) (fun k e hk => by
    obtain ⟨g1, g2⟩ := heff k e hk
    obtain ⟨z, hz⟩ := some_of_lt (l := p.effs) (k := k) (by have := lt_of_get hk; omega)
    have hE : (o.effs.map (imE x))[k]? = some (imE x e) := by rw [List.getElem?_map, hk]; rfl
    rw [reffact_eq hp g2, bnd_some, hz, bnd_some, hE]
    have hex := @eff_ext (imE x e) z
    by_cases k1 : (imF x ⟨e.var, e.val⟩).var = z.var
    case neg => rw [if_pos k1, bnd_some, if_t, bof_f (fun h => k1 (hex.1 (Option.some.inj h)).1), if_f]
    rw [if_neg (by simpa using k1), bnd_some]
    by_cases k2 : (imF x ⟨e.var, e.val⟩).val = z.val
    case neg => rw [if_pos k2, bnd_some, if_t, bof_f (fun h => k2 (hex.1 (Option.some.inj h)).2.1), if_f]
    rw [if_neg (by simpa using k2), bnd_some, reffacts_eq hok hp g1, bnd_some, base_facts, bnd_some]
    by_cases k3 : imL x e.cond = z.cond
    · rw [bof_t k3, if_t, bnd_some, if_f, bof_t (by rw [hex.2 ⟨k1, k2, k3⟩]), if_t]
    · rw [bof_f k3, if_f, bnd_some, if_t, bof_f (fun h => k3 (hex.1 (Option.some.inj h)).2.2), if_f])]
  refine bof_if ⟨fun h => ⟨h1, h3, List.ext_getElem? fun k => ?_⟩, fun h => by rw [h.2.2]; exact fun _ _ => rfl⟩
  by_cases hk : k < o.effs.length
  · exact h k hk
  · rw [List.getElem?_eq_none (by simp; omega), List.getElem?_eq_none (by omega)]
/-- A map is a symmetry of a task. -/
def SymP (t : Tsk) (x : Swp) : Prop := FactsPerm t x ∧ PermR x.ops t.ops.length ∧ imL x t.goal = t.goal ∧ ∀ k, k < t.ops.length → ∃ (o p : Opr) (a : Int), t.ops[k]? = some o ∧ x.ops[k]? = some a ∧ atI t.ops a = some p ∧ o.cost = p.cost ∧ imL x o.pre = p.pre ∧ o.effs.map (imE x) = p.effs
theorem is_eq {t : Tsk} {x : Swp} (hok : TaskOk t) : m_symmetry_is t x = some (bof (SymP t x)) := by
  unfold m_symmetry_is
  rw [facts_eq hok, bnd_some]
  by_cases h1 : FactsPerm t x
  case neg => rw [bof_f h1, if_f, bnd_some, if_t, bof_f (fun h => h1 h.1)]
  have hlo := hok.2.1
  rw [bof_t h1, if_t, perm_n (by omega), bnd_some]
  by_cases h2 : PermR x.ops t.ops.length
  case neg => rw [bof_f h2, if_f, bnd_some, if_t, bof_f (fun h => h2 h.2.1)]
  rw [bof_t h2, if_t, mapped_eq hok h1 hok.2.2.2.2.1, bnd_some, equal_facts, bnd_some]
  by_cases h3 : imL x t.goal = t.goal
  case neg => rw [bof_f h3, if_f, bnd_some, if_t, bof_f (fun h => h3 h.2.2.1)]
  rw [bof_t h3, if_t, bnd_some, if_f, rng_dec (fun k => ∃ (o p : Opr) (a : Int), t.ops[k]? = some o ∧ x.ops[k]? = some a ∧ atI t.ops a = some p ∧ o.cost = p.cost ∧ imL x o.pre = p.pre ∧ o.effs.map (imE x) = p.effs) (fun k o hk => by
    have := lt_of_get hk
    obtain ⟨a, ha⟩ := some_of_lt (l := x.ops) (k := k) (by rw [h2.len]; omega)
    obtain ⟨ha1, ha2⟩ := h2.mem (List.mem_of_getElem? ha)
    obtain ⟨j, rfl⟩ := Int.eq_ofNat_of_zero_le ha1
    obtain ⟨p, hp⟩ := some_of_lt (l := t.ops) (k := j) (by omega)
    rw [ha, bnd_some, atI_eq, hp, bnd_some, image_eq hok h1 (hok.2.2.2.2.2 k o hk), bnd_some, alike_eq, bnd_some]
    have e : (∃ (o p : Opr) (a : Int), t.ops[k]? = some o ∧ some (j : Int) = some a ∧ atI t.ops a = some p ∧ o.cost = p.cost ∧ imL x o.pre = p.pre ∧ o.effs.map (imE x) = p.effs) ↔ ((imO x o).cost = p.cost ∧ (imO x o).pre = p.pre ∧ (imO x o).effs = p.effs) := by
      constructor
      · rintro ⟨o', p', a', q1, q2, q3, q4⟩
        obtain rfl : o = o' := by rw [hk] at q1; exact Option.some.inj q1
        obtain rfl := Option.some.inj q2
        rw [atI_eq, hp] at q3
        obtain rfl := Option.some.inj q3
        exact q4
      · intro h
        exact ⟨o, p, j, hk, rfl, by rw [atI_eq, hp], h⟩
    rw [bof_eq e])]
  exact bof_if ⟨fun h => ⟨h1, h2, h3, h⟩, fun h => h.2.2.2⟩
theorem refcheck_eq {t : Tsk} {x : Swp} : m_ref51_Check t x = some (bof (TaskOk t ∧ SymP t x)) := by
  unfold m_ref51_Check m_base_Good
  rw [bnd_some]
  by_cases hok : TaskOk t
  case neg => rw [bof_f hok, if_f, bnd_some, if_t, bof_f (fun h => hok h.1)]
  rw [bof_t hok, if_t, shape_eq hok, bnd_some]
  by_cases h12 : FactsPerm t x ∧ PermR x.ops t.ops.length
  case neg => rw [bof_f h12, if_f, bnd_some, if_t, bof_f (fun h => h12 ⟨h.2.1, h.2.2.1⟩)]
  obtain ⟨h1, h2⟩ := h12
  have hlo := hok.2.1
  rw [bof_t ⟨h1, h2⟩, if_t, reffacts_eq hok h1 hok.2.2.2.2.1, bnd_some, base_facts, bnd_some]
  by_cases h3 : imL x t.goal = t.goal
  case neg => rw [bof_f h3, if_f, bnd_some, if_t, bof_f (fun h => h3 h.2.2.2.1)]
  rw [bof_t h3, if_t, bnd_some, if_f, rng_dec (fun k => ∃ (o p : Opr) (a : Int), t.ops[k]? = some o ∧ x.ops[k]? = some a ∧ atI t.ops a = some p ∧ o.cost = p.cost ∧ imL x o.pre = p.pre ∧ o.effs.map (imE x) = p.effs) (fun k o hk => by
    have := lt_of_get hk
    obtain ⟨a, ha⟩ := some_of_lt (l := x.ops) (k := k) (by rw [h2.len]; omega)
    obtain ⟨ha1, ha2⟩ := h2.mem (List.mem_of_getElem? ha)
    obtain ⟨j, rfl⟩ := Int.eq_ofNat_of_zero_le ha1
    obtain ⟨p, hp⟩ := some_of_lt (l := t.ops) (k := j) (by omega)
    rw [ha, bnd_some, atI_eq, hp, bnd_some, fits_eq hok h1 (hok.2.2.2.2.2 k o hk), bnd_some]
    have e : (∃ (o p : Opr) (a : Int), t.ops[k]? = some o ∧ some (j : Int) = some a ∧ atI t.ops a = some p ∧ o.cost = p.cost ∧ imL x o.pre = p.pre ∧ o.effs.map (imE x) = p.effs) ↔ (o.cost = p.cost ∧ imL x o.pre = p.pre ∧ o.effs.map (imE x) = p.effs) := by
      constructor
      · rintro ⟨o', p', a', q1, q2, q3, q4⟩
        obtain rfl : o = o' := by rw [hk] at q1; exact Option.some.inj q1
        obtain rfl := Option.some.inj q2
        rw [atI_eq, hp] at q3
        obtain rfl := Option.some.inj q3
        exact q4
      · intro h
        exact ⟨o, p, j, hk, rfl, by rw [atI_eq, hp], h⟩
    rw [bof_eq e])]
  exact bof_if ⟨fun h => ⟨hok, h1, h2, h3, h⟩, fun h => h.2.2.2.2⟩
theorem check_eq {t : Tsk} {x : Swp} : m_symmetry_Check t x = some (bof (TaskOk t ∧ SymP t x)) := by
  unfold m_symmetry_Check m_task_Check
  rw [bnd_some]
  by_cases hok : TaskOk t
  case neg => rw [if_neg (fun h => hok (check_ok.1 h)), bnd_some, bof_f (fun h => hok h.1)]
  rw [if_pos (check_ok.2 hok), is_eq hok, bnd_some]
  by_cases h : SymP t x
  · rw [bof_t h, if_t, bnd_some, bof_t ⟨hok, h⟩]
  · rw [bof_f h, if_f, bnd_some, bof_f (fun hh => h hh.2)]
end Go.Proofs.Ytdhaelekmjgbmaa

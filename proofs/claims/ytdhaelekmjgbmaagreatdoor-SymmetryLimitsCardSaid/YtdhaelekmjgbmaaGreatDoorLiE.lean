/- SymmetryLimits returns true for every input, and all read behind the call as before; the tables that the row lists are tied to the program's text. No conditions. -/
import Derived.Test.YtdhaelekmjgbmaaGreatDoorLiD
import Derived.Test.YtdhaelekmjgbmaaGreatDoorRows
set_option linter.unusedVariables false
set_option linter.unusedSimpArgs false
namespace Go.Proofs.YtdhaelekmjgbmaaGreatDoor
open Go Go.RowKit
section
open Go Go.RowKit
/-- Choices that are images of the first facts. -/
structure Gz (t : Tsk) (zs : Zs) : Prop where
  dom : zs.map (·.1) = (allP t).take zs.length
  len : zs.length ≤ (allP t).length
  img : ∀ z ∈ zs, InP t z.2
  inj : (zs.map (·.2)).Nodup
  var : ∀ z ∈ zs, ∀ z' ∈ zs, z.1.1 = z'.1.1 ↔ z.2.1 = z'.2.1
  siz : ∀ z ∈ zs, szT t z.1.1 = szT t z.2.1
theorem Gz.nil (t : Tsk) : Gz t [] := ⟨by simp, by simp, by simp, by simp, by simp, by simp⟩
theorem Gz.fresh {t : Tsk} {zs : Zs} {x : Pn} (h : Gz t zs) (hx : (allP t)[zs.length]? = some x) : ∀ z ∈ zs, z.1 ≠ x := fun z hz e => by
  have h1 : z.1 ∈ (allP t).take zs.length := h.dom ▸ List.mem_map.2 ⟨z, hz, rfl⟩
  have h2 := allP_nodup t
  rw [← List.take_append_drop zs.length (allP t), List.nodup_append] at h2
  have h3 : x ∈ (allP t).drop zs.length := List.mem_of_getElem? (i := 0) (by rw [List.getElem?_drop, Nat.add_zero]; exact hx)
  exact h2.2.2 _ h1 _ h3 e
theorem Gz.snoc {t : Tsk} {zs : Zs} {x y : Pn} (h : Gz t zs) (hx : (allP t)[zs.length]? = some x) (hy : InP t y) (hn : Nw zs x y) (hs : szT t x.1 = szT t y.1) : Gz t (zs ++ [(x, y)]) := by
  have hlt := lt_of_get hx
  refine ⟨?_, by simp; omega, ?_, ?_, ?_, ?_⟩
  · rw [List.map_append, h.dom, List.length_append, List.length_singleton, List.take_add_one, hx]; rfl
  · intro z hz
    rcases List.mem_append.1 hz with hz | hz
    · exact h.img z hz
    · simp at hz; subst hz; exact hy
  · rw [List.map_append, List.nodup_append]
    refine ⟨h.inj, by simp, fun a ha b hb e => ?_⟩
    obtain ⟨z, hz, rfl⟩ := List.mem_map.1 ha
    simp at hb
    exact hn.img z hz (e.trans hb)
  · intro z hz z' hz'
    rcases List.mem_append.1 hz with hz | hz <;> rcases List.mem_append.1 hz' with hz' | hz'
    · exact h.var z hz z' hz'
    · simp at hz'; subst hz'; exact hn.var z hz
    · simp at hz; subst hz
      have := hn.var z' hz'
      exact ⟨fun e => ((this.1 e.symm)).symm, fun e => (this.2 e.symm).symm⟩
    · simp at hz hz'; subst hz; subst hz'; exact ⟨fun _ => rfl, fun _ => rfl⟩
  · intro z hz
    rcases List.mem_append.1 hz with hz | hz
    · exact h.siz z hz
    · simp at hz; subst hz; exact hs
theorem fitB_siz {t : Tsk} {sg : Nat → Nat → ByteArray} {zs : Zs} {x y : Pn} (h : fitB t sg zs x y = true) (hz : Gz t zs) : szT t x.1 = szT t y.1 := by
  unfold fitB at h
  split at h
  · cases h
  · split at h
    · obtain ⟨z', hz', e1, e2⟩ := Vf_pos (by omega : ¬ Vf zs x.1 < 0)
      have h3 : Vf zs x.1 = (y.1 : Int) := by simpa using h
      have h4 : z'.2.1 = y.1 := by omega
      rw [← e1, ← h4]
      exact hz.siz z' hz'
    · simp at h; exact h.2
theorem Gz.fit {t : Tsk} {sg : Nat → Nat → ByteArray} {zs : Zs} {x y : Pn} (h : Gz t zs) (hx : (allP t)[zs.length]? = some x) (hy : InP t y) (hf : fitB t sg zs x y = true) : Nw zs x y ∧ Gz t (zs ++ [(x, y)]) := by
  have hn := fitB_nw hf (h.fresh hx) h.var
  exact ⟨hn, h.snoc hx hy hn (fitB_siz hf h)⟩
/-- What a search answers: a symmetry, the steps so far, whether the limit is reached. -/
abbrev Rs := Option Swp × Nat × Bool
def noX : Swp := ⟨[], [], []⟩
def goL (M : Nat) (fit : Pn → Bool) (sub : Pn → Nat → Rs) : List Pn → Nat → Rs
  | [], s => (none, s, false)
  | y :: r, s => if fit y = true then (if M ≤ s then (none, s, true) else if (sub y (s + 1)).1.isSome = true ∨ (sub y (s + 1)).2.2 = true then sub y (s + 1) else goL M fit sub r (sub y (s + 1)).2.1) else goL M fit sub r s
section
variable (t : Tsk) (sg : Nat → Nat → ByteArray) (leaf : Zs → Option Swp) (M : Nat)
def xAt (zs : Zs) : Pn := ((allP t)[zs.length]?).getD (0, 0)
def ext : Nat → Zs → Nat → Rs
  | 0, zs, s => (leaf zs, s, false)
  | d + 1, zs, s => goL M (fitB t sg zs (xAt t zs)) (fun y s => ext d (zs ++ [(xAt t zs, y)]) s) (allP t) s
def stp (d : Nat) (zs : Zs) (y : Pn) (s : Nat) : Rs := if M ≤ s then (none, s, true) else ext t sg leaf M d (zs ++ [(xAt t zs, y)]) (s + 1)
end
section
variable {t : Tsk} {sg : Nat → Nat → ByteArray} {leaf : Zs → Option Swp} {M : Nat}
def ansR (t : Tsk) (sg : Nat → Nat → ByteArray) (M : Nat) (zs : Zs) (r : Rs) : Swp × Bool × Fnd := (r.1.getD noX, r.1.isSome, mkF t sg zs (r.2.1 : Int) (M : Int) r.2.2)
/-- What the models answer where all facts have images. -/
def LeafOk (t : Tsk) (sg : Nat → Nat → ByteArray) (leaf : Zs → Option Swp) : Prop := ∀ (me : MeT) (zs : Zs) (s M : Nat), Gz t zs → zs.length = (allP t).length → m_extendO me (mkF t sg zs (s : Int) (M : Int) false) (zs.length : Int) = some (ansR t sg M zs (leaf zs, s, false))
theorem at_list {zs : Zs} {s M : Int} {fl : Bool} {k : Nat} {x : Pn} (hx : (allP t)[k]? = some x) : atI (mkF t sg zs s M fl).list (k : Int) = some (fc x) := by
  show atI ((allP t).map fc) (k : Int) = _
  rw [atI_eq, List.getElem?_map, hx]; rfl
theorem xAt_get {zs : Zs} (h : zs.length < (allP t).length) : (allP t)[zs.length]? = some (xAt t zs) := by
  unfold xAt
  rw [List.getElem?_eq_getElem h]; rfl
theorem xAt_in {zs : Zs} (h : zs.length < (allP t).length) : InP t (xAt t zs) := mem_allP.1 (List.mem_of_getElem? (xAt_get h))
theorem step_of (hM : M ≤ 1048576) (hn : (allP t).length ≤ 4096) {d d' : Nat} (ih : ∀ (zs : Zs) (s : Nat), Gz t zs → zs.length + d = (allP t).length → m_extendO (mxE d') (mkF t sg zs (s : Int) (M : Int) false) (zs.length : Int) = some (ansR t sg M zs (ext t sg leaf M d zs s)))
    {zs : Zs} {y : Pn} {s : Nat} (hz : Gz t zs) (hl : zs.length + (d + 1) = (allP t).length) (hy : InP t y) (hf : fitB t sg zs (xAt t zs) y = true) :
    m_stepO (mxE (d' + 1)) (mkF t sg zs (s : Int) (M : Int) false) (zs.length : Int) (fc y) = some (ansR t sg M zs (stp t sg leaf M d zs y s)) := by
  have hlt : zs.length < (allP t).length := by omega
  obtain ⟨hnw, hg⟩ := hz.fit (xAt_get hlt) hy hf
  unfold m_stepO stp
  by_cases hs : M ≤ s
  · rw [if_pos (show (mkF t sg zs (s : Int) (M : Int) false).most ≤ (mkF t sg zs (s : Int) (M : Int) false).steps from by show (M : Int) ≤ (s : Int); omega), if_pos hs]
    rfl
  · rw [if_neg (show ¬ (mkF t sg zs (s : Int) (M : Int) false).most ≤ (mkF t sg zs (s : Int) (M : Int) false).steps from by show ¬ (M : Int) ≤ (s : Int); omega), if_neg hs]
    have e1 : chkI ((mkF t sg zs (s : Int) (M : Int) false).steps + 1) = some (((s + 1 : Nat)) : Int) := by
      show chkI ((s : Int) + 1) = _
      rw [chkI_eq (by unfold inI64; omega)]; rfl
    rw [e1, bnd_some, at_list (xAt_get hlt), bnd_some]
    have e2 := choose_mk (t := t) (sg := sg) (s := ((s + 1 : Nat) : Int)) (M := (M : Int)) (fl := false) (xAt_in hlt) hy hnw
    unfold mkF at e2
    simp only [mkF]
    simp only [swF] at e2 ⊢
    rw [e2, bnd_some]
    rw [chkI_eq (by unfold inI64; omega), bnd_some]
    have e3 := ih (zs ++ [(xAt t zs, y)]) (s + 1) hg (by simp; omega)
    rw [show ((zs ++ [(xAt t zs, y)]).length : Int) = (zs.length : Int) + 1 from by simp] at e3
    unfold mkF at e3
    simp only [swF] at e3
    show (bnd (m_extendO (mxE d') _ _) _) = _
    rw [e3, bnd_some]
    generalize ext t sg leaf M d (zs ++ [(xAt t zs, y)]) (s + 1) = r
    unfold ansR
    simp only []
    rw [at_list (xAt_get hlt), bnd_some, undo_mk (xAt_in hlt) hy hnw rfl, bnd_some]
/-- The loop of extend. -/
noncomputable def extF (me : MeT) (x1 : Int) : Nat → Fct → Fnd → Option (Ctl Fnd (Swp × Bool × Fnd)) := fun (_ : Nat) (a219 : Fct) (s216 : Fnd) => bnd (atI s216.list x1) fun a251 => bnd (m_symmetry_finder_fits s216 a251 a219) fun q264 => if q264 = true then bnd (m_stepO me s216 x1 a219) fun q273 => bnd (if q273.2.1 = true then (some (true, true)) else (some (false, q273.2.2.full)) : Option (Bool × Bool)) fun y305 => if y305.2 = true then (some (.ret (q273.1, y305.1, q273.2.2))) else (some (.next q273.2.2)) else some (.next s216)
def finR (t : Tsk) (sg : Nat → Nat → ByteArray) (M : Nat) (zs : Zs) (r : Rs) : Fin Fnd (Swp × Bool × Fnd) := if r.1.isSome = true ∨ r.2.2 = true then .ret (ansR t sg M zs r) else .done (mkF t sg zs (r.2.1 : Int) (M : Int) false)
theorem ext_loop (hok : TaskOk t) {me : MeT} {zs : Zs} (hlt : zs.length < (allP t).length) {sub : Pn → Nat → Rs} (hst : ∀ (y : Pn) (s : Nat), InP t y → fitB t sg zs (xAt t zs) y = true → m_stepO me (mkF t sg zs (s : Int) (M : Int) false) (zs.length : Int) (fc y) = some (ansR t sg M zs (if M ≤ s then (none, s, true) else sub y (s + 1)))) :
    ∀ (l : List Pn) (k s : Nat), (∀ y ∈ l, InP t y) → rng (extF me (zs.length : Int)) (l.map fc) k (mkF t sg zs (s : Int) (M : Int) false) = some (finR t sg M zs (goL M (fitB t sg zs (xAt t zs)) sub l s))
  | [], k, s, _ => rfl
  | y :: l, k, s, hl => by
    have hy := hl y List.mem_cons_self
    have ih := ext_loop hok hlt hst l (k + 1)
    rw [List.map_cons]
    unfold rng goL
    have e1 : extF me (zs.length : Int) k (fc y) (mkF t sg zs (s : Int) (M : Int) false) = (if fitB t sg zs (xAt t zs) y = true then bnd (m_stepO me (mkF t sg zs (s : Int) (M : Int) false) (zs.length : Int) (fc y)) fun q273 => bnd (if q273.2.1 = true then (some (true, true)) else (some (false, q273.2.2.full)) : Option (Bool × Bool)) fun y305 => if y305.2 = true then (some (.ret (q273.1, y305.1, q273.2.2))) else (some (.next q273.2.2)) else some (.next (mkF t sg zs (s : Int) (M : Int) false))) := by
      unfold extF
      rw [at_list (xAt_get hlt), bnd_some, fits_mk hok (xAt_in hlt) hy, bnd_some]
    rw [e1]
    by_cases hf : fitB t sg zs (xAt t zs) y = true
    · rw [if_pos hf, if_pos hf, hst y s hy hf, bnd_some]
      by_cases hM : M ≤ s
      · rw [if_pos hM, if_pos hM]
        rfl
      · rw [if_neg hM, if_neg hM]
        rcases hr : sub y (s + 1) with ⟨o, s', fl⟩
        cases o with
        | some w => rfl
        | none =>
          cases fl with
          | true => rfl
          | false =>
            show rng (extF me (zs.length : Int)) (l.map fc) (k + 1) (mkF t sg zs (s' : Int) (M : Int) false) = some (finR t sg M zs (goL M (fitB t sg zs (xAt t zs)) sub l s'))
            exact ih s' fun q hq => hl q (List.mem_cons_of_mem _ hq)
    · rw [if_neg hf, if_neg hf]
      exact ih s fun q hq => hl q (List.mem_cons_of_mem _ hq)
theorem ext_eq (hok : TaskOk t) (hL : LeafOk t sg leaf) (hM : M ≤ 1048576) (hn : (allP t).length ≤ 4096) : ∀ (d d' : Nat), d ≤ d' → ∀ (zs : Zs) (s : Nat), Gz t zs → zs.length + d = (allP t).length → m_extendO (mxE d') (mkF t sg zs (s : Int) (M : Int) false) (zs.length : Int) = some (ansR t sg M zs (ext t sg leaf M d zs s))
  | 0, d', _, zs, s, hz, hl => hL _ zs s M hz (by omega)
  | d + 1, 0, h, _, _, _, _ => absurd h (by omega)
  | d + 1, d' + 1, h, zs, s, hz, hl => by
    have hlt : zs.length < (allP t).length := by omega
    have ih := ext_eq hok hL hM hn d d' (by omega)
    unfold m_extendO ext
    have hll : (mkF t sg zs (s : Int) (M : Int) false).list.length = (allP t).length := List.length_map ..
    rw [if_neg (by rw [hll]; omega)]
    have hlp := ext_loop (sub := fun y s => ext t sg leaf M d (zs ++ [(xAt t zs, y)]) s) hok hlt (fun y s hy hf => step_of hM hn ih hz (by omega) hy hf) (allP t) 0 s fun y hy => mem_allP.1 hy
    unfold extF at hlp
    show bnd (rng _ ((allP t).map fc) 0 (mkF t sg zs (s : Int) (M : Int) false)) _ = _
    rw [hlp, bnd_some]
    generalize goL M (fitB t sg zs (xAt t zs)) (fun y s => ext t sg leaf M d (zs ++ [(xAt t zs, y)]) s) (allP t) s = r
    obtain ⟨o, s', fl⟩ := r
    unfold finR
    cases o with
    | some w => rfl
    | none => cases fl <;> rfl
theorem step_eq (hok : TaskOk t) (hL : LeafOk t sg leaf) (hM : M ≤ 1048576) (hn : (allP t).length ≤ 4096) {d : Nat} {zs : Zs} {y : Pn} {s : Nat} (hz : Gz t zs) (hl : zs.length + (d + 1) = (allP t).length) (hy : InP t y) (hf : fitB t sg zs (xAt t zs) y = true) :
    m_symmetry_finder_step (mkF t sg zs (s : Int) (M : Int) false) (zs.length : Int) (fc y) = some (ansR t sg M zs (stp t sg leaf M d zs y s)) := by
  have hll : (mkF t sg zs (s : Int) (M : Int) false).list.length = (allP t).length := List.length_map ..
  unfold m_symmetry_finder_step
  rw [hll]
  exact step_of hM hn (fun zs s hz hl => ext_eq hok hL hM hn d _ (by omega) zs s hz hl) hz hl hy hf
end
end
section
section
variable {α σ ρ β : Type}
theorem lop_wf' {f : σ → Option (Ctl σ ρ)} (I : σ → Prop) (B : σ → Prop) (R : ρ → Prop) (μ : σ → Nat) (h : ∀ s, I s → (∃ s', f s = some (.next s') ∧ I s' ∧ μ s' < μ s) ∨ (∃ s', f s = some (.brk s') ∧ B s') ∨ ∃ r, f s = some (.ret r) ∧ R r) :
    ∀ s, I s → (∃ s', lop f s = some (.done s') ∧ B s') ∨ ∃ r, lop f s = some (.ret r) ∧ R r := by
  have key : ∀ (n : Nat) s, I s → μ s < n → (∃ s', lop f s = some (.done s') ∧ B s') ∨ ∃ r, lop f s = some (.ret r) ∧ R r := by
    intro n
    induction n with
    | zero => intro s _ hn; omega
    | succ n ih =>
      intro s hI hn
      rw [lop_eq]
      rcases h s hI with ⟨s', h1, h2, h3⟩ | ⟨s', h1, h2⟩ | ⟨r, h1, h2⟩
      · rw [h1]; exact ih s' h2 (by omega)
      · rw [h1]; exact .inl ⟨s', rfl, h2⟩
      · rw [h1]; exact .inr ⟨r, rfl, h2⟩
  exact fun s hI => key (μ s + 1) s hI (by omega)
/-- A loop, and what is said of what comes behind it. -/
theorem lop_ex {f : σ → Option (Ctl σ ρ)} {s₀ : σ} {k : Fin σ ρ → Option β} {P : β → Prop} (I : σ → Prop) (B : σ → Prop) (R : ρ → Prop) (μ : σ → Nat) (h0 : I s₀)
    (h : ∀ s, I s → (∃ s', f s = some (.next s') ∧ I s' ∧ μ s' < μ s) ∨ (∃ s', f s = some (.brk s') ∧ B s') ∨ ∃ r, f s = some (.ret r) ∧ R r)
    (hb : ∀ s, B s → ∃ r, k (.done s) = some r ∧ P r) (hr : ∀ q, R q → ∃ r, k (.ret q) = some r ∧ P r) : ∃ r, bnd (lop f s₀) k = some r ∧ P r := by
  rcases lop_wf' I B R μ h s₀ h0 with ⟨s, h1, h2⟩ | ⟨q, h1, h2⟩
  · rw [h1, bnd_some]; exact hb s h2
  · rw [h1, bnd_some]; exact hr q h2
theorem lop_bnd {f : σ → Option (Ctl σ ρ)} {s₀ : σ} {k : Fin σ ρ → Option β} {r : Option β} (I : σ → Prop) (B : σ → Prop) (μ : σ → Nat) (h0 : I s₀)
    (h : ∀ s, I s → (∃ s', f s = some (.next s') ∧ I s' ∧ μ s' < μ s) ∨ (∃ s', f s = some (.brk s') ∧ B s')) (hb : ∀ s, B s → k (.done s) = r) : bnd (lop f s₀) k = r := by
  rcases lop_wf' I B (fun _ => False) μ (fun s hI => (h s hI).imp id .inl) s₀ h0 with ⟨s, h1, h2⟩ | ⟨q, _, h2⟩
  · rw [h1, bnd_some]; exact hb s h2
  · exact h2.elim
end
end
section
open Go Go.RowKit
/-- The image of a fact. -/
def imP (g : Swp) (p : Pn) : Pn := ((imF g (fc p)).var.toNat, (imF g (fc p)).val.toNat)
theorem InP.ok {t : Tsk} {p : Pn} (hok : TaskOk t) (h : InP t p) : FactOk t.vars (fc p) := by
  refine ⟨by simp [fc], by simp [fc], (szT t p.1 : Int), ?_, ?_⟩
  · show t.vars[((p.1 : Nat) : Int).toNat]? = _
    rw [show ((p.1 : Nat) : Int).toNat = p.1 from by omega]
    exact szT_get hok h.1
  · have := h.2
    show ((p.2 : Nat) : Int) < _
    omega
theorem imP_at {t : Tsk} {g : Swp} {p : Pn} (hok : TaskOk t) (hp : FactsPerm t g) (h : InP t p) : ∃ l, atI g.vars (p.1 : Int) = some ((imP g p).1 : Int) ∧ atI g.vals (p.1 : Int) = some l ∧ atI l (p.2 : Int) = some ((imP g p).2 : Int) ∧ imF g (fc p) = fc (imP g p) := by
  obtain ⟨l, h1, h2, h3, h4, h5⟩ := imF_at hp (h.ok hok)
  have e1 : ((imP g p).1 : Int) = (imF g (fc p)).var := by unfold imP; simp; omega
  have e2 : ((imP g p).2 : Int) = (imF g (fc p)).val := by unfold imP; simp; omega
  refine ⟨l, by rw [e1]; exact h1, h2, by rw [e2]; exact h3, ?_⟩
  unfold fc at *
  rw [e1, e2]
theorem imP_get {t : Tsk} {g : Swp} {p : Pn} (hok : TaskOk t) (hp : FactsPerm t g) (h : InP t p) : ∃ l : List Int, g.vars[p.1]? = some ((imP g p).1 : Int) ∧ g.vals[p.1]? = some l ∧ l[p.2]? = some ((imP g p).2 : Int) ∧ PermR l (szT t p.1) ∧ szT t (imP g p).1 = szT t p.1 ∧ (imP g p).1 < t.vars.length := by
  obtain ⟨l, h1, h2, h3, _⟩ := imP_at hok hp h
  rw [atI_eq] at h1 h2 h3
  obtain ⟨n, a, l', q1, q2, q3, q4, q5⟩ := hp.2.2 p.1 h.1
  rw [h1] at q2
  rw [h2] at q3
  injection q2 with q2
  injection q3 with q3
  subst q2; subst q3
  have hn := szT_get hok h.1
  rw [hn] at q1
  injection q1 with q1
  have hlt : (imP g p).1 < t.vars.length := by
    have := hp.1.mem (List.mem_of_getElem? h1)
    omega
  have hm := szT_get hok hlt
  rw [atI_eq, hm] at q4
  injection q4 with q4
  have e1 : szT t p.1 = n := by omega
  exact ⟨l, h1, h2, h3, by rw [e1]; exact q5, by omega, hlt⟩
theorem imP_in {t : Tsk} {g : Swp} {p : Pn} (hok : TaskOk t) (hp : FactsPerm t g) (h : InP t p) : InP t (imP g p) := by
  obtain ⟨l, _, _, h3, h4, h5, h6⟩ := imP_get hok hp h
  refine ⟨h6, ?_⟩
  have := h4.mem (List.mem_of_getElem? h3)
  rw [h5]
  omega
theorem imP_var {t : Tsk} {g : Swp} {p q : Pn} (hok : TaskOk t) (hp : FactsPerm t g) (h : InP t p) (h' : InP t q) : p.1 = q.1 ↔ (imP g p).1 = (imP g q).1 := by
  obtain ⟨l, h1, _⟩ := imP_get hok hp h
  obtain ⟨l', h1', _⟩ := imP_get hok hp h'
  constructor
  · intro e
    rw [e, h1'] at h1
    injection h1 with h1
    omega
  · intro e
    have hn := hp.1.nodup
    rw [List.nodup_iff_pairwise_ne, List.pairwise_iff_getElem] at hn
    have l1 := lt_of_get h1
    have l2 := lt_of_get h1'
    rw [List.getElem?_eq_getElem l1] at h1
    rw [List.getElem?_eq_getElem l2] at h1'
    injection h1 with h1
    injection h1' with h1'
    rcases Nat.lt_trichotomy p.1 q.1 with hlt | heq | hgt
    · exact absurd (by rw [h1, h1', e]) (hn p.1 q.1 l1 l2 hlt)
    · exact heq
    · exact absurd (by rw [h1, h1', e]) (hn q.1 p.1 l2 l1 hgt)
theorem imP_inj {t : Tsk} {g : Swp} {p q : Pn} (hok : TaskOk t) (hp : FactsPerm t g) (h : InP t p) (h' : InP t q) (e : imP g p = imP g q) : p = q := by
  have hv := (imP_var hok hp h h').2 (by rw [e])
  obtain ⟨l, _, h2, h3, h4, _⟩ := imP_get hok hp h
  obtain ⟨l', _, h2', h3', _⟩ := imP_get hok hp h'
  rw [hv, h2'] at h2
  injection h2 with h2
  subst h2
  have hn := h4.nodup
  rw [List.nodup_iff_pairwise_ne, List.pairwise_iff_getElem] at hn
  have l1 := lt_of_get h3
  have l2 := lt_of_get h3'
  rw [List.getElem?_eq_getElem l1] at h3
  rw [List.getElem?_eq_getElem l2] at h3'
  injection h3 with h3
  injection h3' with h3'
  have h5 : p.2 = q.2 := by
    rcases Nat.lt_trichotomy p.2 q.2 with hlt | heq | hgt
    · exact absurd (by rw [h3, h3', e]) (hn p.2 q.2 l1 l2 hlt)
    · exact heq
    · exact absurd (by rw [h3, h3', e]) (hn q.2 p.2 l2 l1 hgt)
  obtain ⟨a, b⟩ := p
  obtain ⟨c, d⟩ := q
  simp at hv h5
  rw [hv, h5]
/-- What can be reached by generators. -/
inductive Reach (gens : List Swp) (x : Pn) : Pn → Prop
  | one : Reach gens x x
  | step {y : Pn} {g : Swp} : Reach gens x y → g ∈ gens → Reach gens x (imP g y)
section
variable {V : Type}
theorem fget_fput (z : V) : ∀ (l : List (Fct × V)) (k k' : Fct) (v : V), fget z (fput l k v) k' = if k = k' then v else fget z l k'
  | [], k, k', v => by simp [fput, fget]
  | p :: r, k, k', v => by
    by_cases h : p.1 = k
    · subst h
      by_cases h2 : p.1 = k' <;> simp [fput, fget, h2]
    · have ih := fget_fput z r k k' v
      by_cases h2 : p.1 = k'
      · have : ¬ k = k' := fun e => h (h2.trans e.symm)
        rw [fput, if_neg h, fget, if_pos h2, fget, if_pos h2, if_neg this]
      · simp [fput, fget, h, h2, ih]
end
theorem nodup_len {α : Type} : ∀ {l₁ l₂ : List α}, l₁.Nodup → (∀ x ∈ l₁, x ∈ l₂) → l₁.length ≤ l₂.length
  | [], _, _, _ => Nat.zero_le _
  | x :: l₁, l₂, hn, hs => by
    obtain ⟨h1, h2⟩ := List.nodup_cons.1 hn
    obtain ⟨a, b, rfl⟩ := List.append_of_mem (hs x List.mem_cons_self)
    have := nodup_len (l₂ := a ++ b) h2 fun y hy => by
      have h3 := hs y (List.mem_cons_of_mem _ hy)
      rw [List.mem_append, List.mem_cons] at h3
      rcases h3 with h3 | h3 | h3
      · exact List.mem_append.2 (.inl h3)
      · exact absurd (h3 ▸ hy) h1
      · exact List.mem_append.2 (.inr h3)
    simp at this ⊢
    omega
/-- The list and the map of orbit. -/
structure OrS (t : Tsk) (gens : List Swp) (x : Pn) (l : List Fct) (m : MapF Bool) (ps : List Pn) : Prop where
  list : l = ps.map fc
  nodup : ps.Nodup
  inp : ∀ p ∈ ps, InP t p
  self : x ∈ ps
  map : ∀ p, fget false m.l (fc p) = true ↔ p ∈ ps
  rch : ∀ p ∈ ps, Reach gens x p
theorem OrS.len {t : Tsk} {gens : List Swp} {x : Pn} {l : List Fct} {m : MapF Bool} {ps : List Pn} (h : OrS t gens x l m ps) : ps.length ≤ (allP t).length := nodup_len h.nodup fun p hp => mem_allP.2 (h.inp p hp)
theorem orbit_eq {t : Tsk} (hok : TaskOk t) {gens : List Swp} (hg : ∀ g ∈ gens, FactsPerm t g) {x : Pn} (hx : InP t x) (hn : (allP t).length ≤ 4096) : ∃ r, m_symmetry_orbit gens (fc x) = some r ∧ ∀ p, fget false r.l (fc p) = true ↔ Reach gens x p := by
  unfold m_symmetry_orbit
  refine lop_ex (I := fun s => ∃ (ps : List Pn) (i : Nat), OrS t gens x s.1 s.2.2 ps ∧ s.2.1 = (i : Int) ∧ i ≤ ps.length ∧ ∀ (j : Nat) p, j < i → ps[j]? = some p → ∀ g ∈ gens, imP g p ∈ ps) (B := fun s => ∃ ps, OrS t gens x s.1 s.2.2 ps ∧ ∀ p ∈ ps, ∀ g ∈ gens, imP g p ∈ ps) (R := fun _ => False) (μ := fun s => (allP t).length + 1 - s.2.1.toNat) ?_ ?_ ?_ ?_
  · refine ⟨[x], 0, ⟨rfl, by simp, by simpa using hx, by simp, fun p => ?_, by simpa using Reach.one⟩, rfl, by omega, fun j p hj => by omega⟩
    show fget false (fput [] (fc x) true) (fc p) = true ↔ _
    rw [fget_fput]
    by_cases h : fc x = fc p
    · rw [if_pos h, fc_inj h]; simp
    · rw [if_neg h]
      have : ¬ p = x := fun e => h (by rw [e])
      simp [fget, this]
  · rintro ⟨l, iI, m⟩ ⟨ps, i, h, e, hi, hcl⟩
    simp only at e h ⊢
    subst e
    have hpl := h.len
    by_cases hlt : (i : Int) < (l.length : Int)
    · rw [if_pos hlt]
      left
      have hll : l.length = ps.length := by rw [h.list, List.length_map]
      obtain ⟨p, hp⟩ := some_of_lt (l := ps) (k := i) (by omega)
      have hpin := h.inp p (List.mem_of_getElem? hp)
      obtain ⟨s', h1, h2⟩ := rng_all (ρ := Ctl ((List Fct) × Int × (MapF Bool)) (MapF Bool)) (f := fun (_ : Nat) (a61 : Swp) (s58 : (List Fct) × (MapF Bool)) => bnd (atI s58.1 (i : Int)) fun a103 => bnd (atI a61.vars a103.var) fun a116 => bnd (atI s58.1 (i : Int)) fun a128 => bnd (atI a61.vals a128.var) fun a141 => bnd (atI s58.1 (i : Int)) fun a156 => bnd (atI a141 a156.val) fun a169 => if (!(fget false s58.2.l (⟨a116, a169⟩ : Fct))) = true then (bnd (appI 16 s58.1 [(⟨a116, a169⟩ : Fct)]) fun u196 => some (.next (u196, (⟨fput s58.2.l (⟨a116, a169⟩ : Fct) true⟩ : MapF Bool)))) else (some (.next (s58.1, s58.2)))) (xs := gens) (s₀ := (l, m))
        (fun k s => ∃ qs, OrS t gens x s.1 s.2 (ps ++ qs) ∧ ∀ (j : Nat) g, j < k → gens[j]? = some g → imP g p ∈ ps ++ qs) ⟨[], by simpa using h, fun j g hj => by omega⟩ (fun k g s hgk ⟨qs, hs, hc⟩ => by
          have hgm := List.mem_of_getElem? hgk
          have hpq : (ps ++ qs)[i]? = some p := by rw [List.getElem?_append_left (lt_of_get hp)]; exact hp
          have hat : atI s.1 (i : Int) = some (fc p) := by rw [hs.list, atI_eq, List.getElem?_map, hpq]; rfl
          obtain ⟨l', q1, q2, q3, q4⟩ := imP_at hok (hg g hgm) hpin
          rw [hat, bnd_some, show atI g.vars (fc p).var = _ from q1, bnd_some, bnd_some, show atI g.vals (fc p).var = _ from q2, bnd_some, bnd_some, show atI l' (fc p).val = _ from q3, bnd_some]
          have hfe : (⟨((imP g p).1 : Int), ((imP g p).2 : Int)⟩ : Fct) = fc (imP g p) := rfl
          rw [hfe]
          cases hb : fget false s.2.l (fc (imP g p)) with
          | true =>
            refine ⟨_, rfl, qs, hs, fun j g' hj hg' => ?_⟩
            by_cases hjk : j = k
            · subst hjk
              rw [hgk] at hg'
              injection hg' with hg'
              rw [← hg']
              exact (hs.map _).1 hb
            · exact hc j g' (by omega) hg'
          | false =>
            have hnot : imP g p ∉ ps ++ qs := fun e => by rw [(hs.map _).2 e] at hb; cases hb
            have hlen := hs.len
            have hl1 : s.1.length = (ps ++ qs).length := by rw [hs.list, List.length_map]
            rw [appI_eq (by simp; omega) (by simp; omega), bnd_some]
            refine ⟨_, rfl, qs ++ [imP g p], ?_, fun j g' hj hg' => ?_⟩
            · rw [← List.append_assoc]
              refine ⟨by rw [hs.list]; simp, ?_, ?_, List.mem_append.2 (.inl hs.self), fun q => ?_, ?_⟩
              · rw [List.nodup_append]
                exact ⟨hs.nodup, by simp, fun a ha b hb e => hnot (by simp at hb; rw [← hb, ← e]; exact ha)⟩
              · intro q hq
                rcases List.mem_append.1 hq with hq | hq
                · exact hs.inp q hq
                · simp at hq; subst hq; exact imP_in hok (hg g hgm) hpin
              · show fget false (fput s.2.l (fc (imP g p)) true) (fc q) = true ↔ _
                rw [fget_fput]
                by_cases hq : fc (imP g p) = fc q
                · rw [if_pos hq, fc_inj hq]; simp
                · rw [if_neg hq, hs.map, List.mem_append]
                  have : ¬ q = imP g p := fun e => hq (by rw [e])
                  simp [this]
              · intro q hq
                rcases List.mem_append.1 hq with hq | hq
                · exact hs.rch q hq
                · simp at hq; subst hq
                  exact .step (hs.rch p (List.mem_of_getElem? hpq)) hgm
            · rw [← List.append_assoc]
              by_cases hjk : j = k
              · subst hjk
                rw [hgk] at hg'
                injection hg' with hg'
                rw [← hg']
                simp
              · exact List.mem_append.2 (.inl (hc j g' (by omega) hg')))
      rw [h1, bnd_some, fin_d, chkI_eq (by unfold inI64; omega), bnd_some]
      obtain ⟨qs, hs, hc⟩ := h2
      refine ⟨_, rfl, ⟨ps ++ qs, i + 1, hs, rfl, by rw [List.length_append]; omega, fun j q hj hq g hgm => ?_⟩, ?_⟩
      · by_cases hji : j = i
        · subst hji
          rw [List.getElem?_append_left (lt_of_get hp), hp] at hq
          injection hq with hq
          subst hq
          obtain ⟨z, hz⟩ := List.getElem?_of_mem hgm
          exact hc z g (lt_of_get hz) hz
        · rw [List.getElem?_append_left (by omega)] at hq
          exact List.mem_append.2 (.inl (hcl j q (by omega) hq g hgm))
      · simp only [Int.toNat_natCast]
        have : ((i : Int) + 1).toNat = i + 1 := by omega
        rw [this]
        omega
    · rw [if_neg hlt]
      have hll : l.length = ps.length := by rw [h.list, List.length_map]
      refine .inr (.inl ⟨_, rfl, ps, h, fun p hp g hgm => ?_⟩)
      obtain ⟨j, hj⟩ := List.getElem?_of_mem hp
      exact hcl j p (by have := lt_of_get hj; omega) hj g hgm
  · rintro ⟨l, iI, m⟩ ⟨ps, h, hcl⟩
    rw [fin_d]
    refine ⟨_, rfl, fun p => ⟨fun hp => h.rch p ((h.map p).1 hp), fun hr => (h.map p).2 ?_⟩⟩
    induction hr with
    | one => exact h.self
    | step _ hgm ih => exact hcl _ ih _ hgm
  · exact fun _ h => h.elim
end
section
open Go Go.RowKit
def idz (t : Tsk) (k : Nat) : Zs := ((allP t).take k).map fun x => (x, x)
theorem idz_len {t : Tsk} {k : Nat} (h : k ≤ (allP t).length) : (idz t k).length = k := by unfold idz; simp; omega
theorem idz_succ {t : Tsk} {k : Nat} {x : Pn} (h : (allP t)[k]? = some x) : idz t (k + 1) = idz t k ++ [(x, x)] := by
  unfold idz
  rw [List.take_add_one, h, List.map_append]; rfl
theorem mem_idz {t : Tsk} {k : Nat} {z : Pn × Pn} (h : z ∈ idz t k) : z.1 = z.2 ∧ z.1 ∈ (allP t).take k := by
  obtain ⟨x, hx, rfl⟩ := List.mem_map.1 h
  exact ⟨rfl, hx⟩
theorem Gz_id {t : Tsk} : ∀ {k : Nat}, k ≤ (allP t).length → Gz t (idz t k)
  | 0, _ => Gz.nil t
  | k + 1, h => by
    have hlt : k < (allP t).length := by omega
    have hx := List.getElem?_eq_getElem hlt
    have ih := Gz_id (t := t) (k := k) (by omega)
    have hl := idz_len (t := t) (k := k) (by omega)
    rw [idz_succ hx]
    refine ih.snoc (by rw [hl]; exact hx) (mem_allP.1 (List.mem_of_getElem? hx)) ⟨ih.fresh (by rw [hl]; exact hx), fun z hz e => ?_, fun z hz => ?_⟩ rfl
    · have := (mem_idz hz).1
      exact ih.fresh (by rw [hl]; exact hx) z hz (this.trans e)
    · rw [(mem_idz hz).1]
theorem Nw_id {t : Tsk} {k : Nat} {x : Pn} (hx : (allP t)[k]? = some x) : Nw (idz t k) x x := by
  have hlt := lt_of_get hx
  have ih := Gz_id (t := t) (k := k) (by omega)
  have hl := idz_len (t := t) (k := k) (by omega)
  refine ⟨ih.fresh (by rw [hl]; exact hx), fun z hz e => ?_, fun z hz => ?_⟩
  · exact ih.fresh (by rw [hl]; exact hx) z hz ((mem_idz hz).1.trans e)
  · rw [(mem_idz hz).1]
theorem allP_lex (t : Tsk) : (allP t).Pairwise fun p q => p.1 < q.1 ∨ p.1 = q.1 ∧ p.2 < q.2 := by
  unfold allP
  rw [List.pairwise_flatMap]
  refine ⟨fun v _ => ?_, ?_⟩
  · rw [List.pairwise_map]
    exact List.pairwise_lt_range.imp fun h => .inr ⟨rfl, h⟩
  · refine List.pairwise_lt_range.imp fun {a b} h p hp q hq => ?_
    obtain ⟨_, _, rfl⟩ := List.mem_map.1 hp
    obtain ⟨_, _, rfl⟩ := List.mem_map.1 hq
    exact .inl h
theorem first_iff {t : Tsk} {k : Nat} {x : Pn} (hx : (allP t)[k]? = some x) : Vf (idz t k) x.1 < 0 ↔ x.2 = 0 := by
  have hlt := lt_of_get hx
  have hge : (allP t)[k] = x := by rw [List.getElem?_eq_getElem hlt] at hx; injection hx
  have hlex := List.pairwise_iff_getElem.1 (allP_lex t)
  rw [Vf_neg]
  constructor
  · intro h
    refine Classical.byContradiction fun h0 => ?_
    have hin := mem_allP.1 (List.mem_of_getElem? hx)
    have hp : (x.1, x.2 - 1) ∈ allP t := mem_allP.2 ⟨hin.1, by have := hin.2; show x.2 - 1 < szT t x.1; omega⟩
    obtain ⟨j, hj⟩ := List.getElem?_of_mem hp
    have hjl := lt_of_get hj
    have hje : (allP t)[j] = (x.1, x.2 - 1) := by rw [List.getElem?_eq_getElem hjl] at hj; injection hj
    have hjk : j < k := by
      rcases Nat.lt_trichotomy j k with h | h | h
      · exact h
      · subst h
        rw [hge] at hje
        have := congrArg Prod.snd hje
        simp at this
        omega
      · have := hlex k j hlt hjl h
        rw [hge, hje] at this
        have h9 : ¬ (x.1 < x.1 ∨ x.1 = x.1 ∧ x.2 < x.2 - 1) := by omega
        exact absurd this h9
    exact h ((x.1, x.2 - 1), (x.1, x.2 - 1)) (List.mem_map.2 ⟨_, List.mem_of_getElem? (i := j) (by rw [List.getElem?_take, if_pos hjk]; exact hj), rfl⟩) rfl
  · intro h z hz e
    obtain ⟨_, hm⟩ := mem_idz hz
    obtain ⟨j, hj⟩ := List.getElem?_of_mem hm
    rw [List.getElem?_take] at hj
    split at hj
    · rename_i hjk
      have hjl := lt_of_get hj
      have hje : (allP t)[j] = z.1 := by rw [List.getElem?_eq_getElem hjl] at hj; injection hj
      have := hlex j k hjl hlt hjk
      rw [hge, hje] at this
      omega
    · cases hj
section
variable (t : Tsk) (sg : Nat → Nat → ByteArray) (leaf : Zs → Option Swp) (M : Nat)
def addG (g : List Swp) : Option Swp → List Swp
  | some w => g ++ [w]
  | none => g
noncomputable def levL (i : Nat) (x : Pn) : List Pn → List Swp → Nat → List Swp × Nat × Bool
  | [], g, s => (g, s, false)
  | y :: r, g, s => if fitB t sg (idz t i) x y = true ∧ bof (Reach g x y) = false then
      (if (stp t sg leaf M ((allP t).length - i - 1) (idz t i) y s).2.2 = true then (addG g (stp t sg leaf M ((allP t).length - i - 1) (idz t i) y s).1, (stp t sg leaf M ((allP t).length - i - 1) (idz t i) y s).2.1, true)
        else levL i x r (addG g (stp t sg leaf M ((allP t).length - i - 1) (idz t i) y s).1) (stp t sg leaf M ((allP t).length - i - 1) (idz t i) y s).2.1)
    else levL i x r g s
noncomputable def fndL : Nat → List Swp → Nat → List Swp × Nat × Bool
  | 0, g, s => (g, s, false)
  | i + 1, g, s => if (levL t sg leaf M i (((allP t)[i]?).getD (0, 0)) (allP t) g s).2.2 = true then ([], (levL t sg leaf M i (((allP t)[i]?).getD (0, 0)) (allP t) g s).2.1, true)
    else fndL i (levL t sg leaf M i (((allP t)[i]?).getD (0, 0)) (allP t) g s).1 (levL t sg leaf M i (((allP t)[i]?).getD (0, 0)) (allP t) g s).2.1
end
section
variable {t : Tsk} {sg : Nat → Nat → ByteArray} {leaf : Zs → Option Swp} {M : Nat}
theorem goL_mono {fit : Pn → Bool} {sub : Pn → Nat → Rs} (h : ∀ y s, s ≤ (sub y s).2.1) : ∀ (l : List Pn) (s : Nat), s ≤ (goL M fit sub l s).2.1
  | [], s => Nat.le_refl _
  | y :: l, s => by
    unfold goL
    split
    · split
      · exact Nat.le_refl _
      · have := h y (s + 1)
        split
        · omega
        · have := goL_mono (fit := fit) h l (sub y (s + 1)).2.1
          omega
    · exact goL_mono h l s
theorem ext_mono : ∀ (d : Nat) (zs : Zs) (s : Nat), s ≤ (ext t sg leaf M d zs s).2.1
  | 0, _, _ => Nat.le_refl _
  | d + 1, zs, s => goL_mono (fun y s => ext_mono d _ s) _ s
theorem goL_some {fit : Pn → Bool} {sub : Pn → Nat → Rs} {w : Swp} : ∀ (l : List Pn) (s : Nat), (goL M fit sub l s).1 = some w → ∃ y ∈ l, fit y = true ∧ ∃ s', (sub y s').1 = some w
  | [], _, h => by cases h
  | y :: l, s, h => by
    unfold goL at h
    split at h
    · rename_i hf
      split at h
      · cases h
      · split at h
        · exact ⟨y, List.mem_cons_self, hf, _, h⟩
        · obtain ⟨z, h1, h2⟩ := goL_some l _ h
          exact ⟨z, List.mem_cons_of_mem _ h1, h2⟩
    · obtain ⟨z, h1, h2⟩ := goL_some l _ h
      exact ⟨z, List.mem_cons_of_mem _ h1, h2⟩
/-- What a search finds is found at a leaf. -/
theorem ext_some {w : Swp} : ∀ (d : Nat) (zs : Zs) (s : Nat), Gz t zs → zs.length + d = (allP t).length → (ext t sg leaf M d zs s).1 = some w → ∃ ys, Gz t (zs ++ ys) ∧ (zs ++ ys).length = (allP t).length ∧ leaf (zs ++ ys) = some w
  | 0, zs, s, hz, hl, h => ⟨[], by simpa using hz, by simpa using hl, by rw [List.append_nil]; exact h⟩
  | d + 1, zs, s, hz, hl, h => by
    have hlt : zs.length < (allP t).length := by omega
    obtain ⟨y, hy, hf, s', h1⟩ := goL_some _ _ h
    obtain ⟨_, hg⟩ := hz.fit (xAt_get hlt) (mem_allP.1 hy) hf
    obtain ⟨ys, h2, h3, h4⟩ := ext_some d (zs ++ [(xAt t zs, y)]) s' hg (by simp; omega) h1
    rw [List.append_assoc] at h2 h3 h4
    exact ⟨_, h2, h3, h4⟩
theorem stp_some {w : Swp} {i : Nat} {y : Pn} {s : Nat} (hi : i < (allP t).length) (hy : InP t y) (hf : fitB t sg (idz t i) (xAt t (idz t i)) y = true) (h : (stp t sg leaf M ((allP t).length - i - 1) (idz t i) y s).1 = some w) : ∃ ys, Gz t (idz t i ++ (xAt t (idz t i), y) :: ys) ∧ (idz t i ++ (xAt t (idz t i), y) :: ys).length = (allP t).length ∧ leaf (idz t i ++ (xAt t (idz t i), y) :: ys) = some w := by
  have hl := idz_len (t := t) (k := i) (by omega)
  unfold stp at h
  split at h
  · cases h
  · obtain ⟨_, hg⟩ := (Gz_id (t := t) (k := i) (by omega)).fit (xAt_get (by omega)) hy hf
    obtain ⟨ys, h2, h3, h4⟩ := ext_some _ _ _ hg (by simp [hl]; omega) h
    rw [List.append_assoc] at h2 h3 h4
    exact ⟨ys, h2, h3, h4⟩
theorem xAt_id {i : Nat} (hi : i < (allP t).length) : (allP t)[i]? = some (xAt t (idz t i)) := by
  have := xAt_get (t := t) (zs := idz t i) (by rw [idz_len (by omega)]; exact hi)
  rwa [idz_len (by omega)] at this
/-- Leaves are permutations of facts. -/
def LeafP (t : Tsk) (leaf : Zs → Option Swp) : Prop := ∀ zs w, Gz t zs → zs.length = (allP t).length → leaf zs = some w → FactsPerm t w
noncomputable def levF (x1 : Int) : Nat → Fct → (List Swp) × Fnd → Option (Ctl ((List Swp) × Fnd) ((List Swp) × Fnd)) := fun (_ : Nat) (a133 : Fct) (s130 : (List Swp) × Fnd) => bnd (bnd (atI s130.2.list x1) fun a173 => bnd (m_symmetry_finder_fits s130.2 a173 a133) fun q186 => if q186 = true then bnd (atI s130.2.list x1) fun a199 => bnd (m_symmetry_orbit s130.1 a199) fun q212 => some (fget false q212.l a133) else some true : Option Bool) fun y165 => if y165 = true then (some (.next (s130.1, s130.2))) else (bnd (m_symmetry_finder_step s130.2 x1 a133) fun q229 => bnd (if q229.2.1 = true then (bnd (appI 72 s130.1 [q229.1]) fun u268 => some u268) else (some s130.1) : Option (List Swp)) fun y261 => if q229.2.2.full = true then (some (.brk (y261, q229.2.2))) else (some (.next (y261, q229.2.2))))
theorem lev_loop (hok : TaskOk t) (hL : LeafOk t sg leaf) (hP : LeafP t leaf) (hM : M ≤ 1048576) (hn : (allP t).length ≤ 4096) {i : Nat} (hi : i < (allP t).length) :
    ∀ (l : List Pn) (k : Nat) (g : List Swp) (s : Nat), (∀ y ∈ l, InP t y) → (∀ w ∈ g, FactsPerm t w) → g.length ≤ s →
      (∀ w ∈ (levL t sg leaf M i (xAt t (idz t i)) l g s).1, FactsPerm t w) ∧ (levL t sg leaf M i (xAt t (idz t i)) l g s).1.length ≤ (levL t sg leaf M i (xAt t (idz t i)) l g s).2.1 ∧
      rng (levF (i : Int)) (l.map fc) k (g, mkF t sg (idz t i) (s : Int) (M : Int) false) = some (.done ((levL t sg leaf M i (xAt t (idz t i)) l g s).1, mkF t sg (idz t i) ((levL t sg leaf M i (xAt t (idz t i)) l g s).2.1 : Int) (M : Int) (levL t sg leaf M i (xAt t (idz t i)) l g s).2.2))
  | [], k, g, s, _, hg, hs => ⟨hg, hs, rfl⟩
  | y :: l, k, g, s, hl, hg, hs => by
    have hy := hl y List.mem_cons_self
    have hl' : ∀ q ∈ l, InP t q := fun q hq => hl q (List.mem_cons_of_mem _ hq)
    have hx := xAt_id hi
    have hxin : InP t (xAt t (idz t i)) := mem_allP.1 (List.mem_of_getElem? hx)
    have hli := idz_len (t := t) (k := i) (by omega)
    have hz := Gz_id (t := t) (k := i) (by omega)
    obtain ⟨r, ho, hr⟩ := orbit_eq hok hg hxin hn
    have hfb : fget false r.l (fc y) = bof (Reach g (xAt t (idz t i)) y) := by
      by_cases h : Reach g (xAt t (idz t i)) y
      · rw [bof_t h]; exact (hr y).2 h
      · rw [bof_f h]
        cases hb : fget false r.l (fc y) with
        | true => exact absurd ((hr y).1 hb) h
        | false => rfl
    have e1 : levF (i : Int) k (fc y) (g, mkF t sg (idz t i) (s : Int) (M : Int) false) = bnd (if fitB t sg (idz t i) (xAt t (idz t i)) y = true then some (bof (Reach g (xAt t (idz t i)) y)) else some true : Option Bool) fun y165 => if y165 = true then (some (.next (g, mkF t sg (idz t i) (s : Int) (M : Int) false))) else (bnd (m_symmetry_finder_step (mkF t sg (idz t i) (s : Int) (M : Int) false) (i : Int) (fc y)) fun q229 => bnd (if q229.2.1 = true then (bnd (appI 72 g [q229.1]) fun u268 => some u268) else (some g) : Option (List Swp)) fun y261 => if q229.2.2.full = true then (some (.brk (y261, q229.2.2))) else (some (.next (y261, q229.2.2)))) := by
      unfold levF
      simp only []
      rw [at_list hx, bnd_some, fits_mk hok hxin hy, bnd_some, bnd_some, ho, bnd_some, hfb]
    rw [List.map_cons]
    unfold rng levL
    rw [e1]
    by_cases hf : fitB t sg (idz t i) (xAt t (idz t i)) y = true
    · rw [if_pos hf, bnd_some]
      by_cases hR : Reach g (xAt t (idz t i)) y
      · rw [bof_t hR, if_t, if_neg (fun h => by simp at h)]
        exact lev_loop hok hL hP hM hn hi l (k + 1) g s hl' hg hs
      · rw [bof_f hR, if_f, if_pos ⟨hf, rfl⟩]
        have hst := step_eq (d := (allP t).length - i - 1) hok hL hM hn hz (by omega) hy (s := s) hf
        rw [hli] at hst
        rw [hst, bnd_some]
        have hsome := fun w => stp_some (w := w) (s := s) (leaf := leaf) (M := M) (sg := sg) hi hy hf
        have hmono : s ≤ (stp t sg leaf M ((allP t).length - i - 1) (idz t i) y s).2.1 ∧ ((stp t sg leaf M ((allP t).length - i - 1) (idz t i) y s).1.isSome = true → s + 1 ≤ (stp t sg leaf M ((allP t).length - i - 1) (idz t i) y s).2.1 ∧ s < M) := by
          unfold stp
          split
          · exact ⟨Nat.le_refl _, fun h => by cases h⟩
          · have := ext_mono (t := t) (sg := sg) (leaf := leaf) (M := M) ((allP t).length - i - 1) (idz t i ++ [(xAt t (idz t i), y)]) (s + 1)
            exact ⟨by omega, fun _ => ⟨this, by omega⟩⟩
        generalize stp t sg leaf M ((allP t).length - i - 1) (idz t i) y s = q at hsome hmono ⊢
        obtain ⟨o, s', fl⟩ := q
        cases o with
        | none =>
          cases fl with
          | true => exact ⟨hg, by have h0 : s ≤ s' := hmono.1; show g.length ≤ s'; omega, rfl⟩
          | false => exact lev_loop hok hL hP hM hn hi l (k + 1) g s' hl' hg (by have h0 : s ≤ s' := hmono.1; omega)
        | some w =>
          obtain ⟨h1, h2⟩ := hmono.2 rfl
          have h1' : s + 1 ≤ s' := h1
          obtain ⟨ys, hz1, hz2, hz3⟩ := hsome w rfl
          have hg' : ∀ w' ∈ g ++ [w], FactsPerm t w' := fun w' hw' => by
            rcases List.mem_append.1 hw' with h | h
            · exact hg w' h
            · simp at h; subst h; exact hP _ _ hz1 hz2 hz3
          have hap : appI 72 g [w] = some (g ++ [w]) := appI_eq (by simp; omega) (by simp; omega)
          have e2 : (ansR t sg M (idz t i) (some w, s', fl)).1 = w := rfl
          rw [if_pos (show (ansR t sg M (idz t i) (some w, s', fl)).2.1 = true from rfl), e2, hap, bnd_some, bnd_some]
          cases fl with
          | true => exact ⟨hg', by show (g ++ [w]).length ≤ s'; simp; omega, rfl⟩
          | false => exact lev_loop hok hL hP hM hn hi l (k + 1) (g ++ [w]) s' hl' hg' (by simp; omega)
    · rw [if_neg hf, bnd_some, if_t, if_neg (fun h => hf h.1)]
      exact lev_loop hok hL hP hM hn hi l (k + 1) g s hl' hg hs
theorem get_list {zs : Zs} {s M : Int} {fl : Bool} {k : Nat} {x : Pn} (hx : (allP t)[k]? = some x) : (mkF t sg zs s M fl).list[k]? = some (fc x) := by
  show ((allP t).map fc)[k]? = _
  rw [List.getElem?_map, hx]; rfl
theorem lev_choose {i : Nat} (hi : i ≤ (allP t).length) {s M : Int} {ρ : Type} : rngN (ρ := ρ) (fun (k8 : Nat) (s6 : Fnd) => bnd (s6.list[k8]?) fun a25 => bnd (s6.list[k8]?) fun a40 => bnd (m_symmetry_finder_choose s6 a25 a40) fun q51 => some (.next q51.2)) i (mkF t sg [] s M false) = some (.done (mkF t sg (idz t i) s M false)) := by
  refine rngN_from (fun k => mkF t sg (idz t k) s M false) rfl fun k hk => ?_
  have hx := List.getElem?_eq_getElem (show k < (allP t).length by omega)
  have hin : InP t (allP t)[k] := mem_allP.1 (List.mem_of_getElem? hx)
  rw [get_list hx, bnd_some, bnd_some, choose_mk hin hin (Nw_id hx), bnd_some, idz_succ hx]
theorem lev_undo {s M : Int} {fl : Bool} {ρ : Type} : ∀ (i : Nat), i ≤ (allP t).length → i ≤ 4096 → lop (ρ := ρ) (fun (s361 : Int × Fnd) => if 0 ≤ s361.1 then (bnd (bnd (atI s361.2.list s361.1) fun a439 => if a439.val = 0 then (bnd (m_symmetry_finder_undo s361.2 a439 a439 true) fun q465 => some q465) else (bnd (m_symmetry_finder_undo s361.2 a439 a439 false) fun q478 => some q478) : Option Fnd) fun y379 => bnd (chkI (s361.1 - 1)) fun n490 => some (.next (n490, y379))) else (some (.brk (s361.1, s361.2)))) ((i : Int) - 1, mkF t sg (idz t i) s M fl) = some (.done (-1, mkF t sg [] s M fl))
  | 0, _, _ => by
    rw [lop_eq]
    rfl
  | i + 1, hi, hb => by
    have ih := lev_undo (s := s) (M := M) (fl := fl) (ρ := ρ) i (by omega) (by omega)
    have hx := List.getElem?_eq_getElem (show i < (allP t).length by omega)
    have hin : InP t (allP t)[i] := mem_allP.1 (List.mem_of_getElem? hx)
    rw [lop_eq]
    have e0 : (((i + 1 : Nat) : Int) - 1) = (i : Int) := by omega
    simp only [e0]
    have e1 : (bnd (atI (mkF t sg (idz t (i + 1)) s M fl).list (i : Int)) fun a439 => if a439.val = 0 then (bnd (m_symmetry_finder_undo (mkF t sg (idz t (i + 1)) s M fl) a439 a439 true) fun q465 => some q465) else (bnd (m_symmetry_finder_undo (mkF t sg (idz t (i + 1)) s M fl) a439 a439 false) fun q478 => some q478) : Option Fnd) = some (mkF t sg (idz t i) s M fl) := by
      rw [at_list hx, bnd_some, idz_succ hx]
      have hfi := first_iff hx
      by_cases h0 : ((allP t)[i]).2 = 0
      · rw [if_pos (show (fc (allP t)[i]).val = 0 by show ((((allP t)[i]).2 : Nat) : Int) = 0; omega), undo_mk hin hin (Nw_id hx) (by rw [decide_eq_true (hfi.2 h0)]), bnd_some]
      · rw [if_neg (show ¬ (fc (allP t)[i]).val = 0 by show ¬ ((((allP t)[i]).2 : Nat) : Int) = 0; omega), undo_mk hin hin (Nw_id hx) (by rw [decide_eq_false (fun h => h0 (hfi.1 h))]), bnd_some]
    rw [e1, bnd_some, if_pos (by omega), chkI_eq (by unfold inI64; omega), bnd_some]
    exact ih
theorem level_eq (hok : TaskOk t) (hL : LeafOk t sg leaf) (hP : LeafP t leaf) (hM : M ≤ 1048576) (hn : (allP t).length ≤ 4096) {i : Nat} (hi : i < (allP t).length) {g : List Swp} {s : Nat} (hg : ∀ w ∈ g, FactsPerm t w) (hs : g.length ≤ s) :
    (∀ w ∈ (levL t sg leaf M i (xAt t (idz t i)) (allP t) g s).1, FactsPerm t w) ∧ (levL t sg leaf M i (xAt t (idz t i)) (allP t) g s).1.length ≤ (levL t sg leaf M i (xAt t (idz t i)) (allP t) g s).2.1 ∧
    m_symmetry_finder_level (mkF t sg [] (s : Int) (M : Int) false) (i : Int) g = some ((levL t sg leaf M i (xAt t (idz t i)) (allP t) g s).1, mkF t sg [] ((levL t sg leaf M i (xAt t (idz t i)) (allP t) g s).2.1 : Int) (M : Int) (levL t sg leaf M i (xAt t (idz t i)) (allP t) g s).2.2) := by
  obtain ⟨h1, h2, h3⟩ := lev_loop hok hL hP hM hn hi (allP t) 0 g s (fun y hy => mem_allP.1 hy) hg hs
  refine ⟨h1, h2, ?_⟩
  unfold m_symmetry_finder_level
  rw [natI_eq, bnd_some, lev_choose (by omega), bnd_some, fin_d]
  unfold levF at h3
  show bnd (rng _ ((allP t).map fc) 0 (g, mkF t sg (idz t i) (s : Int) (M : Int) false)) _ = _
  rw [h3, bnd_some, fin_d, chkI_eq (by unfold inI64; omega), bnd_some, lev_undo i (by omega) (by omega), bnd_some, fin_d]
theorem find_loop (hok : TaskOk t) (hL : LeafOk t sg leaf) (hP : LeafP t leaf) (hM : M ≤ 1048576) (hn : (allP t).length ≤ 4096) : ∀ (i : Nat), i ≤ (allP t).length → ∀ (g : List Swp) (s : Nat), (∀ w ∈ g, FactsPerm t w) → g.length ≤ s →
    (bnd (lop (ρ := (List Swp) × Err) (fun (s112 : (List Swp) × Int × Fnd) => if 0 ≤ s112.2.1 then (bnd (m_symmetry_finder_level s112.2.2 s112.2.1 s112.1) fun q134 => if q134.2.full = true then (some (.ret (([] : List Swp), (⟨10⟩ : Err)))) else (bnd (chkI (s112.2.1 - 1)) fun n202 => some (.next (q134.1, n202, q134.2)))) else (some (.brk (s112.1, s112.2.1, s112.2.2)))) (g, (i : Int) - 1, mkF t sg [] (s : Int) (M : Int) false)) fun res110 => fin res110 fun (s214 : (List Swp) × Int × Fnd) => some (s214.1, (⟨0⟩ : Err))) = some ((fndL t sg leaf M i g s).1, ⟨if (fndL t sg leaf M i g s).2.2 = true then 10 else 0⟩)
  | 0, _, g, s, _, _ => by
    rw [lop_eq]
    rfl
  | i + 1, hi, g, s, hg, hs => by
    have hii : i < (allP t).length := by omega
    obtain ⟨h1, h2, h3⟩ := level_eq (M := M) hok hL hP hM hn hii hg hs
    have hxe : ((allP t)[i]?).getD (0, 0) = xAt t (idz t i) := by rw [xAt_id hii]; rfl
    rw [lop_eq]
    have e0 : (((i + 1 : Nat) : Int) - 1) = (i : Int) := by omega
    simp only [e0]
    rw [if_pos (by omega), h3, bnd_some]
    unfold fndL
    rw [hxe]
    cases hfl : (levL t sg leaf M i (xAt t (idz t i)) (allP t) g s).2.2 with
    | true => rfl
    | false =>
      have ih := find_loop hok hL hP hM hn i (by omega) _ _ h1 h2
      rw [if_neg (show ¬ (mkF t sg [] ((levL t sg leaf M i (xAt t (idz t i)) (allP t) g s).2.1 : Int) (M : Int) false).full = true by simp [mkF]), chkI_eq (by unfold inI64; omega), bnd_some, if_neg (by simp)]
      exact ih
theorem demand_nil {t : Tsk} (hok : TaskOk t) : m_symmetry_demand t [] = some ⟨0⟩ := by
  unfold m_symmetry_demand m_task_Check
  rw [bnd_some, if_neg (by rw [check_ok.2 hok]; simp)]
  rfl
/-- Find, once newFinder's answer is known. -/
theorem find_eq (hok : TaskOk t) (hL : LeafOk t sg leaf) (hP : LeafP t leaf) (hn : (allP t).length ≤ 4096) {steps : Int} {M : Nat} (hM : max 0 (min steps 1048576) = (M : Int)) (hnew : m_symmetry_newFinder t (M : Int) = some (some (mkF t sg [] 0 (M : Int) false))) :
    m_symmetry_Find t steps = some ((fndL t sg leaf M (allP t).length [] 0).1, ⟨if (fndL t sg leaf M (allP t).length [] 0).2.2 = true then 10 else 0⟩) := by
  unfold m_symmetry_Find
  rw [demand_nil hok, bnd_some, if_neg (by simp), hM, hnew, bnd_some, bnd_some]
  have hll : (mkF t sg [] 0 (M : Int) false).list.length = (allP t).length := List.length_map ..
  rw [hll, chkI_eq (by unfold inI64; omega), bnd_some]
  have := find_loop (M := M) (leaf := leaf) (sg := sg) hok hL hP (by omega) hn (allP t).length (Nat.le_refl _) [] 0 (by simp) (by simp)
  exact this
end
end
section
open Go Go.RowKit
section
variable {t : Tsk} {zs : Zs}
theorem Vf_at (h : Gz t zs) {z : Pn × Pn} (hz : z ∈ zs) : Vf zs z.1.1 = (z.2.1 : Int) := by
  have h1 : ¬ Vf zs z.1.1 < 0 := fun e => Vf_neg.1 e z hz rfl
  obtain ⟨z', hz', e1, e2⟩ := Vf_pos h1
  rw [e2, (h.var z' hz' z hz).1 e1]
theorem Gz.uniq (h : Gz t zs) {z z' : Pn × Pn} (hz : z ∈ zs) (hz' : z' ∈ zs) (e : z.1 = z'.1) : z = z' := by
  have hn : (zs.map (·.1)).Nodup := by
    rw [h.dom]
    have := allP_nodup t
    rw [← List.take_append_drop zs.length (allP t), List.nodup_append] at this
    exact this.1
  rw [List.nodup_iff_pairwise_ne, List.pairwise_map, List.pairwise_iff_getElem] at hn
  obtain ⟨i, hi⟩ := List.getElem?_of_mem hz
  obtain ⟨j, hj⟩ := List.getElem?_of_mem hz'
  have li := lt_of_get hi
  have lj := lt_of_get hj
  rw [List.getElem?_eq_getElem li] at hi
  rw [List.getElem?_eq_getElem lj] at hj
  injection hi with hi
  injection hj with hj
  rcases Nat.lt_trichotomy i j with h1 | h1 | h1
  · exact absurd (by rw [hi, hj, e]) (hn i j li lj h1)
  · subst h1; rw [← hi, ← hj]
  · exact absurd (by rw [hi, hj, e]) (hn j i lj li h1)
theorem Gz.uniq2 (h : Gz t zs) {z z' : Pn × Pn} (hz : z ∈ zs) (hz' : z' ∈ zs) (e : z.2 = z'.2) : z = z' := by
  have hn := h.inj
  rw [List.nodup_iff_pairwise_ne, List.pairwise_map, List.pairwise_iff_getElem] at hn
  obtain ⟨i, hi⟩ := List.getElem?_of_mem hz
  obtain ⟨j, hj⟩ := List.getElem?_of_mem hz'
  have li := lt_of_get hi
  have lj := lt_of_get hj
  rw [List.getElem?_eq_getElem li] at hi
  rw [List.getElem?_eq_getElem lj] at hj
  injection hi with hi
  injection hj with hj
  rcases Nat.lt_trichotomy i j with h1 | h1 | h1
  · exact absurd (by rw [hi, hj, e]) (hn i j li lj h1)
  · subst h1; rw [← hi, ← hj]
  · exact absurd (by rw [hi, hj, e]) (hn j i lj li h1)
theorem Wf_at (h : Gz t zs) {z : Pn × Pn} (hz : z ∈ zs) : Wf zs z.1.1 z.1.2 = (z.2.2 : Int) := by
  unfold Wf
  cases hq : zs.find? (fun q => q.1 == (z.1.1, z.1.2)) with
  | some q =>
    have h1 : q.1 = z.1 := by simpa using List.find?_some hq
    rw [h.uniq (List.mem_of_find?_eq_some hq) hz h1]
  | none =>
    have := List.find?_eq_none.1 hq z hz
    simp at this
theorem Gz.full (h : Gz t zs) (hl : zs.length = (allP t).length) {p : Pn} (hp : InP t p) : ∃ q, (p, q) ∈ zs := by
  have h1 : p ∈ zs.map (·.1) := by rw [h.dom, hl, List.take_length]; exact mem_allP.2 hp
  obtain ⟨z, hz, e⟩ := List.mem_map.1 h1
  exact ⟨z.2, by rw [← e]; exact hz⟩
theorem Gz.inp (h : Gz t zs) {z : Pn × Pn} (hz : z ∈ zs) : InP t z.1 := by
  have h1 : z.1 ∈ zs.map (·.1) := List.mem_map.2 ⟨z, hz, rfl⟩
  rw [h.dom] at h1
  exact mem_allP.1 (List.mem_of_mem_take h1)
theorem szT_pos {v : Nat} (hok : TaskOk t) (h : v < t.vars.length) : 0 < szT t v ∧ szT t v ≤ 64 := by
  have h1 := hok.2.2.1 v _ (szT_get hok h)
  omega
theorem swF_perm (hok : TaskOk t) (h : Gz t zs) (hl : zs.length = (allP t).length) : FactsPerm t (swF t zs) := by
  have hv : ∀ v, v < t.vars.length → ∃ z ∈ zs, z.1.1 = v ∧ Vf zs v = (z.2.1 : Int) := fun v hv => by
    obtain ⟨q, hq⟩ := h.full hl (p := (v, 0)) ⟨hv, (szT_pos hok hv).1⟩
    exact ⟨_, hq, rfl, Vf_at h hq⟩
  refine ⟨permR_of ?_ ?_ ?_, ?_, fun k hk => ?_⟩
  · refine nodup_map List.nodup_range fun a ha b hb e => ?_
    obtain ⟨z, hz, e1, e2⟩ := hv a (List.mem_range.1 ha)
    obtain ⟨z', hz', e1', e2'⟩ := hv b (List.mem_range.1 hb)
    rw [← e1, ← e1']
    exact (h.var z hz z' hz').2 (by rw [e2, e2'] at e; omega)
  · intro x hx
    obtain ⟨v, hv1, rfl⟩ := List.mem_map.1 hx
    obtain ⟨z, hz, e1, e2⟩ := hv v (List.mem_range.1 hv1)
    have := (h.img z hz).1
    rw [e2]
    omega
  · show (rowT t (Vf zs)).length = _
    simp [rowT]
  · show (gridT t (Wf zs)).length = _
    simp [gridT, rowT]
  · obtain ⟨z, hz, e1, e2⟩ := hv k hk
    have hzi := h.img z hz
    refine ⟨szT t k, Vf zs k, (List.range (szT t k)).map (Wf zs k), szT_get hok hk, ?_, ?_, ?_, permR_of ?_ ?_ ?_⟩
    · have := rowT_at (t := t) (Vf zs) hk
      rwa [atI_eq] at this
    · have := gridT_at (t := t) (Wf zs) hk
      rwa [atI_eq] at this
    · rw [e2, atI_eq, szT_get hok hzi.1, ← h.siz z hz, e1]
    · refine nodup_map List.nodup_range fun a ha b hb e => ?_
      obtain ⟨q, hq⟩ := h.full hl (p := (k, a)) ⟨hk, List.mem_range.1 ha⟩
      obtain ⟨q', hq'⟩ := h.full hl (p := (k, b)) ⟨hk, List.mem_range.1 hb⟩
      have w1 := Wf_at h hq
      have w2 := Wf_at h hq'
      have hvv := (h.var _ hq _ hq').1 rfl
      simp only at w1 w2 hvv
      rw [w1, w2] at e
      have : q = q' := by
        obtain ⟨a1, a2⟩ := q
        obtain ⟨b1, b2⟩ := q'
        have e1 : a1 = b1 := hvv
        have e2 : a2 = b2 := by have : (a2 : Int) = (b2 : Int) := e; omega
        rw [e1, e2]
      have := h.uniq2 hq hq' this
      injection this with this _
      injection this
    · intro x hx
      obtain ⟨a, ha, rfl⟩ := List.mem_map.1 hx
      obtain ⟨q, hq⟩ := h.full hl (p := (k, a)) ⟨hk, List.mem_range.1 ha⟩
      have w1 := Wf_at h hq
      have h2 := (h.img _ hq).2
      have h3 := h.siz _ hq
      simp only at w1 h2 h3
      rw [w1]
      rw [← h3] at h2
      omega
    · simp
theorem imP_swF (hok : TaskOk t) (h : Gz t zs) (hl : zs.length = (allP t).length) {z : Pn × Pn} (hz : z ∈ zs) : imP (swF t zs) z.1 = z.2 := by
  obtain ⟨l, h1, h2, h3, _⟩ := imP_get hok (swF_perm hok h hl) (h.inp hz)
  have hin := h.inp hz
  have e1 := rowT_at (t := t) (Vf zs) hin.1
  have e2 := gridT_at (t := t) (Wf zs) hin.1
  rw [atI_eq] at e1 e2
  have e3 : (swF t zs).vars[z.1.1]? = some (Vf zs z.1.1) := e1
  have e4 : (swF t zs).vals[z.1.1]? = some ((List.range (szT t z.1.1)).map (Wf zs z.1.1)) := e2
  rw [h1] at e3
  rw [h2] at e4
  injection e3 with e3
  injection e4 with e4
  subst e4
  rw [List.getElem?_map, List.getElem?_range hin.2] at h3
  injection h3 with h3
  rw [Vf_at h hz] at e3
  rw [Wf_at h hz] at h3
  have e5 : (imP (swF t zs) z.1).1 = z.2.1 := by omega
  have e6 : (imP (swF t zs) z.1).2 = z.2.2 := by omega
  exact Prod.ext e5 e6
end
/-- Is an operator the image of another one? -/
def Mt (x : Swp) (o p : Opr) : Prop := o.cost = p.cost ∧ imL x o.pre = p.pre ∧ o.effs.map (imE x) = p.effs
noncomputable def fstM (x : Swp) (o : Opr) : List Opr → List Bool → Nat → Option Nat
  | p :: ps, b :: bs, k => if b = false ∧ bof (Mt x o p) = true then some k else fstM x o ps bs (k + 1)
  | _, _, _ => none
noncomputable def opsL (x : Swp) (all : List Opr) : List Opr → List Bool → List Int → Option (List Int)
  | [], _, acc => some acc
  | o :: os, tk, acc => match fstM x o all tk 0 with
    | none => none
    | some k => opsL x all os (tk.set k true) (acc ++ [(k : Int)])
noncomputable def opsC (t : Tsk) (x : Swp) : Option (List Int) := opsL x t.ops t.ops (List.replicate t.ops.length false) []
theorem fstM_lt {x : Swp} {o : Opr} : ∀ (ps : List Opr) (bs : List Bool) (k j : Nat), fstM x o ps bs k = some j → k ≤ j ∧ j < k + bs.length ∧ j < k + ps.length
  | [], bs, k, j, h => by simp [fstM] at h
  | p :: ps, [], k, j, h => by simp [fstM] at h
  | p :: ps, b :: bs, k, j, h => by
    unfold fstM at h
    split at h
    · injection h with h; subst h; simp
    · have := fstM_lt ps bs (k + 1) j h
      simp
      omega
theorem fst_loop {x : Swp} {o : Opr} {q : Opr} {ρ : Type} (hq : ∀ p, m_symmetry_alike q p = some (bof (Mt x o p))) : ∀ (ps : List Opr) (tk : List Bool) (k : Nat), tk.length = k + ps.length →
    rng (ρ := ρ) (fun (k318 : Nat) (a319 : Opr) (s316 : Int) => bnd (bnd (tk[k318]?) fun a359 => if (!a359) = true then (bnd (m_symmetry_alike q a319) fun q369 => if q369 = true then some true else some false) else (some false) : Option Bool) fun y355 => if y355 = true then (some (.brk (k318 : Int))) else (some (.next s316))) ps k (-1) = some (.done (match fstM x o ps (tk.drop k) k with | some j => (j : Int) | none => -1))
  | [], tk, k, hl => by
    have : tk.drop k = [] := List.drop_of_length_le (by simp at hl; omega)
    rw [this]
    rfl
  | p :: ps, tk, k, hl => by
    have hk : k < tk.length := by simp at hl; omega
    have ih := fst_loop (ρ := ρ) hq ps tk (k + 1) (by simp at hl; omega)
    rw [List.drop_eq_getElem_cons hk]
    unfold rng fstM
    rw [List.getElem?_eq_getElem hk, bnd_some, hq p]
    cases hb : tk[k] with
    | true => exact ih
    | false =>
      by_cases hm : Mt x o p
      · rw [bof_t hm]
        simp [bnd_some]
      · rw [bof_f hm]
        exact ih
section
variable {t : Tsk}
theorem operators_eq (hok : TaskOk t) {f : Fnd} (hf : f.t = t) (hp : FactsPerm t f.x) : m_symmetry_finder_operators f = some (match opsC t f.x with | some l => (l, true) | none => ([], false)) := by
  have hol := hok.2.1
  unfold m_symmetry_finder_operators
  rw [hf, mkI_eq (by omega) (by omega), bnd_some]
  have key2 : ∀ (os : List Opr) (k : Nat) (tk : List Bool) (acc : List Int), tk.length = t.ops.length → acc.length + os.length ≤ t.ops.length → (∀ o ∈ os, OpOk t.vars o) →
      (bnd (rng (ρ := (List Int) × Bool) (fun (k83 : Nat) (a84 : Opr) (s81 : (List Int) × (List Bool)) => bnd (m_symmetry_image f.x a84) fun q181 => bnd (some (q181.pre, q181.effs) : Option ((List Fct) × (List Eff))) fun y183 => bnd (rng (ρ := Ctl ((List Int) × (List Bool)) ((List Int) × Bool)) (fun (k318 : Nat) (a319 : Opr) (s316 : Int) => bnd (bnd (s81.2[k318]?) fun a359 => if (!a359) = true then (bnd (m_symmetry_alike (⟨q181.name, q181.cost, y183.1, y183.2⟩ : Opr) a319) fun q369 => if q369 = true then some true else some false) else (some false) : Option Bool) fun y355 => if y355 = true then (some (.brk (k318 : Int))) else (some (.next s316))) t.ops 0 (-1)) fun res314 => fin res314 fun (s385 : Int) => if s385 < 0 then (some (.ret (([] : List Int), false))) else (bnd (atI s81.2 s385) fun a388 => bnd (appI 8 s81.1 [s385]) fun u401 => some (.next (u401, (s81.2.set (s385 : Int).toNat true))))) os k (acc, tk)) fun res79 => fin res79 fun (s417 : (List Int) × (List Bool)) => some (s417.1, true))
        = some (match opsL f.x t.ops os tk acc with | some l => (l, true) | none => ([], false)) := by
    intro os
    induction os with
    | nil => intro k tk acc _ _ _; rfl
    | cons o os ih =>
      intro k tk acc htk hacc hos
      have ho := hos o List.mem_cons_self
      have hloop := fst_loop (ρ := Ctl ((List Int) × (List Bool)) ((List Int) × Bool)) (x := f.x) (o := o) (q := (⟨(imO f.x o).name, (imO f.x o).cost, (imO f.x o).pre, (imO f.x o).effs⟩ : Opr)) (fun p => by rw [alike_eq]; rfl) t.ops tk 0 (by omega)
      unfold rng opsL
      rw [image_eq hok hp ho, bnd_some, bnd_some]
      simp only []
      rw [hloop, bnd_some, fin_d, List.drop_zero]
      cases hj : fstM f.x o t.ops tk 0 with
      | none =>
        simp only []
        rw [if_pos (by decide), bnd_some]
        rfl
      | some j =>
        simp only []
        have hjl := fstM_lt t.ops tk 0 j hj
        have hat : atI tk (j : Int) = some tk[j] := by rw [atI_eq, List.getElem?_eq_getElem (by omega)]
        rw [if_neg (by omega), hat, bnd_some, appI_eq (by simp at hacc ⊢; omega) (by simp at hacc ⊢; omega), bnd_some]
        have e1 : ((j : Nat) : Int).toNat = j := by omega
        simp only [e1]
        exact ih (k + 1) (tk.set j true) (acc ++ [(j : Int)]) (by simpa using htk) (by simp at hacc ⊢; omega) (fun q hq => hos q (List.mem_cons_of_mem _ hq))
  exact key2 t.ops 0 (List.replicate t.ops.length false) [] (by simp) (by simp) (fun o ho => by
    obtain ⟨i, hi⟩ := List.getElem?_of_mem ho
    exact hok.2.2.2.2.2 i o hi)
theorem copied_eq {f : Fnd} {l : List Int} (h1 : f.x.vars.length ≤ 1000000) (h2 : f.x.vals.length ≤ 1000000) (h3 : ∀ r ∈ f.x.vals, r.length ≤ 1000000) : m_symmetry_finder_copied f l = some (⟨f.x.vars, f.x.vals, l⟩ : Swp) := by
  unfold m_symmetry_finder_copied
  rw [show m_slices_Clone_Lint_int f.x.vars = some f.x.vars from if_pos ⟨by omega, by omega⟩, bnd_some]
  rw [rng_from (s₀ := ([] : List (List Int))) (fun k => f.x.vals.take k) rfl fun k x hx => ?_, bnd_some, fin_d, List.take_length]
  have hk := lt_of_get hx
  have hxl := h3 x (List.mem_of_getElem? hx)
  rw [show m_slices_Clone_Lint_int x = some x from if_pos ⟨by omega, by omega⟩, bnd_some, appI_eq (by simp; omega) (by simp; omega), bnd_some, List.take_add_one, hx]
  rfl
/-- What is found where all facts have images. -/
noncomputable def leafC (t : Tsk) (zs : Zs) : Option Swp := match opsC t (swF t zs) with
  | some l => if bof (imL (swF t zs) t.goal = t.goal) = true then some ⟨(swF t zs).vars, (swF t zs).vals, l⟩ else none
  | none => none
theorem leafC_ok (hok : TaskOk t) (sg : Nat → Nat → ByteArray) : LeafOk t sg (leafC t) := fun me zs s M hz hl => by
  have hp := swF_perm hok hz hl
  have hll : (mkF t sg zs (s : Int) (M : Int) false).list.length = (allP t).length := List.length_map ..
  unfold m_extendO
  rw [if_pos (by rw [hll, hl]), operators_eq hok (f := mkF t sg zs (s : Int) (M : Int) false) rfl hp, bnd_some]
  have hx : (mkF t sg zs (s : Int) (M : Int) false).x = swF t zs := rfl
  rw [hx]
  unfold leafC
  cases hop : opsC t (swF t zs) with
  | none => rfl
  | some l =>
    have hg : m_symmetry_mapped (swF t zs) t.goal = some (imL (swF t zs) t.goal) := mapped_eq hok hp hok.2.2.2.2.1
    have hg' : m_symmetry_mapped (swF t zs) (mkF t sg zs (s : Int) (M : Int) false).t.goal = some (imL (swF t zs) t.goal) := hg
    simp only [Bool.not_true, Bool.false_eq_true, if_false]
    rw [hg', bnd_some, show (mkF t sg zs (s : Int) (M : Int) false).t.goal = t.goal from rfl, equal_facts, bnd_some]
    by_cases h : imL (swF t zs) t.goal = t.goal
    · have hv := hok.1
      have hc := copied_eq (f := mkF t sg zs (s : Int) (M : Int) false) (l := l) (by rw [hx, hp.1.len]; omega) (by rw [hx, hp.2.1]; omega) (fun r hr => by
        rw [hx] at hr
        obtain ⟨v, hv, rfl⟩ := List.mem_map.1 hr
        have := (szT_pos hok (List.mem_range.1 hv)).2
        simp
        omega)
      rw [bof_t h, if_t, bnd_some, if_neg (by simp), hc, bnd_some]
      rfl
    · rw [bof_f h, if_f, bnd_some, if_t]
      rfl
theorem leafC_perm (hok : TaskOk t) : LeafP t (leafC t) := fun zs w hz hl h => by
  have hp := swF_perm hok hz hl
  unfold leafC at h
  split at h
  · split at h
    · injection h with h
      rw [← h]
      exact hp
    · cases h
  · cases h
end
end
section
open Go Go.RowKit
theorem rep_map {α : Type} (n : Nat) (z : α) : List.replicate n z = (List.range n).map fun _ => z := by
  apply List.ext_getElem?
  intro i
  rw [List.getElem?_replicate, List.getElem?_map]
  by_cases h : i < n
  · rw [if_pos h, List.getElem?_range h]; rfl
  · rw [if_neg h, List.getElem?_eq_none (by simp; omega)]; rfl
theorem mul_all : ((List.range 65).all fun n => decide (BitVec.ofNat 64 ((BitVec.ofInt 64 (1 : Int)).toNat * (BitVec.ofInt 64 (n : Int)).toNat / 18446744073709551616) = BitVec.ofNat 64 0) && decide ((BitVec.ofNat 64 ((BitVec.ofInt 64 (1 : Int)).toNat * (BitVec.ofInt 64 (n : Int)).toNat % 18446744073709551616)).toInt = (n : Int)) && decide ((BitVec.ofNat 64 ((BitVec.ofInt 64 (1 : Int)).toNat * (BitVec.ofInt 64 (n : Int)).toNat % 18446744073709551616)).toNat = n)) = true := by decide +kernel
theorem cpyR_rep {a : Int} {n k : Nat} (h0 : 0 < k) (h1 : k < n) (h2 : n ≤ 64) : cpyR (List.replicate k a ++ List.replicate (n - k) 0) (k : Int) = some (List.replicate (k + min k (n - k)) a ++ List.replicate (n - (k + min k (n - k))) 0, ((min k (n - k) : Nat) : Int)) := by
  unfold cpyR
  have hlen : (List.replicate k a ++ List.replicate (n - k) (0 : Int)).length = n := by simp; omega
  rw [if_pos ⟨by omega, by rw [hlen]; omega, by rw [hlen]; omega⟩, hlen]
  have e1 : ((k : Nat) : Int).toNat = k := by omega
  rw [e1]
  have e2 : (List.replicate k a ++ List.replicate (n - k) (0 : Int)).take k = List.replicate k a := by rw [List.take_append_of_le_length (by simp), List.take_of_length_le (by simp)]
  rw [e2, List.take_replicate]
  have e3 : min (n - k) k = min k (n - k) := Nat.min_comm _ _
  rw [e3, List.length_replicate]
  congr 2
  rw [List.drop_append, List.length_replicate, List.drop_of_length_le (by simp), List.nil_append, List.drop_replicate, ← List.append_assoc, List.replicate_append_replicate]
  congr 2
  omega
theorem repeat_eq {a : Int} {n : Nat} (h0 : 0 < n) (h : n ≤ 64) : m_slices_Repeat_Lint_int [a] (n : Int) = some (List.replicate n a) := by
  unfold m_slices_Repeat_Lint_int m_math_bits_Mul
  have hall := List.all_eq_true.1 mul_all n (List.mem_range.2 (by omega))
  simp only [Bool.and_eq_true, decide_eq_true_eq] at hall
  obtain ⟨⟨q1, q2⟩, q3⟩ := hall
  rw [if_neg (by omega), bnd_some]
  have e0 : ([a] : List Int).length = 1 := rfl
  simp only [e0]
  have e1 : ((1 : Nat) : Int) = 1 := rfl
  simp only [e1, q1, q2, q3]
  have c1 : ¬ ((0 : U64).toNat : Int) < ((BitVec.ofNat 64 0).toNat : Int) := by decide
  have c2 : ¬ ((9223372036854775807 : U64).toNat : Int) < ((n : Nat) : Int) := by
    have : ((9223372036854775807 : U64).toNat) = 9223372036854775807 := by decide
    rw [this]
    omega
  rw [if_neg c1, if_neg c2, bnd_some, if_neg (by simp), mkI_eq (by omega) (by omega), bnd_some]
  unfold ckN
  rw [if_pos ⟨by simp; omega, by simp, by simp; omega⟩, bnd_some]
  have e2 : (cpn (List.replicate n (0 : Int)) [a] : Int) = 1 := by unfold cpn; simp; omega
  have e3 : cpyL (List.replicate n (0 : Int)) [a] = List.replicate 1 a ++ List.replicate (n - 1) 0 := by
    unfold cpyL
    rw [List.length_replicate, List.take_of_length_le (by simp; omega), List.drop_replicate]
    rfl
  rw [e2, e3]
  refine lop_bnd (I := fun s => ∃ k : Nat, 0 < k ∧ k ≤ n ∧ s = (List.replicate k a ++ List.replicate (n - k) 0, (k : Int))) (B := fun s => s.1 = List.replicate n a) (μ := fun s => n - s.2.toNat) ⟨1, by omega, by omega, rfl⟩ ?_ ?_
  · rintro s ⟨k, k0, k1, rfl⟩
    simp only [List.length_replicate]
    by_cases hk : k < n
    · left
      rw [if_pos (by omega), cpyR_rep k0 hk h, bnd_some, chkI_eq (by unfold inI64; omega), bnd_some]
      exact ⟨_, rfl, ⟨k + min k (n - k), by omega, by omega, by simp⟩, by simp; omega⟩
    · right
      rw [if_neg (by omega)]
      have : k = n := by omega
      subst this
      exact ⟨_, rfl, by simp⟩
  · rintro s hs
    rw [fin_d, hs]
def allK (t : Tsk) (k : Nat) : List Pn := (List.range k).flatMap fun v => (List.range (szT t v)).map fun a => (v, a)
theorem allK_succ (t : Tsk) (k : Nat) : allK t (k + 1) = allK t k ++ (List.range (szT t k)).map fun a => (k, a) := by
  unfold allK
  rw [List.range_succ, List.flatMap_append]
  simp
theorem allK_len {t : Tsk} (hok : TaskOk t) : ∀ k, k ≤ t.vars.length → (allK t k).length ≤ 64 * k
  | 0, _ => by simp [allK]
  | k + 1, h => by
    have := allK_len hok k (by omega)
    have h2 := (szT_pos hok (show k < t.vars.length by omega)).2
    rw [allK_succ, List.length_append, List.length_map, List.length_range]
    omega
theorem allP_len {t : Tsk} (hok : TaskOk t) : (allP t).length ≤ 4096 := by
  have := allK_len hok t.vars.length (Nat.le_refl _)
  have h2 := hok.1
  have : (allP t).length ≤ 64 * t.vars.length := this
  omega
def adS (sg : Nat → Nat → ByteArray) (x : Pn) (role : ByteArray) : Nat → Nat → ByteArray := fun v a => if v = x.1 ∧ a = x.2 then sg v a ++ (role ++ (⟨#[59]⟩ : ByteArray)) else sg v a
theorem sign_eq {t : Tsk} {sg : Nat → Nat → ByteArray} {s M : Int} {fl : Bool} {x : Pn} {role : ByteArray} (hx : InP t x) (h : (sg x.1 x.2).size + role.size ≤ 1000000000000) : m_symmetry_finder_sign (mkF t sg [] s M fl) (fc x) role = some (mkF t (adS sg x role) [] s M fl) := by
  unfold m_symmetry_finder_sign
  have hone : (⟨#[59]⟩ : ByteArray).size = 1 := rfl
  have c1 : catI role (⟨#[59]⟩ : ByteArray) = some (role ++ (⟨#[59]⟩ : ByteArray)) := if_pos (by rw [hone]; omega)
  have c2 : catI (sg x.1 x.2) (role ++ (⟨#[59]⟩ : ByteArray)) = some (sg x.1 x.2 ++ (role ++ (⟨#[59]⟩ : ByteArray))) := if_pos (by rw [ByteArray.size_append, hone]; omega)
  simp only [mkF, fc]
  rw [gridT_at _ hx.1, bnd_some, rm_at _ hx.2, bnd_some, c1, bnd_some, c2, bnd_some, bnd_some]
  have e1 : ((x.1 : Nat) : Int).toNat = x.1 := by omega
  have e2 : ((x.2 : Nat) : Int).toNat = x.2 := by omega
  rw [e1, e2, gridT_set]
  have : gridT t (fun v' a' => if v' = x.1 ∧ a' = x.2 then sg x.1 x.2 ++ (role ++ (⟨#[59]⟩ : ByteArray)) else sg v' a') = gridT t (adS sg x role) := gridT_congr fun v a _ _ => by
    unfold adS
    by_cases h : v = x.1 ∧ a = x.2
    · rw [if_pos h, if_pos h, h.1, h.2]
    · rw [if_neg h, if_neg h]
  rw [this]
def pf (f : Fct) : Pn := (f.var.toNat, f.val.toNat)
theorem pf_ok {t : Tsk} (hok : TaskOk t) {f : Fct} (h : FactOk t.vars f) : InP t (pf f) ∧ f = fc (pf f) := by
  obtain ⟨h1, h2, y, h3, h4⟩ := h
  have hlt := lt_of_get h3
  have hs := szT_get hok hlt
  rw [h3] at hs
  injection hs with hs
  refine ⟨⟨hlt, ?_⟩, ?_⟩
  · show f.val.toNat < szT t f.var.toNat
    omega
  · obtain ⟨a, b⟩ := f
    unfold fc pf
    simp only at h1 h2 ⊢
    congr 1 <;> omega
/-- Signs of facts, one after another. -/
def addL (sg : Nat → Nat → ByteArray) (l : List Pn) (rl : Fct → ByteArray) : Nat → Nat → ByteArray := fun v a => if (v, a) ∈ l then sg v a ++ (rl (fc (v, a)) ++ (⟨#[59]⟩ : ByteArray)) else sg v a
theorem signs_loop {t : Tsk} {s M : Int} {fl : Bool} {ρ : Type} {rl : Fct → ByteArray} {R B : Nat} (hR : ∀ x, (rl x).size ≤ R) (hb : B + R ≤ 1000000000000) : ∀ (l : List Pn) (k : Nat) (sg : Nat → Nat → ByteArray), l.Nodup → (∀ x ∈ l, InP t x) → (∀ x ∈ l, (sg x.1 x.2).size ≤ B) →
    rng (ρ := ρ) (fun (_ : Nat) (a : Fct) (s : Fnd) => bnd (m_symmetry_finder_sign s a (rl a)) fun q => some (.next q)) (l.map fc) k (mkF t sg [] s M fl) = some (.done (mkF t (addL sg l rl) [] s M fl))
  | [], k, sg, _, _, _ => by
    have : addL sg [] rl = sg := by funext v a; simp [addL]
    rw [this]; rfl
  | x :: l, k, sg, hn, hl, hB => by
    have hx := hl x List.mem_cons_self
    have hxB := hB x List.mem_cons_self
    have hr := hR (fc x)
    obtain ⟨n1, n2⟩ := List.nodup_cons.1 hn
    have ih := signs_loop (t := t) (s := s) (M := M) (fl := fl) (ρ := ρ) hR hb l (k + 1) (adS sg x (rl (fc x))) n2 (fun q hq => hl q (List.mem_cons_of_mem _ hq)) (fun q hq => by
      unfold adS
      rw [if_neg (fun e => n1 (by have : q = x := Prod.ext e.1 e.2; rw [← this]; exact hq))]
      exact hB q (List.mem_cons_of_mem _ hq))
    have he : addL (adS sg x (rl (fc x))) l rl = addL sg (x :: l) rl := by
      funext v a
      unfold addL adS
      by_cases h1 : v = x.1 ∧ a = x.2
      · have hxe : (v, a) = x := Prod.ext h1.1 h1.2
        rw [hxe, if_neg n1, if_pos List.mem_cons_self]
        rw [if_pos h1]
      · have hxe : ¬ (v, a) = x := fun e => h1 ⟨congrArg Prod.fst e, congrArg Prod.snd e⟩
        rw [if_neg h1]
        by_cases h2 : (v, a) ∈ l
        · rw [if_pos h2, if_pos (List.mem_cons_of_mem _ h2)]
        · rw [if_neg h2, if_neg (fun h => (List.mem_cons.1 h).elim hxe h2)]
    rw [List.map_cons]
    unfold rng
    rw [sign_eq hx (by omega), bnd_some, ← he]
    exact ih
def goalB : ByteArray := ⟨#[103, 111, 97, 108]⟩
def sg0 (t : Tsk) : Nat → Nat → ByteArray := addL (fun _ _ => ⟨#[]⟩) (t.goal.map pf) fun _ => goalB
theorem new_eq {t : Tsk} (hok : TaskOk t) {M : Int} {f : Fnd} (hr : m_symmetry_finder_roles (mkF t (sg0 t) [] 0 M false) = some f) : m_symmetry_newFinder t M = some (some f) := by
  have hv := hok.1
  unfold m_symmetry_newFinder
  rw [mkI_eq (by omega) (by omega), bnd_some]
  rw [rng_from (s₀ := (([] : List Fct), ([] : List (List ByteArray)), ([] : List Int), ([] : List (List Int)), ([] : List (List Bool)))) (fun k => ((allK t k).map fc, (List.range k).map (fun v => (List.range (szT t v)).map fun _ => (⟨#[]⟩ : ByteArray)), (List.range k).map (fun _ => (-1 : Int)), (List.range k).map (fun v => (List.range (szT t v)).map fun _ => (-1 : Int)), (List.range k).map (fun v => (List.range (szT t v)).map fun _ => false))) rfl (fun k a hk => ?_), bnd_some, fin_d]
  · have e1 : List.replicate t.vars.length false = rowT t (Uf []) := rep_map _ _
    have e2 : (⟨(⟨t.vars, t.init, t.goal, t.ops⟩ : Tsk), (allK t t.vars.length).map fc, (List.range t.vars.length).map (fun v => (List.range (szT t v)).map fun _ => (⟨#[]⟩ : ByteArray)), (⟨(List.range t.vars.length).map (fun _ => (-1 : Int)), (List.range t.vars.length).map (fun v => (List.range (szT t v)).map fun _ => (-1 : Int)), ([] : List Int)⟩ : Swp), (List.range t.vars.length).map (fun v => (List.range (szT t v)).map fun _ => false), List.replicate t.vars.length false, 0, M, false⟩ : Fnd) = mkF t (fun _ _ => ⟨#[]⟩) [] 0 M false := by
      rw [e1]; rfl
    rw [e2]
    have hgl := facts_len hok hok.2.2.2.2.1
    have hin : ∀ x ∈ t.goal.map pf, InP t x := fun x hx => by
      obtain ⟨g, hg, rfl⟩ := List.mem_map.1 hx
      exact (pf_ok hok ((facts_pw hok.2.2.2.2.1).1 g hg)).1
    have hgn : (t.goal.map pf).Nodup := nodup_map ((facts_pw hok.2.2.2.2.1).2.imp fun {a b} (h : a.var < b.var) (e : a = b) => by rw [e] at h; omega) fun a ha b hb e => by
      rw [(pf_ok hok ((facts_pw hok.2.2.2.2.1).1 a ha)).2, (pf_ok hok ((facts_pw hok.2.2.2.2.1).1 b hb)).2, e]
    have h1 := signs_loop (t := t) (s := 0) (M := M) (fl := false) (ρ := Option Fnd) (rl := fun _ => goalB) (R := 4) (B := 0) (fun _ => Nat.le_refl _) (by omega) (t.goal.map pf) 0 (fun _ _ => ⟨#[]⟩) hgn hin (fun _ _ => Nat.le_refl _)
    have hgm : (t.goal.map pf).map fc = t.goal := by
      rw [List.map_map]
      refine (List.map_congr_left fun g hg => ?_).trans (List.map_id _)
      exact ((pf_ok hok ((facts_pw hok.2.2.2.2.1).1 g hg)).2).symm
    rw [hgm] at h1
    unfold goalB at h1
    rw [h1, bnd_some, fin_d]
    show bnd (m_symmetry_finder_roles (mkF t (sg0 t) [] 0 M false)) _ = _
    rw [hr, bnd_some]
  · have hkl := lt_of_get hk
    have hsz := szT_get hok hkl
    rw [hk] at hsz
    injection hsz with hsz
    subst hsz
    obtain ⟨p1, p2⟩ := szT_pos hok hkl
    have hal := allK_len hok k (by omega)
    simp only []
    rw [mkI_eq (by omega) (by omega), bnd_some, appI_eq (by simp; omega) (by simp; omega), bnd_some, mkI_eq (by omega) (by omega), bnd_some, appI_eq (by simp; omega) (by simp; omega), bnd_some, bnd_some, appI_eq (by simp; omega) (by simp; omega), bnd_some, repeat_eq p1 p2, bnd_some, appI_eq (by simp; omega) (by simp; omega), bnd_some, bnd_some, natI_eq, bnd_some]
    rw [rngN_from (s₀ := (allK t k).map fc) (fun j => (allK t k ++ (List.range j).map fun a => (k, a)).map fc) (by simp) (fun j hj => ?_), bnd_some, fin_d]
    · simp only [allK_succ, List.range_succ, List.map_append, rep_map, List.map_cons, List.map_nil]
    · rw [appI_eq (by simp; omega) (by simp; omega), bnd_some]
      simp only [List.range_succ, List.map_append, List.append_assoc, List.map_cons, List.map_nil]
      rfl
end
section
open Go Go.RowKit
theorem cmp_some (a b : Int) : ∃ c, m_cmp_Compare_int a b = some c := by
  unfold m_cmp_Compare_int m_cmp_isNaN_int
  by_cases h : a < b
  · exact ⟨-1, by simp [bnd, h]⟩
  · by_cases h2 : b < a
    · exact ⟨1, by simp [bnd, h, h2]⟩
    · exact ⟨0, by simp [bnd, h, h2]⟩
theorem or_some : ∀ (l : List Int), ∃ c, m_cmp_Or_int l = some c := fun l => by
  unfold m_cmp_Or_int
  have key : ∀ (l : List Int) (k : Nat), ∃ r, rng (ρ := Int) (fun (_ : Nat) (a11 : Int) (_ : Unit) => if a11 ≠ 0 then (some (.ret a11)) else (some (.next ()))) l k () = some r := by
    intro l
    induction l with
    | nil => exact fun k => ⟨_, rfl⟩
    | cons a l ih =>
      intro k
      unfold rng
      by_cases h : a ≠ 0
      · rw [if_pos h]; exact ⟨_, rfl⟩
      · rw [if_neg h]; exact ih (k + 1)
  obtain ⟨r, h⟩ := key l 0
  rw [h, bnd_some]
  cases r <;> exact ⟨_, rfl⟩
theorem l1_some (a b : Opr) : ∃ c, m_symmetry_finder_roles_l1 a b = some c := by
  unfold m_symmetry_finder_roles_l1
  obtain ⟨c1, h1⟩ := cmp_some a.cost b.cost
  obtain ⟨c2, h2⟩ := cmp_some (a.pre.length : Int) (b.pre.length : Int)
  obtain ⟨c3, h3⟩ := cmp_some (a.effs.length : Int) (b.effs.length : Int)
  obtain ⟨c4, h4⟩ := or_some [c1, c2, c3]
  rw [h1, bnd_some, h2, bnd_some, h3, bnd_some, h4, bnd_some]
  exact ⟨_, rfl⟩
theorem swap_perm {l : List Opr} {j : Nat} {a b : Opr} (h0 : 0 < j) (ha : l[j]? = some a) (hb : l[j - 1]? = some b) : ((l.set j b).set (j - 1) a).Perm l := by
  have h1 := lt_of_get ha
  have h2 := lt_of_get hb
  have e1 : l[j] = a := by rw [List.getElem?_eq_getElem h1] at ha; injection ha
  have e2 : l[j - 1] = b := by rw [List.getElem?_eq_getElem h2] at hb; injection hb
  have := List.set_set_perm h1 h2
  rwa [e1, e2] at this
theorem ins_some {l : List Opr} (hl : l.length ≤ 1000) : ∃ r, m_slices_insertionSortCmpFunc_api_Op__symmetry_finder_roles_l1 l 0 (l.length : Int) = some r ∧ r.Perm l := by
  unfold m_slices_insertionSortCmpFunc_api_Op__symmetry_finder_roles_l1
  rw [chkI_eq (by decide), bnd_some]
  refine lop_ex (I := fun s => ∃ i : Nat, 1 ≤ i ∧ s.2 = (i : Int) ∧ s.1.Perm l) (B := fun s => s.1.Perm l) (R := fun _ => False) (μ := fun s => l.length + 1 - s.2.toNat) ⟨1, by omega, rfl, .refl _⟩ ?_ (fun s hs => ⟨_, rfl, hs⟩) (fun _ h => h.elim)
  rintro ⟨m, ii⟩ ⟨i, hi, e, hp⟩
  simp only at e hp ⊢
  subst e
  have hml : m.length = l.length := hp.length_eq
  by_cases hlt : (i : Int) < (l.length : Int)
  · left
    rw [if_pos hlt]
    rcases lop_wf' (ρ := Ctl ((List Opr) × Int) (List Opr)) (f := fun (s32 : (List Opr) × Int) => bnd (if (0 : Int) < s32.2 then (bnd (atI s32.1 s32.2) fun a56 => bnd (chkI (s32.2 - 1)) fun n77 => bnd (atI s32.1 n77) fun a80 => bnd (m_symmetry_finder_roles_l1 a56 a80) fun q101 => if q101 < 0 then (some true) else (some false)) else (some false) : Option Bool) fun y51 => if y51 = true then (bnd (chkI (s32.2 - 1)) fun n115 => bnd (atI s32.1 n115) fun a118 => bnd (atI s32.1 s32.2) fun a139 => bnd (atI s32.1 s32.2) fun _ => bnd (chkI (s32.2 - 1)) fun n181 => bnd (atI (s32.1.set (s32.2 : Int).toNat a118) n181) fun _ => bnd (chkI (s32.2 - 1)) fun n209 => some (.next (((s32.1.set (s32.2 : Int).toNat a118).set (n181 : Int).toNat a139), n209))) else (some (.brk (s32.1, s32.2))))
      (fun s => ∃ j : Nat, j < l.length ∧ s.2 = (j : Int) ∧ s.1.Perm l) (fun s => s.1.Perm l) (fun _ => False) (fun s => s.2.toNat) (fun s hs => by
        obtain ⟨q, jj⟩ := s
        obtain ⟨j, hj, e, hq⟩ := hs
        simp only at e hq ⊢
        subst e
        have hql : q.length = l.length := hq.length_eq
        by_cases h0 : (0 : Int) < (j : Int)
        · obtain ⟨a, ha⟩ := some_of_lt (l := q) (k := j) (by omega)
          obtain ⟨b, hb⟩ := some_of_lt (l := q) (k := j - 1) (by omega)
          obtain ⟨c, hc⟩ := l1_some a b
          have hA : atI q (j : Int) = some a := by rw [atI_eq, ha]
          have hB : atI q ((j : Int) - 1) = some b := by rw [show (j : Int) - 1 = ((j - 1 : Nat) : Int) from by omega, atI_eq, hb]
          have hC : chkI ((j : Int) - 1) = some ((j : Int) - 1) := chkI_eq (by unfold inI64; omega)
          rw [if_pos h0, hA, bnd_some, hC, bnd_some, hB, bnd_some, hc, bnd_some]
          by_cases hc0 : c < 0
          · left
            have hD : atI (q.set j b) ((j : Int) - 1) = some b := by
              rw [show (j : Int) - 1 = ((j - 1 : Nat) : Int) from by omega, atI_eq, List.getElem?_set, if_neg (by omega), hb]
            rw [if_pos hc0, bnd_some, if_t, bnd_some, hB, bnd_some, bnd_some, bnd_some, bnd_some, show ((j : Nat) : Int).toNat = j from by omega, hD, bnd_some, bnd_some]
            refine ⟨_, rfl, ⟨j - 1, by omega, by omega, ?_⟩, ?_⟩
            · have := (swap_perm (by omega) ha hb).trans hq
              rwa [show ((j : Int) - 1).toNat = j - 1 from by omega]
            · show ((j : Int) - 1).toNat < ((j : Int)).toNat
              omega
          · right; left
            rw [if_neg hc0, bnd_some, if_f]
            exact ⟨_, rfl, hq⟩
        · right; left
          rw [if_neg h0, bnd_some, if_f]
          exact ⟨_, rfl, hq⟩) (m, (i : Int)) ⟨i, by omega, rfl, hp⟩ with ⟨s', h1, h2⟩ | ⟨_, _, h⟩
    · rw [h1, bnd_some, fin_d, chkI_eq (by unfold inI64; omega), bnd_some]
      refine ⟨_, rfl, ⟨i + 1, by omega, rfl, h2⟩, ?_⟩
      show l.length + 1 - ((i : Int) + 1).toNat < l.length + 1 - ((i : Int)).toNat
      omega
    · exact h.elim
  · right; left
    rw [if_neg hlt]
    exact ⟨_, rfl, hp⟩
theorem stable_some {l : List Opr} (hl : l.length < 20) : ∃ r, m_slices_SortStableFunc_Lapi_Op_api_Op__symmetry_finder_roles_l1 l = some r ∧ r.Perm l := by
  unfold m_slices_SortStableFunc_Lapi_Op_api_Op__symmetry_finder_roles_l1 m_slices_stableCmpFunc_api_Op__symmetry_finder_roles_l1
  obtain ⟨r, h1, h2⟩ := ins_some (l := l) (by omega)
  rw [lop_eq, if_neg (show ¬ (20 : Int) ≤ (l.length : Int) by omega)]
  simp only []
  rw [bnd_some, fin_d, h1, bnd_some, lop_eq, if_neg (show ¬ (20 : Int) < (l.length : Int) by omega)]
  simp only []
  rw [bnd_some, fin_d, bnd_some]
  exact ⟨_, rfl, h2⟩
end
section
open Go Go.RowKit
section
variable {M M' : Nat}
theorem goL_lim (hM : M ≤ M') {fit : Pn → Bool} {sub sub' : Pn → Nat → Rs} (h : ∀ y s, (sub y s).2.2 = true ∨ sub y s = sub' y s) : ∀ (l : List Pn) (s : Nat), (goL M fit sub l s).2.2 = true ∨ goL M fit sub l s = goL M' fit sub' l s
  | [], _ => .inr rfl
  | y :: l, s => by
    unfold goL
    by_cases hf : fit y = true
    · rw [if_pos hf, if_pos hf]
      by_cases hs : M ≤ s
      · rw [if_pos hs]; exact .inl rfl
      · rw [if_neg hs, if_neg (show ¬ M' ≤ s by omega)]
        rcases h y (s + 1) with e | e
        · rw [if_pos (.inr e)]; exact .inl e
        · rw [← e]
          by_cases hq : (sub y (s + 1)).1.isSome = true ∨ (sub y (s + 1)).2.2 = true
          · rw [if_pos hq, if_pos hq]; exact .inr rfl
          · rw [if_neg hq, if_neg hq]; exact goL_lim hM h l _
    · rw [if_neg hf, if_neg hf]; exact goL_lim hM h l _
variable {t : Tsk} {sg : Nat → Nat → ByteArray} {leaf : Zs → Option Swp}
theorem ext_lim (hM : M ≤ M') : ∀ (d : Nat) (zs : Zs) (s : Nat), (ext t sg leaf M d zs s).2.2 = true ∨ ext t sg leaf M d zs s = ext t sg leaf M' d zs s
  | 0, _, _ => .inr rfl
  | d + 1, zs, s => by
    unfold ext
    exact goL_lim hM (fun y s => ext_lim hM d _ s) _ s
theorem stp_lim (hM : M ≤ M') {d : Nat} {zs : Zs} {y : Pn} {s : Nat} : (stp t sg leaf M d zs y s).2.2 = true ∨ stp t sg leaf M d zs y s = stp t sg leaf M' d zs y s := by
  unfold stp
  by_cases hs : M ≤ s
  · rw [if_pos hs]; exact .inl rfl
  · rw [if_neg hs, if_neg (show ¬ M' ≤ s by omega)]
    exact ext_lim hM d _ _
theorem levL_lim (hM : M ≤ M') {i : Nat} {x : Pn} : ∀ (l : List Pn) (g : List Swp) (s : Nat), (levL t sg leaf M i x l g s).2.2 = true ∨ levL t sg leaf M i x l g s = levL t sg leaf M' i x l g s
  | [], _, _ => .inr rfl
  | y :: l, g, s => by
    unfold levL
    by_cases hf : fitB t sg (idz t i) x y = true ∧ bof (Reach g x y) = false
    · rw [if_pos hf, if_pos hf]
      rcases stp_lim (t := t) (sg := sg) (leaf := leaf) hM (d := (allP t).length - i - 1) (zs := idz t i) (y := y) (s := s) with e | e
      · rw [if_pos e]; exact .inl rfl
      · rw [← e]
        by_cases hq : (stp t sg leaf M ((allP t).length - i - 1) (idz t i) y s).2.2 = true
        · rw [if_pos hq]; exact .inl rfl
        · rw [if_neg hq, if_neg hq]; exact levL_lim hM l _ _
    · rw [if_neg hf, if_neg hf]; exact levL_lim hM l _ _
theorem fndL_lim (hM : M ≤ M') : ∀ (i : Nat) (g : List Swp) (s : Nat), ((fndL t sg leaf M i g s).2.2 = true ∧ (fndL t sg leaf M i g s).1 = []) ∨ fndL t sg leaf M i g s = fndL t sg leaf M' i g s
  | 0, _, _ => .inr rfl
  | i + 1, g, s => by
    unfold fndL
    rcases levL_lim (t := t) (sg := sg) (leaf := leaf) hM (i := i) (x := ((allP t)[i]?).getD (0, 0)) (allP t) g s with e | e
    · rw [if_pos e]; exact .inl ⟨rfl, rfl⟩
    · rw [← e]
      by_cases hq : (levL t sg leaf M i (((allP t)[i]?).getD (0, 0)) (allP t) g s).2.2 = true
      · rw [if_pos hq]; exact .inl ⟨rfl, rfl⟩
      · rw [if_neg hq, if_neg hq]; exact fndL_lim hM i _ _
/-- How many steps a search for so many facts takes at most. -/
def stepsT : Nat → Nat
  | 0 => 0
  | r + 1 => (r + 1) * (1 + stepsT r)
/-- How many facts of a list fit. -/
def fitN (fit : Pn → Bool) (l : List Pn) : Nat := (l.filter fit).length
theorem goL_steps {fit : Pn → Bool} {sub : Pn → Nat → Rs} {T : Nat} {P : Pn → Prop} (h : ∀ y s, P y → fit y = true → s + T ≤ M → (sub y s).2.1 ≤ s + T ∧ (sub y s).2.2 = false) : ∀ (l : List Pn) (s : Nat), (∀ y ∈ l, P y) → s + fitN fit l * (1 + T) ≤ M → (goL M fit sub l s).2.1 ≤ s + fitN fit l * (1 + T) ∧ (goL M fit sub l s).2.2 = false
  | [], s, _, _ => ⟨by show s ≤ _; omega, rfl⟩
  | y :: l, s, hP, hs => by
    have hP' : ∀ q ∈ l, P q := fun q hq => hP q (List.mem_cons_of_mem _ hq)
    unfold goL
    by_cases hf : fit y = true
    · have hn : fitN fit (y :: l) = fitN fit l + 1 := by unfold fitN; rw [List.filter_cons_of_pos hf]; rfl
      rw [hn, Nat.succ_mul] at hs ⊢
      obtain ⟨h1, h2⟩ := h y (s + 1) (hP y List.mem_cons_self) hf (by omega)
      rw [if_pos hf, if_neg (by omega)]
      by_cases hq : (sub y (s + 1)).1.isSome = true ∨ (sub y (s + 1)).2.2 = true
      · rw [if_pos hq]; exact ⟨by omega, h2⟩
      · rw [if_neg hq]
        have := goL_steps h l (sub y (s + 1)).2.1 hP' (by omega)
        exact ⟨by omega, this.2⟩
    · have hn : fitN fit (y :: l) = fitN fit l := by unfold fitN; rw [List.filter_cons_of_neg hf]
      rw [hn] at hs ⊢
      rw [if_neg hf]
      exact goL_steps h l s hP' hs
theorem fitB_free {zs : Zs} {x y : Pn} (h : fitB t sg zs x y = true) : y ∉ zs.map (·.2) := by
  unfold fitB at h
  split at h
  · cases h
  · rename_i h1
    intro hm
    obtain ⟨z, hz, e⟩ := List.mem_map.1 hm
    exact Tf_f.1 (by simpa using fun e => h1 (.inl e)) z hz e
theorem fitN_le {zs : Zs} {x : Pn} (h : Gz t zs) : fitN (fitB t sg zs x) (allP t) + zs.length ≤ (allP t).length := by
  have : ((allP t).filter (fitB t sg zs x) ++ zs.map (·.2)).length ≤ (allP t).length := nodup_len (List.nodup_append.2 ⟨(allP_nodup t).filter _, h.inj, fun a ha b hb e => by
    subst e
    exact fitB_free (List.mem_filter.1 ha).2 hb⟩) fun p hp => by
      rcases List.mem_append.1 hp with hp | hp
      · exact (List.mem_filter.1 hp).1
      · obtain ⟨z, hz, rfl⟩ := List.mem_map.1 hp
        exact mem_allP.2 (h.img z hz)
  rw [List.length_append, List.length_map] at this
  exact this
theorem ext_steps : ∀ (d : Nat) (zs : Zs) (s : Nat), Gz t zs → zs.length + d = (allP t).length → s + stepsT d ≤ M → (ext t sg leaf M d zs s).2.1 ≤ s + stepsT d ∧ (ext t sg leaf M d zs s).2.2 = false
  | 0, _, s, _, _, _ => ⟨by show s ≤ _; omega, rfl⟩
  | d + 1, zs, s, hz, hl, hs => by
    have hlt : zs.length < (allP t).length := by omega
    have hn := fitN_le (sg := sg) (x := xAt t zs) hz
    have hle : fitN (fitB t sg zs (xAt t zs)) (allP t) * (1 + stepsT d) ≤ stepsT (d + 1) := Nat.mul_le_mul_right _ (by omega)
    unfold ext
    have := goL_steps (M := M) (P := InP t) (fit := fitB t sg zs (xAt t zs)) (sub := fun y s => ext t sg leaf M d (zs ++ [(xAt t zs, y)]) s) (T := stepsT d) (fun y s hy hf hs => ext_steps d _ s (hz.fit (xAt_get hlt) hy hf).2 (by simp; omega) hs) (allP t) s (fun y hy => mem_allP.1 hy) (by omega)
    exact ⟨by omega, this.2⟩
theorem stp_steps {i : Nat} {y : Pn} {s : Nat} (hi : i < (allP t).length) (hy : InP t y) (hf : fitB t sg (idz t i) (xAt t (idz t i)) y = true) (hs : s + 1 + stepsT ((allP t).length - i - 1) ≤ M) : (stp t sg leaf M ((allP t).length - i - 1) (idz t i) y s).2.1 ≤ s + 1 + stepsT ((allP t).length - i - 1) ∧ (stp t sg leaf M ((allP t).length - i - 1) (idz t i) y s).2.2 = false := by
  have hl := idz_len (t := t) (k := i) (by omega)
  unfold stp
  rw [if_neg (by omega)]
  have hz := Gz_id (t := t) (k := i) (by omega)
  exact ext_steps _ _ _ (hz.fit (xAt_get (by omega)) hy hf).2 (by simp [hl]; omega) hs
theorem levL_steps {i : Nat} (hi : i < (allP t).length) : ∀ (l : List Pn) (g : List Swp) (s : Nat), (∀ y ∈ l, InP t y) → s + fitN (fitB t sg (idz t i) (xAt t (idz t i))) l * (1 + stepsT ((allP t).length - i - 1)) ≤ M → (levL t sg leaf M i (xAt t (idz t i)) l g s).2.1 ≤ s + fitN (fitB t sg (idz t i) (xAt t (idz t i))) l * (1 + stepsT ((allP t).length - i - 1)) ∧ (levL t sg leaf M i (xAt t (idz t i)) l g s).2.2 = false
  | [], g, s, _, _ => ⟨by show s ≤ _; omega, rfl⟩
  | y :: l, g, s, hP, hs => by
    have hP' : ∀ q ∈ l, InP t q := fun q hq => hP q (List.mem_cons_of_mem _ hq)
    unfold levL
    by_cases hf : fitB t sg (idz t i) (xAt t (idz t i)) y = true
    · have hn : fitN (fitB t sg (idz t i) (xAt t (idz t i))) (y :: l) = fitN (fitB t sg (idz t i) (xAt t (idz t i))) l + 1 := by unfold fitN; rw [List.filter_cons_of_pos hf]; rfl
      rw [hn, Nat.succ_mul] at hs ⊢
      by_cases hR : bof (Reach g (xAt t (idz t i)) y) = false
      · rw [if_pos ⟨hf, hR⟩]
        obtain ⟨h1, h2⟩ := stp_steps (leaf := leaf) (M := M) hi (hP y List.mem_cons_self) hf (s := s) (by omega)
        rw [if_neg (by rw [h2]; simp)]
        have := levL_steps hi l (addG g (stp t sg leaf M ((allP t).length - i - 1) (idz t i) y s).1) (stp t sg leaf M ((allP t).length - i - 1) (idz t i) y s).2.1 hP' (by omega)
        exact ⟨by omega, this.2⟩
      · rw [if_neg (fun h => hR h.2)]
        have := levL_steps hi l g s hP' (by omega)
        exact ⟨by omega, this.2⟩
    · have hn : fitN (fitB t sg (idz t i) (xAt t (idz t i))) (y :: l) = fitN (fitB t sg (idz t i) (xAt t (idz t i))) l := by unfold fitN; rw [List.filter_cons_of_neg hf]
      rw [hn] at hs ⊢
      rw [if_neg (fun h => hf h.1)]
      exact levL_steps hi l g s hP' hs
/-- How many steps the levels from here on take at most. -/
def stepsU (n : Nat) : Nat → Nat
  | 0 => 0
  | i + 1 => stepsT (n - i) + stepsU n i
theorem fndL_steps : ∀ (i : Nat) (g : List Swp) (s : Nat), i ≤ (allP t).length → s + stepsU (allP t).length i ≤ M → (fndL t sg leaf M i g s).2.2 = false
  | 0, _, _, _, _ => rfl
  | i + 1, g, s, hi, hs => by
    have hii : i < (allP t).length := by omega
    have hxe : ((allP t)[i]?).getD (0, 0) = xAt t (idz t i) := by rw [xAt_id hii]; rfl
    have hn := fitN_le (sg := sg) (x := xAt t (idz t i)) (Gz_id (t := t) (k := i) (by omega))
    rw [idz_len (by omega)] at hn
    have hT : stepsT ((allP t).length - i) = ((allP t).length - i) * (1 + stepsT ((allP t).length - i - 1)) := by
      have : (allP t).length - i = ((allP t).length - i - 1) + 1 := by omega
      rw [this]; rfl
    have hle : fitN (fitB t sg (idz t i) (xAt t (idz t i))) (allP t) * (1 + stepsT ((allP t).length - i - 1)) ≤ stepsT ((allP t).length - i) := by
      rw [hT]
      exact Nat.mul_le_mul_right _ (by omega)
    have hU : stepsU (allP t).length (i + 1) = stepsT ((allP t).length - i) + stepsU (allP t).length i := rfl
    unfold fndL
    rw [hxe]
    obtain ⟨h1, h2⟩ := levL_steps (sg := sg) (leaf := leaf) (M := M) hii (allP t) g s (fun y hy => mem_allP.1 hy) (by omega)
    rw [if_neg (by rw [h2]; simp)]
    exact fndL_steps i _ _ (by omega) (by omega)
end
end
section
open Go Go.RowKit
theorem perm_get {l : List Int} {n : Nat} (h : PermR l n) {k : Nat} (hk : k < n) : ∃ a : Nat, l[k]? = some (a : Int) ∧ a < n := by
  obtain ⟨z, hz⟩ := some_of_lt (l := l) (k := k) (by rw [h.len]; exact hk)
  obtain ⟨h1, h2⟩ := h.mem (List.mem_of_getElem? hz)
  obtain ⟨a, rfl⟩ := Int.eq_ofNat_of_zero_le h1
  exact ⟨a, hz, by omega⟩
theorem perm_onto {l : List Int} {n : Nat} (h : PermR l n) {a : Nat} (ha : a < n) : ∃ k : Nat, k < n ∧ l[k]? = some (a : Int) := by
  have : (a : Int) ∈ l := h.mem_iff.2 (mem_rangeI.2 ⟨by omega, by omega⟩)
  obtain ⟨k, hk⟩ := List.getElem?_of_mem this
  exact ⟨k, by rw [← h.len]; exact lt_of_get hk, hk⟩
theorem perm_inj {l : List Int} {n : Nat} (h : PermR l n) {i j : Nat} {a : Int} (hi : l[i]? = some a) (hj : l[j]? = some a) : i = j := by
  have h1 := lt_of_get hi
  have h2 := lt_of_get hj
  have := hi.trans hj.symm
  rw [List.getElem?_eq_getElem h1, List.getElem?_eq_getElem h2] at this
  exact (List.getElem_inj h.nodup).1 (Option.some.inj this)
theorem permR_get {l : List Int} {n : Nat} (hl : l.length = n) (h1 : ∀ (k : Nat) (a : Int), l[k]? = some a → 0 ≤ a ∧ a < n) (h2 : ∀ (i j : Nat) (a : Int), l[i]? = some a → l[j]? = some a → i = j) : PermR l n := by
  refine permR_of ?_ (fun x hx => ?_) hl
  · rw [List.nodup_iff_pairwise_ne, List.pairwise_iff_getElem]
    intro i j hi hj hij e
    have := h2 i j l[i] (List.getElem?_eq_getElem hi) (by rw [List.getElem?_eq_getElem hj, e])
    omega
  · obtain ⟨k, hk⟩ := List.getElem?_of_mem hx
    exact h1 k x hk
theorem rangeI_get {n k : Nat} (h : k < n) : (rangeI n)[k]? = some (k : Int) := by
  unfold rangeI
  rw [List.getElem?_map, List.getElem?_range h]; rfl
theorem rangeI_perm (n : Nat) : PermR (rangeI n) n := List.Perm.refl _
/-- One list after the other. -/
def alongL (a b : List Int) : List Int := a.map fun k => (b[k.toNat]?).getD 0
theorem along_get {a b : List Int} {n : Nat} (ha : PermR a n) (hb : b.length = n) {k i : Nat} {z : Int} (h1 : a[k]? = some (i : Int)) (h2 : b[i]? = some z) : (alongL a b)[k]? = some z := by
  unfold alongL
  rw [List.getElem?_map, h1]
  simp [h2]
theorem along_perm {a b : List Int} {n : Nat} (ha : PermR a n) (hb : PermR b n) : PermR (alongL a b) n := by
  have hl : (alongL a b).length = n := by simp [alongL, ha.len]
  have key : ∀ (k : Nat) (z : Int), (alongL a b)[k]? = some z → ∃ i : Nat, a[k]? = some (i : Int) ∧ b[i]? = some z := fun k z hz => by
    obtain ⟨i, hi, hin⟩ := perm_get ha (k := k) (by rw [← hl]; exact lt_of_get hz)
    obtain ⟨y, hy, _⟩ := perm_get hb hin
    rw [along_get ha hb.len hi hy] at hz
    exact ⟨i, hi, hy.trans hz⟩
  refine permR_get hl (fun k z hz => ?_) (fun k j z h1 h2 => ?_)
  · obtain ⟨i, hi, hz⟩ := key k z hz
    exact hb.mem (List.mem_of_getElem? hz)
  · obtain ⟨i, hi, hz⟩ := key k z h1
    obtain ⟨i', hi', hz'⟩ := key j z h2
    have := perm_inj hb hz hz'
    subst this
    exact perm_inj ha hi hi'
/-- What a map of facts does to a fact. -/
theorem imF_is {x : Swp} {v u a z : Nat} {l : List Int} (h1 : x.vars[v]? = some (a : Int)) (h2 : x.vals[v]? = some l) (h3 : l[u]? = some (z : Int)) : imF x ⟨v, u⟩ = ⟨a, z⟩ := by simp [imF, h1, h2, h3]
theorem fact_cases {t : Tsk} {x : Swp} {f : Fct} (hok : TaskOk t) (hp : FactsPerm t x) (hf : FactOk t.vars f) : ∃ (v u n a z : Nat) (l : List Int), f = ⟨v, u⟩ ∧ v < t.vars.length ∧ t.vars[v]? = some (n : Int) ∧ n ≤ 64 ∧ u < n ∧ x.vars[v]? = some (a : Int) ∧ x.vals[v]? = some l ∧ PermR l n ∧ l[u]? = some (z : Int) ∧ z < n ∧ a < t.vars.length ∧ t.vars[a]? = some (n : Int) ∧ imF x f = ⟨a, z⟩ := by
  obtain ⟨fv, fu⟩ := f
  obtain ⟨h1, h2, n, hn, h3⟩ := hf
  simp only at h1 h2 hn h3
  obtain ⟨v, rfl⟩ := Int.eq_ofNat_of_zero_le h1
  obtain ⟨u, rfl⟩ := Int.eq_ofNat_of_zero_le h2
  rw [show ((v : Int)).toNat = v from by omega] at hn
  have hlt := lt_of_get hn
  obtain ⟨m, a, l, q1, q2, q3, q4, q5⟩ := hp.2.2 v hlt
  have e : (m : Int) = n := by rw [hn] at q1; exact (Option.some.inj q1).symm
  subst e
  obtain ⟨ha1, ha2⟩ := hp.1.mem (List.mem_of_getElem? q2)
  obtain ⟨a, rfl⟩ := Int.eq_ofNat_of_zero_le ha1
  obtain ⟨z, hz, hzn⟩ := perm_get q5 (k := u) (by omega)
  have hm := hok.2.2.1 v m hn
  rw [atI_eq] at q4
  exact ⟨v, u, m, a, z, l, rfl, hlt, hn, by omega, by omega, q2, q3, q5, hz, hzn, by omega, q4, imF_is q2 q3 hz⟩
theorem imF_ok {t : Tsk} {x : Swp} {f : Fct} (hok : TaskOk t) (hp : FactsPerm t x) (hf : FactOk t.vars f) : FactOk t.vars (imF x f) := by
  obtain ⟨v, u, n, a, z, l, rfl, _, _, _, _, _, _, _, _, hz, ha, hta, e⟩ := fact_cases hok hp hf
  rw [e]
  exact ⟨by simp, by simp, n, by simpa using hta, by simpa using hz⟩
theorem imL_ok {t : Tsk} {x : Swp} {fs : List Fct} (hok : TaskOk t) (hp : FactsPerm t x) (hf : FactsOk t.vars fs) : (∀ f ∈ imL x fs, FactOk t.vars f) ∧ (imL x fs).Pairwise fun a b => a.var < b.var := by
  refine ⟨fun f h => ?_, srt_strict (im_ne hp hf)⟩
  have h := (srtF_perm _).mem_iff.1 h
  obtain ⟨g, hg, rfl⟩ := List.mem_map.1 h
  exact imF_ok hok hp ((facts_pw hf).1 g hg)
theorem imL_eq {t : Tsk} {x : Swp} {fs gs : List Fct} (hp : FactsPerm t x) (hf : FactsOk t.vars fs) (hg : gs.Pairwise fun a b => a.var < b.var) (h : gs.Perm (fs.map (imF x))) : imL x fs = gs :=
  sorted_eq ((srtF_perm _).trans h.symm) (srt_strict (im_ne hp hf)) hg
/-- A map that does as one after another. -/
theorem imL_comp {t : Tsk} {x y z : Swp} {fs : List Fct} (hok : TaskOk t) (hx : FactsPerm t x) (hy : FactsPerm t y) (hz : FactsPerm t z) (hf : FactsOk t.vars fs) (hgs : FactsOk t.vars (imL x fs)) (h : ∀ f, FactOk t.vars f → imF z f = imF y (imF x f)) : imL z fs = imL y (imL x fs) := by
  refine imL_eq hz hf (imL_ok hok hy hgs).2 ?_
  refine (srtF_perm _).trans ?_
  have e : fs.map (imF z) = (fs.map (imF x)).map (imF y) := by
    rw [List.map_map]
    exact List.map_congr_left fun f hf' => h f ((facts_pw hf).1 f hf')
  rw [e]
  exact (srtF_perm _).map _
theorem factsOk_of {vars : List Int} {f : List Fct} (h1 : ∀ x ∈ f, FactOk vars x) (h2 : f.Pairwise fun x y => x.var < y.var) : FactsOk vars f := by
  refine ⟨fun i x hx => h1 x (List.mem_of_getElem? hx), fun i x y hx hy => ?_⟩
  obtain ⟨hi, rfl⟩ := List.getElem?_eq_some_iff.1 hx
  obtain ⟨hj, rfl⟩ := List.getElem?_eq_some_iff.1 hy
  exact List.pairwise_iff_getElem.1 h2 i (i + 1) hi hj (Nat.lt_succ_self i)
theorem imL_facts {t : Tsk} {x : Swp} {fs : List Fct} (hok : TaskOk t) (hp : FactsPerm t x) (hf : FactsOk t.vars fs) : FactsOk t.vars (imL x fs) := factsOk_of (imL_ok hok hp hf).1 (imL_ok hok hp hf).2
theorem imL_self {t : Tsk} {x : Swp} {fs : List Fct} (hp : FactsPerm t x) (hf : FactsOk t.vars fs) (h : ∀ f, FactOk t.vars f → imF x f = f) : imL x fs = fs := by
  refine imL_eq hp hf (facts_pw hf).2 ?_
  have : fs.map (imF x) = fs.map id := List.map_congr_left fun f hf' => h f ((facts_pw hf).1 f hf')
  rw [this, List.map_id]
theorem imE_comp {t : Tsk} {x y z : Swp} {e : Eff} (hok : TaskOk t) (hx : FactsPerm t x) (hy : FactsPerm t y) (hz : FactsPerm t z) (he : EffOk t.vars e) (h : ∀ f, FactOk t.vars f → imF z f = imF y (imF x f)) : imE z e = imE y (imE x e) := by
  have h1 := imL_comp hok hx hy hz he.1 (imL_facts hok hx he.1) h
  have h2 := h ⟨e.var, e.val⟩ he.2
  show (⟨imL z e.cond, (imF z ⟨e.var, e.val⟩).var, (imF z ⟨e.var, e.val⟩).val⟩ : Eff) = ⟨imL y (imL x e.cond), (imF y (imF x ⟨e.var, e.val⟩)).var, (imF y (imF x ⟨e.var, e.val⟩)).val⟩
  rw [h1, h2]
theorem imE_self {t : Tsk} {x : Swp} {e : Eff} (hp : FactsPerm t x) (he : EffOk t.vars e) (h : ∀ f, FactOk t.vars f → imF x f = f) : imE x e = e := by
  show (⟨imL x e.cond, (imF x ⟨e.var, e.val⟩).var, (imF x ⟨e.var, e.val⟩).val⟩ : Eff) = e
  rw [imL_self hp he.1 h, h _ he.2]
theorem effs_ok {vars : List Int} {o : Opr} (ho : OpOk vars o) : ∀ e ∈ o.effs, EffOk vars e := fun e he => by
  obtain ⟨j, hj⟩ := List.getElem?_of_mem he
  exact ho.2.2.2.2.2 j e hj
/-- The identity. -/
def idX (t : Tsk) : Swp := ⟨rangeI t.vars.length, t.vars.map fun n => rangeI n.toNat, rangeI t.ops.length⟩
theorem id_perm {t : Tsk} (hok : TaskOk t) : FactsPerm t (idX t) := by
  refine ⟨rangeI_perm _, by simp [idX], fun k hk => ?_⟩
  obtain ⟨n, hn⟩ := some_of_lt (l := t.vars) (k := k) hk
  have := hok.2.2.1 k n hn
  obtain ⟨m, rfl⟩ := Int.eq_ofNat_of_zero_le (by omega : 0 ≤ n)
  exact ⟨m, k, rangeI m, hn, rangeI_get hk, by simp [idX, hn], by rw [atI_eq, hn], rangeI_perm _⟩
theorem id_fact {t : Tsk} (hok : TaskOk t) {f : Fct} (hf : FactOk t.vars f) : imF (idX t) f = f := by
  obtain ⟨v, u, n, a, z, l, rfl, h1, h2, _, hu, h3, h4, _, h5, _, _, _, e⟩ := fact_cases hok (id_perm hok) hf
  have e1 : (idX t).vars[v]? = some (v : Int) := rangeI_get h1
  have e2 : (idX t).vals[v]? = some (rangeI n) := by simp [idX, h2]
  exact imF_is e1 e2 (rangeI_get hu)
theorem id_sym {t : Tsk} (hok : TaskOk t) : SymP t (idX t) := by
  refine ⟨id_perm hok, rangeI_perm _, imL_self (id_perm hok) hok.2.2.2.2.1 fun f => id_fact hok, fun k hk => ?_⟩
  obtain ⟨o, ho⟩ := some_of_lt (l := t.ops) (k := k) hk
  have hoo := hok.2.2.2.2.2 k o ho
  refine ⟨o, o, k, ho, rangeI_get hk, by rw [atI_eq, ho], rfl, imL_self (id_perm hok) hoo.2.2.2.2.1 fun f => id_fact hok, ?_⟩
  have : o.effs.map (imE (idX t)) = o.effs.map id := List.map_congr_left fun e he => imE_self (id_perm hok) (effs_ok hoo e he) fun f => id_fact hok
  rw [this, List.map_id]
/-- One map after another. -/
def compX (x y : Swp) : Swp := ⟨alongL x.vars y.vars, x.vals.mapIdx fun v l => alongL l ((y.vals[((x.vars[v]?).getD 0).toNat]?).getD []), alongL x.ops y.ops⟩
theorem comp_vals {x y : Swp} {v a : Nat} {l m : List Int} (h1 : x.vars[v]? = some (a : Int)) (h2 : x.vals[v]? = some l) (h3 : y.vals[a]? = some m) : (compX x y).vals[v]? = some (alongL l m) := by
  simp [compX, List.getElem?_mapIdx, h1, h2, h3]
theorem comp_perm {t : Tsk} {x y : Swp} (hx : FactsPerm t x) (hy : FactsPerm t y) : FactsPerm t (compX x y) := by
  refine ⟨along_perm hx.1 hy.1, by simp [compX, hx.2.1], fun k hk => ?_⟩
  obtain ⟨n, a, l, q1, q2, q3, q4, q5⟩ := hx.2.2 k hk
  obtain ⟨ha1, ha2⟩ := hx.1.mem (List.mem_of_getElem? q2)
  obtain ⟨a, rfl⟩ := Int.eq_ofNat_of_zero_le ha1
  obtain ⟨n', b, m, p1, p2, p3, p4, p5⟩ := hy.2.2 a (by omega)
  rw [atI_eq] at q4
  have e : n = n' := by rw [q4] at p1; have := Option.some.inj p1; omega
  subst e
  exact ⟨n, b, alongL l m, q1, along_get hx.1 hy.1.len q2 p2, comp_vals q2 q3 p3, p4, along_perm q5 p5⟩
theorem comp_fact {t : Tsk} {x y : Swp} (hok : TaskOk t) (hx : FactsPerm t x) (hy : FactsPerm t y) {f : Fct} (hf : FactOk t.vars f) : imF (compX x y) f = imF y (imF x f) := by
  obtain ⟨v, u, n, a, z, l, rfl, h1, h2, h3, hu, h4, h5, h6, h7, h8, h9, h10, e⟩ := fact_cases hok hx hf
  have hf2 := imF_ok hok hx hf
  rw [e] at hf2 ⊢
  obtain ⟨v', u', n', a', z', l', e', g1, g2, g3, gu, g4, g5, g6, g7, g8, g9, g10, e2⟩ := fact_cases hok hy hf2
  have e3 : v' = a := by have := congrArg Fct.var e'; simp at this; omega
  have e4 : u' = z := by have := congrArg Fct.val e'; simp at this; omega
  subst e3 e4
  rw [e2]
  have hn : n' = n := by rw [g2] at h10; have := Option.some.inj h10; omega
  subst hn
  exact imF_is (along_get hx.1 hy.1.len h4 g4) (comp_vals h4 h5 g5) (along_get h6 g6.len h7 g7)
theorem ops_cases {t : Tsk} {x : Swp} (hx : SymP t x) {k : Nat} (hk : k < t.ops.length) : ∃ (o p : Opr) (a : Nat), t.ops[k]? = some o ∧ x.ops[k]? = some (a : Int) ∧ a < t.ops.length ∧ t.ops[a]? = some p ∧ o.cost = p.cost ∧ imL x o.pre = p.pre ∧ o.effs.map (imE x) = p.effs := by
  obtain ⟨o, p, a, h1, h2, h3, h4⟩ := hx.2.2.2 k hk
  obtain ⟨ha1, ha2⟩ := hx.2.1.mem (List.mem_of_getElem? h2)
  obtain ⟨a, rfl⟩ := Int.eq_ofNat_of_zero_le ha1
  rw [atI_eq] at h3
  exact ⟨o, p, a, h1, h2, by omega, h3, h4⟩
theorem comp_sym {t : Tsk} {x y : Swp} (hok : TaskOk t) (hx : SymP t x) (hy : SymP t y) : SymP t (compX x y) := by
  have hz := comp_perm hx.1 hy.1
  have hc : ∀ f, FactOk t.vars f → imF (compX x y) f = imF y (imF x f) := fun f => comp_fact hok hx.1 hy.1
  have hL : ∀ fs, FactsOk t.vars fs → imL (compX x y) fs = imL y (imL x fs) := fun fs hf => imL_comp hok hx.1 hy.1 hz hf (imL_facts hok hx.1 hf) hc
  refine ⟨hz, along_perm hx.2.1 hy.2.1, by rw [hL _ hok.2.2.2.2.1, hx.2.2.1, hy.2.2.1], fun k hk => ?_⟩
  obtain ⟨o, p, a, h1, h2, ha, h3, h4, h5, h6⟩ := ops_cases hx hk
  obtain ⟨p', q, b, g1, g2, hb, g3, g4, g5, g6⟩ := ops_cases hy ha
  obtain rfl : p = p' := by rw [g1] at h3; exact (Option.some.inj h3).symm
  have hoo := hok.2.2.2.2.2 k o h1
  refine ⟨o, q, b, h1, along_get hx.2.1 hy.2.1.len h2 g2, by rw [atI_eq, g3], h4.trans g4, by rw [hL _ hoo.2.2.2.2.1, h5, g5], ?_⟩
  have : o.effs.map (imE (compX x y)) = o.effs.map (imE y ∘ imE x) := List.map_congr_left fun e he => imE_comp hok hx.1 hy.1 hz (effs_ok hoo e he) hc
  rw [this, ← List.map_map, h6, g6]
end
section
open Go Go.RowKit
/-- What an operator's image must be, and what it is, without names. -/
theorem bof_true {p : Prop} (h : bof p = true) : p := Classical.byContradiction fun hn => by rw [bof_f hn] at h; cases h
abbrev Ky := Int × List Fct × List Eff
def kyO (x : Swp) (o : Opr) : Ky := (o.cost, imL x o.pre, o.effs.map (imE x))
def kyP (p : Opr) : Ky := (p.cost, p.pre, p.effs)
theorem mt_iff {x : Swp} {o p : Opr} : Mt x o p ↔ kyO x o = kyP p := by
  unfold Mt kyO kyP
  constructor
  · rintro ⟨h1, h2, h3⟩; rw [h1, h2, h3]
  · intro h
    injection h with h1 h
    injection h with h2 h3
    exact ⟨h1, h2, h3⟩
theorem fstM_some {x : Swp} {o : Opr} : ∀ (ps : List Opr) (bs : List Bool) (k j : Nat), fstM x o ps bs k = some j → ∃ i, j = k + i ∧ (∃ p, ps[i]? = some p ∧ Mt x o p) ∧ bs[i]? = some false ∧ ∀ (i' : Nat) (p' : Opr), i' < i → ps[i']? = some p' → bs[i']? = some false → ¬ Mt x o p'
  | [], bs, k, j, h => by simp [fstM] at h
  | p :: ps, [], k, j, h => by simp [fstM] at h
  | p :: ps, b :: bs, k, j, h => by
    unfold fstM at h
    split at h
    · rename_i h1
      injection h with h
      exact ⟨0, by omega, ⟨p, rfl, bof_true h1.2⟩, by rw [h1.1]; rfl, fun i' p' hi => absurd hi (by omega)⟩
    · rename_i h1
      obtain ⟨i, h2, ⟨q, h3, h4⟩, h5, h6⟩ := fstM_some ps bs (k + 1) j h
      refine ⟨i + 1, by omega, ⟨q, h3, h4⟩, h5, fun i' p' hi hp hb => ?_⟩
      cases i' with
      | zero =>
        intro hm
        have hp' : p = p' := by simpa using hp
        have hb' : b = false := by simpa using hb
        subst hp'
        exact h1 ⟨hb', bof_t hm⟩
      | succ i' => exact h6 i' p' (by omega) hp hb
theorem fstM_none {x : Swp} {o : Opr} : ∀ (ps : List Opr) (bs : List Bool) (k : Nat), ps.length = bs.length → fstM x o ps bs k = none → ∀ (i : Nat) (p : Opr), ps[i]? = some p → bs[i]? = some false → ¬ Mt x o p
  | [], bs, k, _, _ => fun i p hp => by simp at hp
  | p :: ps, [], k, hl, _ => by simp at hl
  | p :: ps, b :: bs, k, hl, h => by
    unfold fstM at h
    split at h
    · cases h
    · rename_i h1
      have ih := fstM_none ps bs (k + 1) (by simpa using hl) h
      intro i q hq hb hm
      cases i with
      | zero =>
        have hq' : p = q := by simpa using hq
        have hb' : b = false := by simpa using hb
        subst hq'
        exact h1 ⟨hb', bof_t hm⟩
      | succ i => exact ih i q hq hb hm
/-- The operators that have images so far. -/
structure OpI (t : Tsk) (x : Swp) (tk : List Bool) (acc : List Int) : Prop where
  len : tk.length = t.ops.length
  tak : ∀ k : Nat, k < t.ops.length → (tk[k]? = some true ↔ (k : Int) ∈ acc)
  nod : acc.Nodup
  mat : ∀ (j : Nat) (a : Int), acc[j]? = some a → ∃ (o p : Opr) (k : Nat), a = (k : Int) ∧ t.ops[j]? = some o ∧ t.ops[k]? = some p ∧ Mt x o p
theorem OpI.nil (t : Tsk) (x : Swp) : OpI t x (List.replicate t.ops.length false) [] := ⟨by simp, fun k hk => by simp [hk], by simp, fun j a h => by simp at h⟩
theorem OpI.snoc {t : Tsk} {x : Swp} {tk : List Bool} {acc : List Int} (h : OpI t x tk acc) {o : Opr} (ho : t.ops[acc.length]? = some o) {k : Nat} {p : Opr} (hp : t.ops[k]? = some p) (hb : tk[k]? = some false) (hm : Mt x o p) : OpI t x (tk.set k true) (acc ++ [(k : Int)]) := by
  have hk := lt_of_get hp
  have hnot : (k : Int) ∉ acc := fun e => by rw [(h.tak k hk).2 e] at hb; simp at hb
  refine ⟨by rw [List.length_set, h.len], fun j hj => ?_, ?_, fun j a ha => ?_⟩
  · rw [List.getElem?_set, List.mem_append]
    by_cases e : k = j
    · subst e
      have := h.len
      simp [show k < tk.length by omega]
    · rw [if_neg e, h.tak j hj]
      have : ¬ (j : Int) = (k : Int) := by omega
      simp [this]
  · rw [List.nodup_append]
    exact ⟨h.nod, by simp, fun a ha b hb e => hnot (by simp at hb; rw [← hb, ← e]; exact ha)⟩
  · by_cases hj : j < acc.length
    · rw [List.getElem?_append_left hj] at ha
      exact h.mat j a ha
    · have hj2 : j = acc.length := by have := lt_of_get ha; simp at this; omega
      subst hj2
      rw [List.getElem?_append_right (Nat.le_refl _), Nat.sub_self] at ha
      have : (k : Int) = a := by simpa using ha
      exact ⟨o, p, k, this.symm, ho, hp, hm⟩
theorem opsL_sound {t : Tsk} {x : Swp} : ∀ (os : List Opr) (tk : List Bool) (acc l : List Int), OpI t x tk acc → os = t.ops.drop acc.length → acc.length + os.length = t.ops.length → opsL x t.ops os tk acc = some l → ∃ tk', OpI t x tk' l ∧ l.length = t.ops.length
  | [], tk, acc, l, hi, _, hl, h => by
    unfold opsL at h
    injection h with h
    subst h
    exact ⟨tk, hi, by simpa using hl⟩
  | o :: os, tk, acc, l, hi, hd, hl, h => by
    unfold opsL at h
    cases hf : fstM x o t.ops tk 0 with
    | none => rw [hf] at h; cases h
    | some j =>
      rw [hf] at h
      simp only at h
      obtain ⟨i, e, ⟨p, hp, hm⟩, hb, _⟩ := fstM_some _ _ _ _ hf
      have e : j = i := by omega
      subst e
      have ho : t.ops[acc.length]? = some o := by
        have : (t.ops.drop acc.length)[0]? = some o := by rw [← hd]; rfl
        rwa [List.getElem?_drop, Nat.add_zero] at this
      refine opsL_sound os _ _ l (hi.snoc ho hp hb hm) ?_ ?_ h
      · have : t.ops.drop (acc.length + 1) = (o :: os).drop 1 := by rw [hd, List.drop_drop]
        rw [List.length_append, List.length_singleton, this]; rfl
      · simp at hl ⊢; omega
/-- Where a permutation of the operators fits, the first choices do. -/
theorem opsL_full {t : Tsk} {x : Swp} {π : Nat → Nat} (hπ : ∀ i j, i < t.ops.length → j < t.ops.length → π i = π j → i = j) (hm : ∀ (i : Nat) (o : Opr), t.ops[i]? = some o → ∃ p, t.ops[π i]? = some p ∧ Mt x o p) :
    ∀ (os : List Opr) (tk : List Bool) (acc : List Int), OpI t x tk acc → os = t.ops.drop acc.length → acc.length + os.length = t.ops.length → ∃ l, opsL x t.ops os tk acc = some l
  | [], tk, acc, _, _, _ => ⟨acc, rfl⟩
  | o :: os, tk, acc, hi, hd, hl => by
    have ho : t.ops[acc.length]? = some o := by
      have : (t.ops.drop acc.length)[0]? = some o := by rw [← hd]; rfl
      rwa [List.getElem?_drop, Nat.add_zero] at this
    unfold opsL
    cases hf : fstM x o t.ops tk 0 with
    | some j =>
      obtain ⟨i, e, ⟨p, hp, hmt⟩, hb, _⟩ := fstM_some _ _ _ _ hf
      have e : j = i := by omega
      subst e
      refine opsL_full hπ hm os _ _ (hi.snoc ho hp hb hmt) ?_ ?_
      · have : t.ops.drop (acc.length + 1) = (o :: os).drop 1 := by rw [hd, List.drop_drop]
        rw [List.length_append, List.length_singleton, this]; rfl
      · simp at hl ⊢; omega
    | none =>
      exfalso
      have hno := fstM_none t.ops tk 0 hi.len.symm hf
      have hlt := lt_of_get ho
      let kO : Nat → Bool := fun i => bof (∃ q, t.ops[i]? = some q ∧ kyO x q = kyO x o)
      let kP : Nat → Bool := fun i => bof (∃ q, t.ops[i]? = some q ∧ kyP q = kyO x o)
      let A := (List.range t.ops.length).filter kO
      let A' := (List.range acc.length).filter kO
      let B := (List.range t.ops.length).filter kP
      have h1 : A.length ≤ B.length := by
        have := nodup_len (l₁ := A.map π) (l₂ := B) (nodup_map (List.nodup_range.filter _) fun a ha b hb e => hπ a b (List.mem_range.1 (List.mem_filter.1 ha).1) (List.mem_range.1 (List.mem_filter.1 hb).1) e) fun b hb => by
          obtain ⟨a, ha, rfl⟩ := List.mem_map.1 hb
          obtain ⟨ha1, ha2⟩ := List.mem_filter.1 ha
          obtain ⟨q, hq, hqe⟩ := bof_true ha2
          obtain ⟨p, hp, hpm⟩ := hm a q hq
          refine List.mem_filter.2 ⟨List.mem_range.2 (lt_of_get hp), bof_t ⟨p, hp, ?_⟩⟩
          rw [← mt_iff.1 hpm, hqe]
        rwa [List.length_map] at this
      have h2 : B.length ≤ A'.length := by
        have := nodup_len (l₁ := B) (l₂ := A'.map fun j => ((acc[j]?).getD 0).toNat) (List.nodup_range.filter _) fun b hb => by
          obtain ⟨hb1, hb2⟩ := List.mem_filter.1 hb
          obtain ⟨q, hq, hqe⟩ := bof_true hb2
          have hbl := List.mem_range.1 hb1
          obtain ⟨c, hc⟩ := some_of_lt (l := tk) (k := b) (by rw [hi.len]; exact hbl)
          cases c with
          | false => exact absurd (mt_iff.2 hqe.symm) (hno b q hq hc)
          | true =>
            obtain ⟨j, hj⟩ := List.getElem?_of_mem ((hi.tak b hbl).1 hc)
            obtain ⟨o', p', k, e1, e2, e3, e4⟩ := hi.mat j _ hj
            have e5 : k = b := by omega
            subst e5
            rw [hq] at e3
            injection e3 with e3
            subst e3
            refine List.mem_map.2 ⟨j, List.mem_filter.2 ⟨List.mem_range.2 (lt_of_get hj), bof_t ⟨o', e2, ?_⟩⟩, by rw [hj]; simp⟩
            rw [mt_iff.1 e4, hqe]
        rwa [List.length_map] at this
      have h3 : A'.length + 1 ≤ A.length := by
        have := nodup_len (l₁ := A' ++ [acc.length]) (l₂ := A) (List.nodup_append.2 ⟨List.nodup_range.filter _, by simp, fun a ha b hb e => by
          simp at hb
          have := List.mem_range.1 (List.mem_filter.1 ha).1
          omega⟩) fun b hb => by
            rcases List.mem_append.1 hb with hb | hb
            · obtain ⟨hb1, hb2⟩ := List.mem_filter.1 hb
              have := List.mem_range.1 hb1
              exact List.mem_filter.2 ⟨List.mem_range.2 (by omega), hb2⟩
            · simp at hb
              subst hb
              exact List.mem_filter.2 ⟨List.mem_range.2 hlt, bof_t ⟨o, ho, rfl⟩⟩
        simpa using this
      omega
end
section
open Go Go.RowKit
def backN (l : List Int) : List Int := (List.range l.length).map fun k : Nat => ((l.idxOf (k : Int) : Nat) : Int)
theorem idx_at : ∀ {l : List Int}, l.Nodup → ∀ {i : Nat} {x : Int}, l[i]? = some x → l.idxOf x = i
  | [], _, i, x, h => by simp at h
  | y :: l, hn, 0, x, h => by
    have : y = x := by simpa using h
    rw [this, List.idxOf_cons_self]
  | y :: l, hn, i + 1, x, h => by
    obtain ⟨h1, h2⟩ := List.nodup_cons.1 hn
    have hx : l[i]? = some x := by simpa using h
    have hne : ¬ y = x := fun e => h1 (e ▸ List.mem_of_getElem? hx)
    rw [List.idxOf_cons, idx_at h2 hx, show (y == x) = false from by simpa using hne]
    rfl
theorem bakn_eq {l : List Int} {n : Nat} (hp : PermR l n) (_ : n ≤ 1000000) : True ∧ (backN l).length = n ∧ ∀ i k : Nat, l[i]? = some (k : Int) → (backN l)[k]? = some (i : Int) := by
  refine ⟨trivial, by simp [backN, hp.len], fun i k h => ?_⟩
  have := hp.mem (List.mem_of_getElem? h)
  unfold backN
  rw [List.getElem?_map, List.getElem?_range (by rw [hp.len]; omega)]
  show some ((l.idxOf (k : Int) : Nat) : Int) = _
  rw [idx_at hp.nodup h]
theorem bakn_perm {l : List Int} {n : Nat} (hp : PermR l n) (hn : n ≤ 1000000) : PermR (backN l) n := by
  obtain ⟨_, h2, h3⟩ := bakn_eq hp hn
  have key : ∀ (k : Nat) (z : Int), (backN l)[k]? = some z → ∃ i : Nat, z = (i : Int) ∧ i < n ∧ l[i]? = some (k : Int) := fun k z hz => by
    obtain ⟨i, hin, hi⟩ := perm_onto hp (a := k) (by rw [← h2]; exact lt_of_get hz)
    have := h3 i k hi
    rw [hz] at this
    exact ⟨i, Option.some.inj this, hin, hi⟩
  refine permR_get h2 (fun k z hz => ?_) (fun k j z g1 g2 => ?_)
  · obtain ⟨i, rfl, hi, _⟩ := key k z hz; omega
  · obtain ⟨i, rfl, _, hi⟩ := key k z g1
    obtain ⟨i', e, _, hi'⟩ := key j _ g2
    obtain rfl : i = i' := by omega
    rw [hi] at hi'
    have := Option.some.inj hi'
    omega
def invN (x : Swp) : Swp := ⟨backN x.vars, (List.range x.vals.length).map fun w => backN ((x.vals[(((backN x.vars)[w]?).getD 0).toNat]?).getD []), backN x.ops⟩
theorem invn_vals {t : Tsk} {x : Swp} (hok : TaskOk t) (hx : FactsPerm t x) {v a : Nat} {l : List Int} (h1 : x.vars[v]? = some (a : Int)) (h2 : x.vals[v]? = some l) : (invN x).vals[a]? = some (backN l) := by
  obtain ⟨_, h4, h5⟩ := bakn_eq hx.1 (by have := hok.1; omega)
  have := hx.1.mem (List.mem_of_getElem? h1)
  have h6 := h5 v a h1
  show ((List.range x.vals.length).map _)[a]? = _
  rw [List.getElem?_map, List.getElem?_range (by rw [hx.2.1]; omega)]
  simp [h6, h2]
theorem invn_perm {t : Tsk} {x : Swp} (hok : TaskOk t) (hx : FactsPerm t x) : FactsPerm t (invN x) := by
  have hl : t.vars.length ≤ 1000000 := by have := hok.1; omega
  refine ⟨bakn_perm hx.1 hl, by simp [invN, hx.2.1], fun k hk => ?_⟩
  obtain ⟨v, hv, hvk⟩ := perm_onto hx.1 hk
  obtain ⟨n, a, l, q1, q2, q3, q4, q5⟩ := hx.2.2 v hv
  obtain rfl : a = (k : Int) := by rw [hvk] at q2; exact (Option.some.inj q2).symm
  rw [atI_eq] at q4
  have hn := hok.2.2.1 v n q1
  obtain ⟨_, h4, h5⟩ := bakn_eq hx.1 hl
  exact ⟨n, v, backN l, q4, h5 v k hvk, invn_vals hok hx hvk q3, by rw [atI_eq, q1], bakn_perm q5 (by omega)⟩
theorem invn_fact {t : Tsk} {x : Swp} (hok : TaskOk t) (hx : FactsPerm t x) {f : Fct} (hf : FactOk t.vars f) : imF (invN x) (imF x f) = f := by
  obtain ⟨v, u, n, a, z, l, rfl, h1, h2, h3, hu, h4, h5, h6, h7, h8, h9, h10, e⟩ := fact_cases hok hx hf
  rw [e]
  have hl : t.vars.length ≤ 1000000 := by have := hok.1; omega
  exact imF_is ((bakn_eq hx.1 hl).2.2 v a h4) (invn_vals hok hx h4 h5) ((bakn_eq h6 (by omega)).2.2 u z h7)
theorem invn_list {t : Tsk} {x : Swp} (hok : TaskOk t) (hx : FactsPerm t x) {fs : List Fct} (hf : FactsOk t.vars fs) : imL (invN x) (imL x fs) = fs := by
  rw [← imL_comp hok hx (invn_perm hok hx) (id_perm hok) hf (imL_facts hok hx hf) (fun f hf => by rw [invn_fact hok hx hf, id_fact hok hf])]
  exact imL_self (id_perm hok) hf fun f => id_fact hok
theorem invn_eff {t : Tsk} {x : Swp} (hok : TaskOk t) (hx : FactsPerm t x) {e : Eff} (he : EffOk t.vars e) : imE (invN x) (imE x e) = e := by
  rw [← imE_comp hok hx (invn_perm hok hx) (id_perm hok) he (fun f hf => by rw [invn_fact hok hx hf, id_fact hok hf])]
  exact imE_self (id_perm hok) he fun f => id_fact hok
theorem invn_sym {t : Tsk} {x : Swp} (hok : TaskOk t) (hx : SymP t x) : SymP t (invN x) := by
  have hl : t.ops.length ≤ 1000000 := by have := hok.2.1; omega
  refine ⟨invn_perm hok hx.1, bakn_perm hx.2.1 hl, ?_, fun k hk => ?_⟩
  · have := invn_list hok hx.1 hok.2.2.2.2.1
    rwa [hx.2.2.1] at this
  · obtain ⟨j, hj, hjk⟩ := perm_onto hx.2.1 hk
    obtain ⟨o, p, a, h1, h2, ha, h3, h4, h5, h6⟩ := ops_cases hx hj
    obtain rfl : a = k := by rw [hjk] at h2; have := Option.some.inj h2; omega
    have hoo := hok.2.2.2.2.2 j o h1
    refine ⟨p, o, j, h3, (bakn_eq hx.2.1 hl).2.2 j a hjk, by rw [atI_eq, h1], h4.symm, by rw [← h5, invn_list hok hx.1 hoo.2.2.2.2.1], ?_⟩
    rw [← h6, List.map_map]
    have : o.effs.map (imE (invN x) ∘ imE x) = o.effs.map id := List.map_congr_left fun e he => invn_eff hok hx.1 (effs_ok hoo e he)
    rw [this, List.map_id]
end
section
open Go Go.RowKit
/-- A map of facts that can be completed to a symmetry. -/
def SymF (t : Tsk) (w : Swp) : Prop := ∃ ops, SymP t ⟨w.vars, w.vals, ops⟩
def SgOk (t : Tsk) (sg : Nat → Nat → ByteArray) (w : Swp) : Prop := ∀ p, InP t p → sg (imP w p).1 (imP w p).2 = sg p.1 p.2
def zsOf (t : Tsk) (w : Swp) (k : Nat) : Zs := ((allP t).take k).map fun p => (p, imP w p)
/-- The facts before the k-th are kept. -/
def Fix (t : Tsk) (k : Nat) (w : Swp) : Prop := ∀ p ∈ (allP t).take k, imP w p = p
section
variable {t : Tsk} {w : Swp}
theorem SymF.perm (h : SymF t w) : FactsPerm t w := h.elim fun _ h => h.1
theorem SymP.f (h : SymP t w) : SymF t w := ⟨w.ops, h⟩
theorem zsOf_len {k : Nat} (h : k ≤ (allP t).length) : (zsOf t w k).length = k := by unfold zsOf; simp; omega
theorem zsOf_succ {k : Nat} {x : Pn} (h : (allP t)[k]? = some x) : zsOf t w (k + 1) = zsOf t w k ++ [(x, imP w x)] := by
  unfold zsOf
  rw [List.take_add_one, h, List.map_append]; rfl
theorem mem_zsOf {k : Nat} {z : Pn × Pn} (h : z ∈ zsOf t w k) : z.2 = imP w z.1 ∧ z.1 ∈ (allP t).take k := by
  obtain ⟨x, hx, rfl⟩ := List.mem_map.1 h
  exact ⟨rfl, hx⟩
theorem in_take {k : Nat} {p : Pn} (h : p ∈ (allP t).take k) : InP t p := mem_allP.1 (List.mem_of_mem_take h)
theorem zsOf_in {k : Nat} {z : Pn × Pn} (h : z ∈ zsOf t w k) : InP t z.1 := in_take (mem_zsOf h).2
theorem Gz_of (hok : TaskOk t) (hp : FactsPerm t w) {k : Nat} (hk : k ≤ (allP t).length) : Gz t (zsOf t w k) := by
  have hl := zsOf_len (w := w) hk
  refine ⟨?_, by omega, fun z hz => ?_, ?_, fun z hz z' hz' => ?_, fun z hz => ?_⟩
  · rw [hl]
    unfold zsOf
    rw [List.map_map]
    exact (List.map_congr_left fun a _ => rfl).trans (List.map_id _)
  · rw [(mem_zsOf hz).1]
    exact imP_in hok hp (zsOf_in hz)
  · unfold zsOf
    rw [List.map_map]
    refine nodup_map ?_ fun a ha b hb e => imP_inj hok hp (in_take ha) (in_take hb) e
    have := allP_nodup t
    rw [← List.take_append_drop k (allP t), List.nodup_append] at this
    exact this.1
  · rw [(mem_zsOf hz).1, (mem_zsOf hz').1]
    exact imP_var hok hp (zsOf_in hz) (zsOf_in hz')
  · rw [(mem_zsOf hz).1]
    obtain ⟨_, _, _, _, _, h, _⟩ := imP_get hok hp (zsOf_in hz)
    exact h.symm
theorem zsOf_fix {k : Nat} (h : Fix t k w) : zsOf t w k = idz t k := List.map_congr_left fun p hp => by rw [h p hp]
theorem not_take {k : Nat} {x : Pn} (hx : (allP t)[k]? = some x) : x ∉ (allP t).take k := fun h => by
  have h2 := allP_nodup t
  rw [← List.take_append_drop k (allP t), List.nodup_append] at h2
  exact h2.2.2 _ h _ (List.mem_of_getElem? (i := 0) (by rw [List.getElem?_drop, Nat.add_zero]; exact hx)) rfl
theorem fit_of {sg : Nat → Nat → ByteArray} (hok : TaskOk t) (hp : FactsPerm t w) (hs : SgOk t sg w) {k : Nat} {x : Pn} (hx : (allP t)[k]? = some x) : fitB t sg (zsOf t w k) x (imP w x) = true := by
  have hin : InP t x := mem_allP.1 (List.mem_of_getElem? hx)
  have hT : Tf (zsOf t w k) (imP w x).1 (imP w x).2 = false := Tf_f.2 fun z hz e => by
    rw [(mem_zsOf hz).1] at e
    have := imP_inj hok hp (zsOf_in hz) hin e
    exact not_take hx (this ▸ (mem_zsOf hz).2)
  unfold fitB
  rw [if_neg (by rw [hT, hs x hin]; simp)]
  by_cases hv : 0 ≤ Vf (zsOf t w k) x.1
  · rw [if_pos hv]
    obtain ⟨z, hz, e1, e2⟩ := Vf_pos (by omega : ¬ Vf (zsOf t w k) x.1 < 0)
    rw [e2, (mem_zsOf hz).1, (imP_var hok hp (zsOf_in hz) hin).1 e1]
    simp
  · rw [if_neg hv]
    have hU : Uf (zsOf t w k) (imP w x).1 = false := Uf_f.2 fun z hz e => by
      rw [(mem_zsOf hz).1] at e
      exact Vf_neg.1 (by omega) z hz ((imP_var hok hp (zsOf_in hz) hin).2 e)
    obtain ⟨_, _, _, _, _, h, _⟩ := imP_get hok hp hin
    rw [hU, h]
    simp
end
section
variable {t : Tsk} {sg : Nat → Nat → ByteArray} {leaf : Zs → Option Swp} {M : Nat} {w : Swp}
theorem goL_none {fit : Pn → Bool} {sub : Pn → Nat → Rs} : ∀ (l : List Pn) (s : Nat), (goL M fit sub l s).1 = none → (goL M fit sub l s).2.2 = false → ∀ y ∈ l, fit y = true → ∃ s', (sub y s').1 = none ∧ (sub y s').2.2 = false
  | [], _, _, _, y, hy, _ => by simp at hy
  | y :: l, s, h1, h2, z, hz, hf => by
    unfold goL at h1 h2
    by_cases hy : fit y = true
    · rw [if_pos hy] at h1 h2
      by_cases hM : M ≤ s
      · rw [if_pos hM] at h2; cases h2
      · rw [if_neg hM] at h1 h2
        by_cases hq : (sub y (s + 1)).1.isSome = true ∨ (sub y (s + 1)).2.2 = true
        · rw [if_pos hq] at h1 h2
          rcases hq with hq | hq
          · rw [h1] at hq; cases hq
          · rw [h2] at hq; cases hq
        · rw [if_neg hq] at h1 h2
          rcases List.mem_cons.1 hz with e | hz
          · subst e
            refine ⟨s + 1, ?_, ?_⟩
            · cases h : (sub z (s + 1)).1 with
              | none => rfl
              | some v => exact absurd (.inl (by rw [h]; rfl)) hq
            · cases h : (sub z (s + 1)).2.2 with
              | false => rfl
              | true => exact absurd (.inr h) hq
          · exact goL_none l _ h1 h2 z hz hf
    · rw [if_neg hy] at h1 h2
      rcases List.mem_cons.1 hz with e | hz
      · subst e; exact absurd hf hy
      · exact goL_none l _ h1 h2 z hz hf
theorem ext_none (hok : TaskOk t) (hp : FactsPerm t w) (hs : SgOk t sg w) : ∀ (d k s : Nat), k + d = (allP t).length → (ext t sg leaf M d (zsOf t w k) s).1 = none → (ext t sg leaf M d (zsOf t w k) s).2.2 = false → leaf (zsOf t w (allP t).length) = none
  | 0, k, s, hk, h1, _ => by
    have : k = (allP t).length := by omega
    subst this
    exact h1
  | d + 1, k, s, hk, h1, h2 => by
    have hl := zsOf_len (t := t) (w := w) (k := k) (by omega)
    have hx : (allP t)[k]? = some (xAt t (zsOf t w k)) := by
      have := xAt_get (t := t) (zs := zsOf t w k) (by omega)
      rwa [hl] at this
    have hin : InP t (xAt t (zsOf t w k)) := mem_allP.1 (List.mem_of_getElem? hx)
    obtain ⟨s', h3, h4⟩ := goL_none _ _ h1 h2 (imP w (xAt t (zsOf t w k))) (mem_allP.2 (imP_in hok hp hin)) (fit_of hok hp hs hx)
    rw [← zsOf_succ hx] at h3 h4
    exact ext_none hok hp hs d (k + 1) s' (by omega) h3 h4
end
section
variable {t : Tsk} {w : Swp}
theorem swF_of (hok : TaskOk t) (hp : FactsPerm t w) : swF t (zsOf t w (allP t).length) = ⟨w.vars, w.vals, []⟩ := by
  have hz := Gz_of hok hp (Nat.le_refl (allP t).length)
  have hm : ∀ p, InP t p → (p, imP w p) ∈ zsOf t w (allP t).length := fun p h => List.mem_map.2 ⟨p, by rw [List.take_length]; exact mem_allP.2 h, rfl⟩
  have h1 : rowT t (Vf (zsOf t w (allP t).length)) = w.vars := List.ext_getElem? fun v => by
    by_cases hv : v < t.vars.length
    · have := rowT_at (t := t) (Vf (zsOf t w (allP t).length)) hv
      rw [atI_eq] at this
      have hin : InP t (v, 0) := ⟨hv, (szT_pos hok hv).1⟩
      obtain ⟨l, q1, _⟩ := imP_get hok hp hin
      rw [this, q1, Vf_at hz (hm _ hin)]
    · rw [List.getElem?_eq_none (by simp [rowT]; omega), List.getElem?_eq_none (by rw [hp.1.len]; omega)]
  have h2 : gridT t (Wf (zsOf t w (allP t).length)) = w.vals := List.ext_getElem? fun v => by
    by_cases hv : v < t.vars.length
    · have := gridT_at (t := t) (Wf (zsOf t w (allP t).length)) hv
      rw [atI_eq] at this
      have hin : InP t (v, 0) := ⟨hv, (szT_pos hok hv).1⟩
      obtain ⟨l, _, q2, _, q4, _⟩ := imP_get hok hp hin
      rw [this, q2]
      congr 1
      refine List.ext_getElem? fun a => ?_
      by_cases ha : a < szT t v
      · have hia : InP t (v, a) := ⟨hv, ha⟩
        obtain ⟨l', _, r2, r3, _⟩ := imP_get hok hp hia
        rw [q2] at r2
        injection r2 with r2
        subst r2
        rw [List.getElem?_map, List.getElem?_range ha, r3]
        show some (Wf (zsOf t w (allP t).length) v a) = _
        rw [Wf_at hz (hm _ hia)]
      · rw [List.getElem?_eq_none (by simp; omega), List.getElem?_eq_none (by rw [q4.len]; show szT t v ≤ a; omega)]
    · rw [List.getElem?_eq_none (by simp [gridT, rowT]; omega), List.getElem?_eq_none (by rw [hp.2.1]; omega)]
  unfold swF
  rw [h1, h2]
theorem leafC_sound (hok : TaskOk t) {zs : Zs} (hz : Gz t zs) (hl : zs.length = (allP t).length) (h : leafC t zs = some w) : SymP t w ∧ opsC t ⟨w.vars, w.vals, []⟩ = some w.ops ∧ ∀ z ∈ zs, imP w z.1 = z.2 := by
  have hp := swF_perm hok hz hl
  unfold leafC at h
  split at h
  · rename_i l hop
    split at h
    · rename_i hg
      injection h with h
      subst h
      obtain ⟨tk, hi, hlen⟩ := opsL_sound t.ops _ [] l (OpI.nil t (swF t zs)) rfl (by simp) hop
      refine ⟨⟨hp, permR_of hi.nod (fun a ha => ?_) hlen, bof_true hg, fun k hk => ?_⟩, hop, fun z hzz => imP_swF hok hz hl hzz⟩
      · obtain ⟨j, hj⟩ := List.getElem?_of_mem ha
        obtain ⟨o, p, k, e, _, h3, _⟩ := hi.mat j a hj
        have := lt_of_get h3
        omega
      · obtain ⟨a, ha⟩ := some_of_lt (l := l) (k := k) (by omega)
        obtain ⟨o, p, k', e, h2, h3, h4⟩ := hi.mat k a ha
        exact ⟨o, p, a, h2, ha, by rw [e, atI_eq, h3], h4⟩
    · cases h
  · cases h
theorem leafC_full (hok : TaskOk t) (h : SymF t w) : leafC t (zsOf t w (allP t).length) ≠ none := by
  obtain ⟨ops, hs⟩ := h
  have hsw := swF_of hok (w := w) hs.1
  unfold leafC
  rw [hsw]
  have hg : imL ⟨w.vars, w.vals, []⟩ t.goal = t.goal := hs.2.2.1
  obtain ⟨l, hl⟩ := opsL_full (t := t) (x := ⟨w.vars, w.vals, []⟩) (π := fun i => ((ops[i]?).getD 0).toNat) (fun i j hi hj e => by
    obtain ⟨_, _, a, _, h2, ha, _⟩ := ops_cases hs hi
    obtain ⟨_, _, b, _, h2', hb, _⟩ := ops_cases hs hj
    have h2 : ops[i]? = some (a : Int) := h2
    have h2' : ops[j]? = some (b : Int) := h2'
    simp only [h2, h2', Option.getD_some, Int.toNat_natCast] at e
    subst e
    exact perm_inj hs.2.1 h2 h2') (fun i o ho => by
    obtain ⟨o', p, a, h1, h2, ha, h3, h4⟩ := ops_cases hs (lt_of_get ho)
    have h2 : ops[i]? = some (a : Int) := h2
    rw [ho] at h1
    injection h1 with h1
    subst h1
    exact ⟨p, by simp only [h2, Option.getD_some, Int.toNat_natCast]; exact h3, h4⟩) t.ops _ [] (OpI.nil t _) rfl (by simp)
  have : opsC t ⟨w.vars, w.vals, []⟩ = some l := hl
  rw [this]
  simp only []
  rw [if_pos (bof_t hg)]
  exact fun h => nomatch h
end
/-- Maps of facts made of generators. -/
inductive Wd (g : List Swp) : (Pn → Pn) → Prop
  | one : Wd g id
  | step {π : Pn → Pn} {a : Swp} : Wd g π → a ∈ g → Wd g fun p => imP a (π p)
section
variable {t : Tsk} {g g' : List Swp}
theorem Wd.mono (h : ∀ a ∈ g, a ∈ g') {π : Pn → Pn} (hw : Wd g π) : Wd g' π := by
  induction hw with
  | one => exact .one
  | step _ ha ih => exact .step ih (h _ ha)
theorem Wd.comp {π ρ : Pn → Pn} (h : Wd g π) (h' : Wd g ρ) : Wd g fun p => π (ρ p) := by
  induction h with
  | one => exact h'
  | step _ ha ih => exact .step ih ha
theorem reach_wd {x y : Pn} (h : Reach g x y) : ∃ π, Wd g π ∧ π x = y := by
  induction h with
  | one => exact ⟨id, .one, rfl⟩
  | step _ ha ih =>
    obtain ⟨π, h1, h2⟩ := ih
    exact ⟨_, .step h1 ha, by rw [h2]⟩
theorem Reach.mono (h : ∀ a ∈ g, a ∈ g') {x y : Pn} (hr : Reach g x y) : Reach g' x y := by
  induction hr with
  | one => exact .one
  | step _ ha ih => exact .step ih (h _ ha)
theorem imP_fc {w : Swp} {p : Pn} (hok : TaskOk t) (hp : FactsPerm t w) (h : InP t p) : imF w (fc p) = fc (imP w p) := by
  obtain ⟨_, _, _, _, h⟩ := imP_at hok hp h
  exact h
theorem imP_id {p : Pn} (hok : TaskOk t) (h : InP t p) : imP (idX t) p = p := fc_inj (by rw [← imP_fc hok (id_perm hok) h, id_fact hok (h.ok hok)])
theorem imP_comp {x y : Swp} {p : Pn} (hok : TaskOk t) (hx : FactsPerm t x) (hy : FactsPerm t y) (h : InP t p) : imP (compX x y) p = imP y (imP x p) := fc_inj (by
  rw [← imP_fc hok (comp_perm hx hy) h, comp_fact hok hx hy (h.ok hok), imP_fc hok hx h, imP_fc hok hy (imP_in hok hx h)])
theorem imP_inv {x : Swp} {p : Pn} (hok : TaskOk t) (hx : FactsPerm t x) (h : InP t p) : imP (invN x) (imP x p) = p := fc_inj (by
  rw [← imP_fc hok (invn_perm hok hx) (imP_in hok hx h), ← imP_fc hok hx h, invn_fact hok hx (h.ok hok)])
/-- A map made of generators is a symmetry. -/
theorem Wd.sym (hok : TaskOk t) (hg : ∀ a ∈ g, SymP t a) {π : Pn → Pn} (h : Wd g π) : ∃ H, SymP t H ∧ ∀ p, InP t p → imP H p = π p := by
  induction h with
  | one => exact ⟨idX t, id_sym hok, fun p hp => imP_id hok hp⟩
  | @step π a _ ha ih =>
    obtain ⟨H, h1, h2⟩ := ih
    exact ⟨compX H a, comp_sym hok h1 (hg a ha), fun p hp => by rw [imP_comp hok h1.1 (hg a ha).1 hp, h2 p hp]⟩
theorem Wd.fix {k : Nat} (hg : ∀ a ∈ g, Fix t k a) {π : Pn → Pn} (h : Wd g π) : ∀ p ∈ (allP t).take k, π p = p := by
  induction h with
  | one => exact fun p _ => rfl
  | @step π a _ ha ih => exact fun p hp => by show imP a (π p) = p; rw [ih p hp]; exact hg a ha p hp
end
end
section
open Go Go.RowKit
abbrev Nt := ByteArray × Fct
noncomputable def cntN (ns : List Nt) (a : ByteArray) (f : Fct) : Nat := ns.countP fun n => bof (n = (a, f))
theorem cntN_le (ns : List Nt) (a : ByteArray) (f : Fct) : cntN ns a f ≤ ns.length := List.countP_le_length
theorem cntN_snoc (ns : List Nt) (n : Nt) (a : ByteArray) (f : Fct) : cntN (ns ++ [n]) a f = cntN ns a f + if n = (a, f) then 1 else 0 := by
  unfold cntN
  rw [List.countP_append, List.countP_cons, List.countP_nil]
  by_cases h : n = (a, f)
  · rw [if_pos h, bof_t h]; rfl
  · rw [if_neg h, bof_f h]; rfl
abbrev Cs := List (ByteArray × List (Fct × Int))
theorem mgetO_mput : ∀ (m : Cs) (k k' : ByteArray) (v : List (Fct × Int)), mgetO (mput m k v) k' = if k = k' then some v else mgetO m k'
  | [], k, k', v => by simp [mput, mgetO]
  | p :: r, k, k', v => by
    by_cases h : p.1 = k
    · subst h
      by_cases h2 : p.1 = k' <;> simp [mput, mgetO, h2]
    · have ih := mgetO_mput r k k' v
      by_cases h2 : p.1 = k'
      · have : ¬ k = k' := fun e => h (h2.trans e.symm)
        rw [mput, if_neg h, mgetO, if_pos h2, mgetO, if_pos h2, if_neg this]
      · rw [mput, if_neg h, mgetO, if_neg h2, mgetO, if_neg h2, ih]
theorem mhas_O (m : Cs) (a : ByteArray) : mhas m a = (mgetO m a).isSome := by
  rcases mgetO_spec m a with ⟨_, h1, h2⟩ | ⟨_, _, _, _, _, h1, h2⟩ <;> rw [h1, h2] <;> rfl
/-- What is noted so far. -/
structure NI (ns : List Nt) (m : Cs) (names : List ByteArray) : Prop where
  get : ∀ a v, mgetO m a = some v → ∀ f, fget 0 v f = (cntN ns a f : Int)
  non : ∀ a, mgetO m a = none → ∀ f, cntN ns a f = 0
  nam : ∀ a ∈ names, mgetO m a ≠ none
  len : names.length ≤ ns.length
theorem NI.nil : NI [] [] [] := ⟨fun a v h => by simp [mgetO] at h, fun _ _ _ => rfl, by simp, by simp⟩
theorem note_eq {ns : List Nt} {m : Cs} {names : List ByteArray} (h : NI ns m names) (hl : ns.length ≤ 1000000) (a : ByteArray) (f : Fct) : ∃ m' names', m_symmetry_finder_roles_l2 a f ⟨⟨m⟩⟩ ⟨names⟩ = some (⟨⟨m'⟩⟩, ⟨names'⟩) ∧ NI (ns ++ [(a, f)]) m' names' := by
  unfold m_symmetry_finder_roles_l2
  have key : ∀ (m1 : Cs) (names1 : List ByteArray) (v : List (Fct × Int)), mgetO m1 a = some v → (∀ b v, mgetO m1 b = some v → ∀ f, fget 0 v f = (cntN ns b f : Int)) → (∀ b, mgetO m1 b = none → ∀ f, cntN ns b f = 0) → (∀ b ∈ names1, mgetO m1 b ≠ none) → names1.length ≤ ns.length + 1 →
      ∃ m' names', (bnd (mgetO m1 a) fun m86 => bnd (chkI ((fget 0 m86 f) + 1)) fun n88 => some ((⟨(⟨mput m1 a (fput m86 f n88)⟩ : MapM)⟩ : BxM), (⟨names1⟩ : BxR 80 9 ByteArray))) = some (⟨⟨m'⟩⟩, ⟨names'⟩) ∧ NI (ns ++ [(a, f)]) m' names' := by
    intro m1 names1 v hv hg hn hm hl1
    have hc := cntN_le ns a f
    have hgf := hg a v hv f
    rw [hv, bnd_some, chkI_eq (by unfold inI64; rw [hgf]; omega), bnd_some]
    refine ⟨_, _, rfl, ⟨fun b u hb g => ?_, fun b hb g => ?_, fun b hb => ?_, by simpa using hl1⟩⟩
    · rw [mgetO_mput] at hb
      rw [cntN_snoc]
      by_cases e : a = b
      · subst e
        rw [if_pos rfl] at hb
        injection hb with hb
        subst hb
        rw [fget_fput]
        by_cases e2 : f = g
        · subst e2
          rw [if_pos rfl, if_pos rfl, hgf]; rfl
        · rw [if_neg e2, if_neg (fun e => e2 (congrArg Prod.snd e)), hg a v hv g]; rfl
      · rw [if_neg e] at hb
        rw [if_neg (fun h => e (congrArg Prod.fst h)), hg b u hb g]; rfl
    · rw [mgetO_mput] at hb
      by_cases e : a = b
      · rw [if_pos e] at hb; cases hb
      · rw [if_neg e] at hb
        rw [cntN_snoc, if_neg (fun h => e (congrArg Prod.fst h)), hn b hb g]
    · rw [mgetO_mput]
      by_cases e : a = b
      · rw [if_pos e]; exact fun h => nomatch h
      · rw [if_neg e]; exact hm b hb
  cases hv : mgetO m a with
  | some v =>
    have hh : mhas m a = true := by rw [mhas_O, hv]; rfl
    simp only [hh]
    rw [if_neg (by decide), bnd_some]
    exact key m names v hv h.get h.non h.nam (by have := h.len; omega)
  | none =>
    have hh : mhas m a = false := by rw [mhas_O, hv]; rfl
    have := h.len
    simp only [hh]
    rw [if_pos (by decide), appI_eq (by simp; omega) (by simp; omega), bnd_some, bnd_some]
    refine key (mput m a []) (names ++ [a]) [] (by rw [mgetO_mput, if_pos rfl]) (fun b v hb g => ?_) (fun b hb g => ?_) (fun b hb => ?_) (by simp; omega)
    · rw [mgetO_mput] at hb
      by_cases e : a = b
      · subst e
        rw [if_pos rfl] at hb
        injection hb with hb
        subst hb
        rw [h.non a hv g]; rfl
      · rw [if_neg e] at hb; exact h.get b v hb g
    · rw [mgetO_mput] at hb
      by_cases e : a = b
      · rw [if_pos e] at hb; cases hb
      · rw [if_neg e] at hb; exact h.non b hb g
    · rw [mgetO_mput]
      by_cases e : a = b
      · rw [if_pos e]; exact fun h => nomatch h
      · rw [if_neg e]
        rcases List.mem_append.1 hb with hb | hb
        · exact h.nam b hb
        · simp at hb; exact absurd hb.symm e
abbrev NS := BxM × (BxR 80 9 ByteArray)
def NIs (ns : List Nt) (s : NS) : Prop := NI ns s.1.l.l s.2.l
theorem note_s {ns : List Nt} {s : NS} (h : NIs ns s) (hl : ns.length ≤ 1000000) (a : ByteArray) (f : Fct) : ∃ s' : NS, m_symmetry_finder_roles_l2 a f s.1 s.2 = some s' ∧ NIs (ns ++ [(a, f)]) s' := by
  obtain ⟨⟨⟨m⟩⟩, ⟨names⟩⟩ := s
  obtain ⟨m', names', h1, h2⟩ := note_eq h hl a f
  exact ⟨_, h1, h2⟩
def kd (o : Opr) : ByteArray := itoaF o.cost ++ (⟨#[32]⟩ : ByteArray) ++ itoaF (o.pre.length : Int) ++ (⟨#[32]⟩ : ByteArray) ++ itoaF (o.effs.length : Int)
def preB : ByteArray := ⟨#[32, 112, 114, 101]⟩
def effB : ByteArray := ⟨#[32, 101, 102, 102, 32]⟩
def whenB : ByteArray := ⟨#[32, 119, 104, 101, 110, 32]⟩
def noteE (c : ByteArray) (k : Nat) (e : Eff) : List Nt := (c ++ effB ++ itoaF (k : Int), ⟨e.var, e.val⟩) :: e.cond.map fun f => (c ++ whenB ++ itoaF (k : Int), f)
def notesE (c : ByteArray) : List Eff → Nat → List Nt
  | [], _ => []
  | e :: es, k => noteE c k e ++ notesE c es (k + 1)
def notesO (o : Opr) : List Nt := o.pre.map (fun f => (kd o ++ preB, f)) ++ notesE (kd o) o.effs 0
theorem catI_eq {a b : ByteArray} (h : a.size + b.size ≤ 9223372036854775807) : catI a b = some (a ++ b) := if_pos h
theorem notesE_snoc (c : ByteArray) (e : Eff) : ∀ (l : List Eff) (j : Nat), notesE c (l ++ [e]) j = notesE c l j ++ noteE c (j + l.length) e
  | [], j => by simp [notesE]
  | a :: l, j => by
    rw [List.cons_append, notesE, notesE_snoc c e l (j + 1), notesE, List.append_assoc]
    have : j + 1 + l.length = j + (a :: l).length := by simp; omega
    rw [this]
theorem noteE_len (c : ByteArray) (k : Nat) (e : Eff) : (noteE c k e).length = e.cond.length + 1 := by simp [noteE]
theorem notesE_len (c : ByteArray) : ∀ (l : List Eff) (j : Nat), (∀ e ∈ l, e.cond.length ≤ 64) → (notesE c l j).length ≤ 65 * l.length
  | [], _, _ => Nat.le_refl _
  | e :: l, j, h => by
    have h1 := h e List.mem_cons_self
    have ih := notesE_len c l (j + 1) fun q hq => h q (List.mem_cons_of_mem _ hq)
    rw [notesE, List.length_append, noteE_len, List.length_cons]
    omega
/-- Operators that are not too large. -/
def LitO (o : Opr) : Prop := o.pre.length ≤ 64 ∧ o.effs.length ≤ 64 ∧ (∀ e ∈ o.effs, e.cond.length ≤ 64) ∧ inI64 o.cost
theorem notesO_len {o : Opr} (h : LitO o) : (notesO o).length ≤ 4224 := by
  have := notesE_len (kd o) o.effs 0 h.2.2.1
  obtain ⟨h1, h2, _⟩ := h
  unfold notesO
  rw [List.length_append, List.length_map]
  omega
theorem itoa_n {n : Nat} (h : n ≤ 1000000) : (itoaF (n : Int)).size ≤ 21 := itoaF_size (by unfold inI64; omega)
theorem kd_size {o : Opr} (h : LitO o) : (kd o).size ≤ 65 := by
  have h1 := itoaF_size h.2.2.2
  have h2 := itoa_n (n := o.pre.length) (by have := h.1; omega)
  have h3 := itoa_n (n := o.effs.length) (by have := h.2.1; omega)
  have e : (⟨#[32]⟩ : ByteArray).size = 1 := rfl
  unfold kd
  simp only [ByteArray.size_append, e]
  omega
theorem notes_pre {ρ : Type} {c : ByteArray} {l : List Fct} {ns : List Nt} {s : NS} (hc : c.size ≤ 1000) (hs : NIs ns s) (hl : ns.length + l.length ≤ 1000000) :
    ∃ s', rng (ρ := ρ) (fun (k198 : Nat) (a199 : Fct) (s196 : BxM × (BxR 80 9 ByteArray)) => bnd (catI c (⟨#[32, 112, 114, 101]⟩ : ByteArray)) fun n229 => bnd (m_symmetry_finder_roles_l2 n229 a199 s196.1 s196.2) fun q231 => some (.next (q231.1, q231.2))) l 0 (s.1, s.2) = some (.done s') ∧ NIs (ns ++ l.map fun f => (c ++ preB, f)) s' := by
  obtain ⟨s', h1, h2⟩ := rng_all (ρ := ρ) (f := fun (k198 : Nat) (a199 : Fct) (s196 : BxM × (BxR 80 9 ByteArray)) => bnd (catI c (⟨#[32, 112, 114, 101]⟩ : ByteArray)) fun n229 => bnd (m_symmetry_finder_roles_l2 n229 a199 s196.1 s196.2) fun q231 => some (.next (q231.1, q231.2))) (xs := l) (s₀ := (s.1, s.2)) (fun k s => NIs (ns ++ (l.take k).map fun f => (c ++ preB, f)) s) (by simpa using hs) (fun k f s hf hs => by
    have hk := lt_of_get hf
    obtain ⟨s1, q1, q2⟩ := note_s hs (by simp; omega) (c ++ preB) f
    have e : (⟨#[32, 112, 114, 101]⟩ : ByteArray).size = 4 := rfl
    rw [catI_eq (by rw [e]; omega), bnd_some, show m_symmetry_finder_roles_l2 (c ++ (⟨#[32, 112, 114, 101]⟩ : ByteArray)) f s.1 s.2 = _ from q1, bnd_some]
    exact ⟨_, rfl, by rw [map_take hf, ← List.append_assoc]; exact q2⟩)
  rw [List.take_length] at h2
  exact ⟨s', h1, h2⟩
theorem notes_when {ρ : Type} {c : ByteArray} {j : Nat} (hj : j ≤ 1000000) {l : List Fct} {ns : List Nt} {s : NS} (hc : c.size ≤ 1000) (hs : NIs ns s) (hl : ns.length + l.length ≤ 1000000) :
    ∃ s', rng (ρ := ρ) (fun (k314 : Nat) (a315 : Fct) (s312 : BxM × (BxR 80 9 ByteArray)) => bnd (catI c (⟨#[32, 119, 104, 101, 110, 32]⟩ : ByteArray)) fun n345 => bnd (m_strconv_Itoa (j : Int)) fun q347 => bnd (catI n345 q347) fun n355 => bnd (m_symmetry_finder_roles_l2 n355 a315 s312.1 s312.2) fun q357 => some (.next (q357.1, q357.2))) l 0 (s.1, s.2) = some (.done s') ∧ NIs (ns ++ l.map fun f => (c ++ whenB ++ itoaF (j : Int), f)) s' := by
  obtain ⟨s', h1, h2⟩ := rng_all (ρ := ρ) (f := fun (k314 : Nat) (a315 : Fct) (s312 : BxM × (BxR 80 9 ByteArray)) => bnd (catI c (⟨#[32, 119, 104, 101, 110, 32]⟩ : ByteArray)) fun n345 => bnd (m_strconv_Itoa (j : Int)) fun q347 => bnd (catI n345 q347) fun n355 => bnd (m_symmetry_finder_roles_l2 n355 a315 s312.1 s312.2) fun q357 => some (.next (q357.1, q357.2))) (xs := l) (s₀ := (s.1, s.2)) (fun k s => NIs (ns ++ (l.take k).map fun f => (c ++ whenB ++ itoaF (j : Int), f)) s) (by simpa using hs) (fun k f s hf hs => by
    have hk := lt_of_get hf
    obtain ⟨s1, q1, q2⟩ := note_s hs (by simp; omega) (c ++ whenB ++ itoaF (j : Int)) f
    have e : (⟨#[32, 119, 104, 101, 110, 32]⟩ : ByteArray).size = 6 := rfl
    have hi := itoa_n hj
    rw [catI_eq (by rw [e]; omega), bnd_some, show m_strconv_Itoa (j : Int) = some (itoaF (j : Int)) from rfl, bnd_some, catI_eq (by rw [ByteArray.size_append, e]; omega), bnd_some, show m_symmetry_finder_roles_l2 (c ++ (⟨#[32, 119, 104, 101, 110, 32]⟩ : ByteArray) ++ itoaF (j : Int)) f s.1 s.2 = _ from q1, bnd_some]
    exact ⟨_, rfl, by rw [map_take hf, ← List.append_assoc]; exact q2⟩)
  rw [List.take_length] at h2
  exact ⟨s', h1, h2⟩
theorem take_snoc {α : Type} {l : List α} {k : Nat} {x : α} (h : l[k]? = some x) : l.take (k + 1) = l.take k ++ [x] := by rw [List.take_add_one, h]; rfl
noncomputable def opsF (kinds : List Opr) : Nat → Opr → NS → Option (Ctl NS Fnd) := fun (k115 : Nat) (_ : Opr) (s113 : BxM × (BxR 80 9 ByteArray)) => bnd (kinds[k115]?) fun a130 => bnd (m_strconv_Itoa a130.cost) fun q160 => bnd (catI q160 (⟨#[32]⟩ : ByteArray)) fun n168 => bnd (m_strconv_Itoa (a130.pre.length : Int)) fun q170 => bnd (catI n168 q170) fun n178 => bnd (catI n178 (⟨#[32]⟩ : ByteArray)) fun n180 => bnd (m_strconv_Itoa (a130.effs.length : Int)) fun q182 => bnd (catI n180 q182) fun n190 => bnd (rng (ρ := Ctl (BxM × (BxR 80 9 ByteArray)) Fnd) (fun (k198 : Nat) (a199 : Fct) (s196 : BxM × (BxR 80 9 ByteArray)) => bnd (catI n190 (⟨#[32, 112, 114, 101]⟩ : ByteArray)) fun n229 => bnd (m_symmetry_finder_roles_l2 n229 a199 s196.1 s196.2) fun q231 => some (.next (q231.1, q231.2))) a130.pre 0 (s113.1, s113.2)) fun res194 => fin res194 fun (s244 : BxM × (BxR 80 9 ByteArray)) => bnd (rng (ρ := Ctl (BxM × (BxR 80 9 ByteArray)) Fnd) (fun (k252 : Nat) (a253 : Eff) (s250 : BxM × (BxR 80 9 ByteArray)) => bnd (catI n190 (⟨#[32, 101, 102, 102, 32]⟩ : ByteArray)) fun n287 => bnd (m_strconv_Itoa (k252 : Int)) fun q289 => bnd (catI n287 q289) fun n297 => bnd (m_symmetry_finder_roles_l2 n297 (⟨a253.var, a253.val⟩ : Fct) s250.1 s250.2) fun q299 => bnd (rng (ρ := Ctl (BxM × (BxR 80 9 ByteArray)) (Ctl (BxM × (BxR 80 9 ByteArray)) Fnd)) (fun (k314 : Nat) (a315 : Fct) (s312 : BxM × (BxR 80 9 ByteArray)) => bnd (catI n190 (⟨#[32, 119, 104, 101, 110, 32]⟩ : ByteArray)) fun n345 => bnd (m_strconv_Itoa (k252 : Int)) fun q347 => bnd (catI n345 q347) fun n355 => bnd (m_symmetry_finder_roles_l2 n355 a315 s312.1 s312.2) fun q357 => some (.next (q357.1, q357.2))) a253.cond 0 (q299.1, q299.2)) fun res310 => fin res310 fun (s370 : BxM × (BxR 80 9 ByteArray)) => some (.next (s370.1, s370.2))) a130.effs 0 (s244.1, s244.2)) fun res248 => fin res248 fun (s376 : BxM × (BxR 80 9 ByteArray)) => some (.next (s376.1, s376.2))
theorem notes_op {kinds : List Opr} {k : Nat} {o x : Opr} {ns : List Nt} {s : NS} (ho : kinds[k]? = some o) (hL : LitO o) (hs : NIs ns s) (hl : ns.length + 4224 ≤ 1000000) : ∃ s', opsF kinds k x s = some (.next s') ∧ NIs (ns ++ notesO o) s' := by
  have hkd := kd_size hL
  have h1 := itoaF_size hL.2.2.2
  have h2 := itoa_n (n := o.pre.length) (by have := hL.1; omega)
  have h3 := itoa_n (n := o.effs.length) (by have := hL.2.1; omega)
  have e : (⟨#[32]⟩ : ByteArray).size = 1 := rfl
  have e5 : (⟨#[32, 101, 102, 102, 32]⟩ : ByteArray).size = 5 := rfl
  obtain ⟨s1, p1, p2⟩ := notes_pre (ρ := Ctl NS Fnd) (c := kd o) (l := o.pre) (by omega) hs (by have := hL.1; omega)
  have hEl := notesE_len (kd o) o.effs 0 hL.2.2.1
  obtain ⟨s2, p3, p4⟩ := rng_all (ρ := Ctl NS Fnd) (f := fun (k252 : Nat) (a253 : Eff) (s250 : BxM × (BxR 80 9 ByteArray)) => bnd (catI (kd o) (⟨#[32, 101, 102, 102, 32]⟩ : ByteArray)) fun n287 => bnd (m_strconv_Itoa (k252 : Int)) fun q289 => bnd (catI n287 q289) fun n297 => bnd (m_symmetry_finder_roles_l2 n297 (⟨a253.var, a253.val⟩ : Fct) s250.1 s250.2) fun q299 => bnd (rng (ρ := Ctl (BxM × (BxR 80 9 ByteArray)) (Ctl (BxM × (BxR 80 9 ByteArray)) Fnd)) (fun (k314 : Nat) (a315 : Fct) (s312 : BxM × (BxR 80 9 ByteArray)) => bnd (catI (kd o) (⟨#[32, 119, 104, 101, 110, 32]⟩ : ByteArray)) fun n345 => bnd (m_strconv_Itoa (k252 : Int)) fun q347 => bnd (catI n345 q347) fun n355 => bnd (m_symmetry_finder_roles_l2 n355 a315 s312.1 s312.2) fun q357 => some (.next (q357.1, q357.2))) a253.cond 0 (q299.1, q299.2)) fun res310 => fin res310 fun (s370 : BxM × (BxR 80 9 ByteArray)) => some (.next (s370.1, s370.2))) (xs := o.effs) (s₀ := (s1.1, s1.2))
    (fun k s => NIs ((ns ++ o.pre.map fun f => (kd o ++ preB, f)) ++ notesE (kd o) (o.effs.take k) 0) s) (by simpa [notesE] using p2) (fun j ef s hj hs => by
      have hjl := lt_of_get hj
      have hjl2 := hL.2.1
      have hpl := hL.1
      have htl := notesE_len (kd o) (o.effs.take j) 0 fun q hq => hL.2.2.1 q (List.mem_of_mem_take hq)
      rw [List.length_take] at htl
      have hcl := hL.2.2.1 ef (List.mem_of_getElem? hj)
      have hi := itoa_n (n := j) (by omega)
      obtain ⟨s1, q1, q2⟩ := note_s hs (by simp only [List.length_append, List.length_map]; omega) (kd o ++ effB ++ itoaF (j : Int)) ⟨ef.var, ef.val⟩
      obtain ⟨s2, q3, q4⟩ := notes_when (ρ := Ctl NS (Ctl NS Fnd)) (c := kd o) (j := j) (by omega) (l := ef.cond) (by omega) q2 (by simp only [List.length_append, List.length_map, List.length_singleton]; omega)
      rw [show m_strconv_Itoa (j : Int) = some (itoaF (j : Int)) from rfl] at q3
      rw [catI_eq (by rw [e5]; omega), bnd_some, show m_strconv_Itoa (j : Int) = some (itoaF (j : Int)) from rfl, bnd_some, catI_eq (by rw [ByteArray.size_append, e5]; omega), bnd_some, show m_symmetry_finder_roles_l2 (kd o ++ (⟨#[32, 101, 102, 102, 32]⟩ : ByteArray) ++ itoaF (j : Int)) ⟨ef.var, ef.val⟩ s.1 s.2 = _ from q1, bnd_some, q3, bnd_some, fin_d]
      refine ⟨_, rfl, ?_⟩
      have : notesE (kd o) (o.effs.take (j + 1)) 0 = notesE (kd o) (o.effs.take j) 0 ++ noteE (kd o) j ef := by
        rw [take_snoc hj, notesE_snoc, List.length_take, Nat.zero_add, Nat.min_eq_left (by omega)]
      rw [this]
      simpa [noteE] using q4)
  rw [List.take_length] at p4
  refine ⟨s2, ?_, by unfold notesO; rw [← List.append_assoc]; exact p4⟩
  unfold opsF
  rw [ho, bnd_some, show m_strconv_Itoa o.cost = some (itoaF o.cost) from rfl, bnd_some, catI_eq (by rw [e]; omega), bnd_some, show m_strconv_Itoa (o.pre.length : Int) = some (itoaF (o.pre.length : Int)) from rfl, bnd_some, catI_eq (by rw [ByteArray.size_append, e]; omega), bnd_some, catI_eq (by rw [ByteArray.size_append, ByteArray.size_append, e]; omega), bnd_some, show m_strconv_Itoa (o.effs.length : Int) = some (itoaF (o.effs.length : Int)) from rfl, bnd_some, catI_eq (by simp only [ByteArray.size_append, e]; omega), bnd_some]
  show bnd (rng (fun (k198 : Nat) (a199 : Fct) (s196 : BxM × (BxR 80 9 ByteArray)) => bnd (catI (kd o) (⟨#[32, 112, 114, 101]⟩ : ByteArray)) fun n229 => bnd (m_symmetry_finder_roles_l2 n229 a199 s196.1 s196.2) fun q231 => some (.next (q231.1, q231.2))) o.pre 0 (s.1, s.2)) _ = _
  rw [p1, bnd_some, fin_d]
  show bnd (rng (fun (k252 : Nat) (a253 : Eff) (s250 : BxM × (BxR 80 9 ByteArray)) => bnd (catI (kd o) (⟨#[32, 101, 102, 102, 32]⟩ : ByteArray)) fun n287 => bnd (m_strconv_Itoa (k252 : Int)) fun q289 => bnd (catI n287 q289) fun n297 => bnd (m_symmetry_finder_roles_l2 n297 (⟨a253.var, a253.val⟩ : Fct) s250.1 s250.2) fun q299 => bnd (rng (ρ := Ctl (BxM × (BxR 80 9 ByteArray)) (Ctl (BxM × (BxR 80 9 ByteArray)) Fnd)) (fun (k314 : Nat) (a315 : Fct) (s312 : BxM × (BxR 80 9 ByteArray)) => bnd (catI (kd o) (⟨#[32, 119, 104, 101, 110, 32]⟩ : ByteArray)) fun n345 => bnd (m_strconv_Itoa (k252 : Int)) fun q347 => bnd (catI n345 q347) fun n355 => bnd (m_symmetry_finder_roles_l2 n355 a315 s312.1 s312.2) fun q357 => some (.next (q357.1, q357.2))) a253.cond 0 (q299.1, q299.2)) fun res310 => fin res310 fun (s370 : BxM × (BxR 80 9 ByteArray)) => some (.next (s370.1, s370.2))) o.effs 0 (s1.1, s1.2)) _ = _
  rw [p3, bnd_some, fin_d]
theorem notes_ops {kinds : List Opr} (hL : ∀ o ∈ kinds, LitO o) (hl : kinds.length ≤ 20) : ∃ s : NS, rng (opsF kinds) kinds 0 ((⟨(⟨[]⟩ : MapM)⟩ : BxM), (⟨([] : List ByteArray)⟩ : BxR 80 9 ByteArray)) = some (.done s) ∧ NIs (kinds.flatMap notesO) s := by
  obtain ⟨s, h1, h2⟩ := rng_all (f := opsF kinds) (xs := kinds) (s₀ := ((⟨(⟨[]⟩ : MapM)⟩ : BxM), (⟨([] : List ByteArray)⟩ : BxR 80 9 ByteArray))) (fun k s => NIs ((kinds.take k).flatMap notesO) s ∧ ((kinds.take k).flatMap notesO).length ≤ 4224 * k) ⟨NI.nil, by simp⟩ (fun k o s ho ⟨hs, hn⟩ => by
    have hk := lt_of_get ho
    have hLo := hL o (List.mem_of_getElem? ho)
    obtain ⟨s', q1, q2⟩ := notes_op (x := o) ho hLo hs (by omega)
    have hlo := notesO_len hLo
    have : (kinds.take (k + 1)).flatMap notesO = (kinds.take k).flatMap notesO ++ notesO o := by rw [take_snoc ho, List.flatMap_append]; simp
    rw [this]
    exact ⟨s', q1, q2, by rw [List.length_append]; omega⟩)
  rw [List.take_length] at h2
  exact ⟨s, h1, h2.1⟩
end
section
open Go Go.RowKit
/-- The signs after the roles of some names. -/
noncomputable def sgA (t : Tsk) (ns : List Nt) : List ByteArray → (Nat → Nat → ByteArray) → Nat → Nat → ByteArray
  | [], sg => sg
  | a :: l, sg => sgA t ns l (addL sg (allP t) fun f => itoaF (cntN ns a f : Int))
theorem sgA_snoc (t : Tsk) (ns : List Nt) (a : ByteArray) : ∀ (l : List ByteArray) (sg : Nat → Nat → ByteArray), sgA t ns (l ++ [a]) sg = addL (sgA t ns l sg) (allP t) fun f => itoaF (cntN ns a f : Int)
  | [], _ => rfl
  | b :: l, sg => sgA_snoc t ns a l _
theorem addL_size {sg : Nat → Nat → ByteArray} {l : List Pn} {rl : Fct → ByteArray} {B R : Nat} (h : ∀ v a, (sg v a).size ≤ B) (hR : ∀ f, (rl f).size ≤ R) (v a : Nat) : (addL sg l rl v a).size ≤ B + (R + 1) := by
  have := h v a
  have h2 := hR (fc (v, a))
  have e : (⟨#[59]⟩ : ByteArray).size = 1 := rfl
  unfold addL
  split
  · rw [ByteArray.size_append, ByteArray.size_append, e]; omega
  · omega
theorem cnt_itoa {ns : List Nt} (h : ns.length ≤ 1000000) (a : ByteArray) (f : Fct) : (itoaF (cntN ns a f : Int)).size ≤ 21 := itoa_n (by have := cntN_le ns a f; omega)
theorem sgA_size {t : Tsk} {ns : List Nt} (hn : ns.length ≤ 1000000) : ∀ (l : List ByteArray) (sg : Nat → Nat → ByteArray) (B : Nat), (∀ v a, (sg v a).size ≤ B) → ∀ v a, (sgA t ns l sg v a).size ≤ B + 22 * l.length
  | [], _, _, h => h
  | b :: l, sg, B, h => fun v a => by
    have := sgA_size (t := t) hn l (addL sg (allP t) fun f => itoaF (cntN ns b f : Int)) (B + 22) (addL_size h (cnt_itoa hn b)) v a
    rw [sgA, List.length_cons]
    omega
theorem rng_same {α β σ ρ : Type} {f : Nat → α → σ → Option (Ctl σ ρ)} {g : Nat → β → σ → Option (Ctl σ ρ)} (h : ∀ k a b s, f k a s = g k b s) : ∀ {xs : List α} {ys : List β}, xs.length = ys.length → ∀ (k : Nat) (s : σ), rng f xs k s = rng g ys k s
  | [], [], _, _, _ => rfl
  | a :: xs, b :: ys, hl, k, s => by
    unfold rng
    rw [h k a b s]
    cases hg : g k b s with
    | none => rfl
    | some c =>
      cases c with
      | next s' => exact rng_same h (by simpa using hl) (k + 1) s'
      | brk s' => rfl
      | ret r => rfl
  | [], _ :: _, hl, _, _ => by simp at hl
  | _ :: _, [], hl, _, _ => by simp at hl
theorem roles_all {t : Tsk} (hok : TaskOk t) (ho : t.ops.length < 20) {sg : Nat → Nat → ByteArray} (hs : ∀ v a, (sg v a).size ≤ 1000) : ∃ ns q, ns.Perm (t.ops.flatMap notesO) ∧ ∀ s M fl, m_symmetry_finder_roles (mkF t sg [] s M fl) = some (mkF t (sgA t ns q sg) [] s M fl) := by
  obtain ⟨kinds, hk1, hk2⟩ := stable_some (l := t.ops) ho
  have hkl := hk2.length_eq
  have hL : ∀ o ∈ kinds, LitO o := fun o hm => by
    obtain ⟨i, hi⟩ := List.getElem?_of_mem (hk2.mem_iff.1 hm)
    have h := hok.2.2.2.2.2 i o hi
    exact ⟨facts_len hok h.2.2.2.2.1, h.2.2.1, fun e he => facts_len hok (effs_ok h e he).1, by unfold inI64; have := h.1; have := h.2.1; omega⟩
  obtain ⟨s1, h1, h2⟩ := notes_ops hL (by omega)
  have hnl : ((kinds.flatMap notesO)).length ≤ 100000 := by
    have : ∀ (l : List Opr), (∀ o ∈ l, LitO o) → (l.flatMap notesO).length ≤ 4224 * l.length := by
      intro l
      induction l with
      | nil => intro _; simp
      | cons o l ih =>
        intro hl
        have := notesO_len (hl o List.mem_cons_self)
        have := ih fun q hq => hl q (List.mem_cons_of_mem _ hq)
        rw [List.flatMap_cons, List.length_append, List.length_cons]
        omega
    have := this kinds hL
    omega
  generalize hns : kinds.flatMap notesO = ns at h2 hnl
  obtain ⟨⟨⟨m⟩⟩, ⟨names⟩⟩ := s1
  have hNI : NI ns m names := h2
  have hnm := hNI.len
  refine ⟨ns, sortT names, by rw [← hns]; exact hk2.flatMap_right _, fun s M fl => ?_⟩
  unfold m_symmetry_finder_roles
  have hcl : m_slices_Clone_Lapi_Op_api_Op t.ops = some t.ops := if_pos ⟨by omega, by omega⟩
  show bnd (m_slices_Clone_Lapi_Op_api_Op t.ops) _ = _
  rw [hcl, bnd_some, hk1, bnd_some]
  have hq : (sortT names).length = names.length := sortT_length names
  have hloop : rng (opsF kinds) t.ops 0 ((⟨(⟨[]⟩ : MapM)⟩ : BxM), (⟨([] : List ByteArray)⟩ : BxR 80 9 ByteArray)) = some (.done (⟨⟨m⟩⟩, ⟨names⟩)) := by
    rw [← h1]
    exact rng_same (f := opsF kinds) (g := opsF kinds) (xs := t.ops) (ys := kinds) (fun k a b s => rfl) hkl.symm 0 _
  unfold opsF at hloop
  rw [hloop, bnd_some, fin_d]
  show bnd (if names.length ≤ 1000000 then some (sortT names) else none) _ = _
  rw [if_pos (by omega), bnd_some]
  have hout := rng_from (ρ := Fnd) (f := fun (k413 : Nat) (_ : ByteArray) (s411 : Fnd) => bnd ((sortT names)[k413]?) fun a426 => bnd (rng (ρ := Ctl Fnd Fnd) (fun (_ : Nat) (a503 : Fct) (s500 : Fnd) => bnd (mgetO m a426) fun m541 => bnd (m_strconv_Itoa (fget 0 m541 a503)) fun q548 => bnd (m_symmetry_finder_sign s500 a503 q548) fun q556 => some (.next q556)) s411.list 0 s411) fun res498 => fin res498 fun (s573 : Fnd) => some (.next s573)) (xs := names) (s₀ := mkF t sg [] s M fl) (fun k => mkF t (sgA t ns ((sortT names).take k) sg) [] s M fl) rfl (fun k x hx => by
    have hk := lt_of_get hx
    obtain ⟨a0, ha⟩ := some_of_lt (l := sortT names) (k := k) (by omega)
    have hmem : a0 ∈ names := (sortT_perm names).mem_iff.1 (List.mem_of_getElem? ha)
    rw [ha, bnd_some]
    cases hv : mgetO m a0 with
    | none => exact absurd hv (hNI.nam a0 hmem)
    | some v =>
      have hF : (fun (_ : Nat) (a503 : Fct) (s500 : Fnd) => bnd (some v) fun m541 => bnd (m_strconv_Itoa (fget 0 m541 a503)) fun q548 => bnd (m_symmetry_finder_sign s500 a503 q548) fun q556 => some (Ctl.next (ρ := Ctl Fnd Fnd) q556)) = fun (_ : Nat) (a : Fct) (s : Fnd) => bnd (m_symmetry_finder_sign s a (itoaF (cntN ns a0 a : Int))) fun q => some (.next q) := by
        funext k b s'
        rw [bnd_some, hNI.get a0 v hv b]
        rfl
      have hsz := sgA_size (t := t) (ns := ns) (by omega) ((sortT names).take k) sg 1000 hs
      have := signs_loop (t := t) (s := s) (M := M) (fl := fl) (ρ := Ctl Fnd Fnd) (rl := fun f => itoaF (cntN ns a0 f : Int)) (R := 21) (B := 10000000) (cnt_itoa (by omega) a0) (by omega) (allP t) 0 (sgA t ns ((sortT names).take k) sg) (allP_nodup t) (fun x hx => mem_allP.1 hx) (fun x _ => by
        have := hsz x.1 x.2
        rw [List.length_take] at this
        omega)
      rw [hF]
      show bnd (rng _ ((allP t).map fc) 0 _) _ = _
      rw [this, bnd_some, fin_d, take_snoc ha, sgA_snoc])
  have e1 : (sortT names).take names.length = sortT names := List.take_of_length_le (by omega)
  rw [e1] at hout
  rw [hout, bnd_some, fin_d]
theorem imL_p (x : Swp) (l : List Fct) : (imL x l).Perm (l.map (imF x)) := srtF_perm _
def imN (x : Swp) (n : Nt) : Nt := (n.1, imF x n.2)
theorem noteE_im (x : Swp) (c : ByteArray) (k : Nat) (e : Eff) : (noteE c k (imE x e)).Perm ((noteE c k e).map (imN x)) := by
  unfold noteE
  rw [List.map_cons, List.map_map]
  refine List.Perm.cons _ ?_
  have := (imL_p x e.cond).map fun f => ((c ++ whenB ++ itoaF (k : Int), f) : Nt)
  rw [List.map_map] at this
  exact this
theorem notesE_im (x : Swp) (c : ByteArray) : ∀ (l : List Eff) (k : Nat), (notesE c (l.map (imE x)) k).Perm ((notesE c l k).map (imN x))
  | [], _ => .refl _
  | e :: l, k => by
    rw [List.map_cons, notesE, notesE, List.map_append]
    exact (noteE_im x c k e).append (notesE_im x c l (k + 1))
theorem notesO_im {x : Swp} {o p : Opr} (h : Mt x o p) : (notesO p).Perm ((notesO o).map (imN x)) := by
  obtain ⟨h1, h2, h3⟩ := h
  have hl : p.pre.length = o.pre.length := by rw [← h2, (imL_p x o.pre).length_eq, List.length_map]
  have hk : kd p = kd o := by unfold kd; rw [← h1, hl, ← h3, List.length_map]
  unfold notesO
  rw [hk, ← h3, List.map_append, List.map_map]
  refine List.Perm.append ?_ (notesE_im x (kd o) o.effs 0)
  have := (imL_p x o.pre).map fun f => ((kd o ++ preB, f) : Nt)
  rw [List.map_map, h2] at this
  exact this
theorem flat_im {x : Swp} : ∀ (l P : List Opr), l.length = P.length → (∀ (k : Nat) (o p : Opr), l[k]? = some o → P[k]? = some p → Mt x o p) → (P.flatMap notesO).Perm ((l.flatMap notesO).map (imN x))
  | [], [], _, _ => .refl _
  | o :: l, p :: P, hl, h => by
    rw [List.flatMap_cons, List.flatMap_cons, List.map_append]
    exact (notesO_im (h 0 o p rfl rfl)).append (flat_im l P (by simpa using hl) fun k o' p' h1 h2 => h (k + 1) o' p' (by simpa using h1) (by simpa using h2))
  | [], _ :: _, hl, _ => by simp at hl
  | _ :: _, [], hl, _ => by simp at hl
def opr0 : Opr := ⟨⟨#[]⟩, 0, [], []⟩
theorem notes_sym {t : Tsk} {x : Swp} (hx : SymP t x) : (t.ops.flatMap notesO).Perm ((t.ops.flatMap notesO).map (imN x)) := by
  let P := x.ops.map fun a => (t.ops[a.toNat]?).getD opr0
  have h1 : P.Perm t.ops := by
    have := hx.2.1.map fun a => (t.ops[a.toNat]?).getD opr0
    have e : (rangeI t.ops.length).map (fun a => (t.ops[a.toNat]?).getD opr0) = t.ops := List.ext_getElem? fun k => by
      by_cases hk : k < t.ops.length
      · rw [List.getElem?_map, rangeI_get hk]
        obtain ⟨o, ho⟩ := some_of_lt hk
        simp [ho]
      · rw [List.getElem?_eq_none (by rw [List.length_map, rangeI_len]; omega), List.getElem?_eq_none (by omega)]
    rwa [e] at this
  refine (h1.flatMap_right notesO).symm.trans (flat_im t.ops P (by rw [List.length_map, hx.2.1.len]) fun k o p ho hp => ?_)
  obtain ⟨o', p', a, q1, q2, _, q3, q4⟩ := ops_cases hx (lt_of_get ho)
  rw [ho] at q1
  injection q1 with q1
  subst q1
  have hp : (x.ops.map fun a => (t.ops[a.toNat]?).getD opr0)[k]? = some p := hp
  rw [List.getElem?_map, q2] at hp
  have : p' = p := by simpa [q3] using hp
  subst this
  exact q4
theorem notesE_ok {vars : List Int} {c : ByteArray} : ∀ (l : List Eff) (k : Nat), (∀ e ∈ l, EffOk vars e) → ∀ n ∈ notesE c l k, FactOk vars n.2
  | [], _, _, n, hn => by simp [notesE] at hn
  | e :: l, k, h, n, hn => by
    have he := h e List.mem_cons_self
    rw [notesE, List.mem_append] at hn
    rcases hn with hn | hn
    · rcases List.mem_cons.1 hn with rfl | hn
      · exact he.2
      · obtain ⟨f, hf, rfl⟩ := List.mem_map.1 hn
        exact (facts_pw he.1).1 f hf
    · exact notesE_ok l (k + 1) (fun q hq => h q (List.mem_cons_of_mem _ hq)) n hn
theorem notes_ok {t : Tsk} (hok : TaskOk t) : ∀ n ∈ t.ops.flatMap notesO, FactOk t.vars n.2 := fun n hn => by
  obtain ⟨o, ho, hn⟩ := List.mem_flatMap.1 hn
  obtain ⟨i, hi⟩ := List.getElem?_of_mem ho
  have h := hok.2.2.2.2.2 i o hi
  unfold notesO at hn
  rcases List.mem_append.1 hn with hn | hn
  · obtain ⟨f, hf, rfl⟩ := List.mem_map.1 hn
    exact (facts_pw h.2.2.2.2.1).1 f hf
  · exact notesE_ok _ _ (effs_ok h) n hn
theorem imF_inj {t : Tsk} {x : Swp} (hok : TaskOk t) (hp : FactsPerm t x) {f g : Fct} (hf : FactOk t.vars f) (hg : FactOk t.vars g) (e : imF x f = imF x g) : f = g := by
  obtain ⟨h1, h2⟩ := pf_ok hok hf
  obtain ⟨h3, h4⟩ := pf_ok hok hg
  rw [h2, h4, imP_fc hok hp h1, imP_fc hok hp h3] at e
  rw [h2, h4, imP_inj hok hp h1 h3 (fc_inj e)]
theorem cnt_sym {t : Tsk} {x : Swp} (hok : TaskOk t) (hx : SymP t x) {ns : List Nt} (hns : ns.Perm (t.ops.flatMap notesO)) (a : ByteArray) {f : Fct} (hf : FactOk t.vars f) : cntN ns a (imF x f) = cntN ns a f := by
  unfold cntN
  rw [hns.countP_eq, hns.countP_eq, (notes_sym hx).countP_eq, List.countP_map]
  refine List.countP_congr fun n hn => ?_
  have hnf := notes_ok hok n hn
  have : imN x n = (a, imF x f) ↔ n = (a, f) := by
    constructor
    · intro e
      have e1 : n.1 = a := congrArg Prod.fst e
      have e2 : imF x n.2 = imF x f := congrArg Prod.snd e
      exact Prod.ext e1 (imF_inj hok hx.1 hnf hf e2)
    · intro e; rw [e]; rfl
  show bof (imN x n = (a, imF x f)) = true ↔ _
  rw [bof_eq this]
theorem addL_sym {t : Tsk} {w : Swp} {sg : Nat → Nat → ByteArray} {l : List Pn} {rl : Fct → ByteArray} (h : SgOk t sg w) (hl : ∀ p, InP t p → (imP w p ∈ l ↔ p ∈ l)) (hr : ∀ p, InP t p → rl (fc (imP w p)) = rl (fc p)) : SgOk t (addL sg l rl) w := fun p hp => by
  unfold addL
  by_cases hm : p ∈ l
  · rw [if_pos ((hl p hp).2 hm), if_pos hm, h p hp, hr p hp]
  · rw [if_neg (fun e => hm ((hl p hp).1 e)), if_neg hm, h p hp]
theorem sgA_sym {t : Tsk} {x : Swp} (hok : TaskOk t) (hx : SymP t x) {ns : List Nt} (hns : ns.Perm (t.ops.flatMap notesO)) : ∀ (l : List ByteArray) (sg : Nat → Nat → ByteArray), SgOk t sg x → SgOk t (sgA t ns l sg) x
  | [], _, h => h
  | a :: l, sg, h => sgA_sym hok hx hns l _ (addL_sym h (fun p hp => ⟨fun _ => mem_allP.2 hp, fun _ => mem_allP.2 (imP_in hok hx.1 hp)⟩) fun p hp => by
    rw [← imP_fc hok hx.1 hp, cnt_sym hok hx hns a (hp.ok hok)])
theorem sg0_sym {t : Tsk} {x : Swp} (hok : TaskOk t) (hx : SymP t x) : SgOk t (sg0 t) x := by
  have hgf := (facts_pw hok.2.2.2.2.1).1
  have hmem : ∀ p, InP t p → (p ∈ t.goal.map pf ↔ fc p ∈ t.goal) := fun p hp => by
    rw [List.mem_map]
    constructor
    · rintro ⟨g, hg, rfl⟩
      rw [← (pf_ok hok (hgf g hg)).2]; exact hg
    · intro h
      exact ⟨fc p, h, by unfold pf fc; simp⟩
  have hg := imL_p x t.goal
  rw [hx.2.2.1] at hg
  refine addL_sym (fun _ _ => rfl) (fun p hp => ?_) fun _ _ => rfl
  rw [hmem _ (imP_in hok hx.1 hp), hmem p hp, ← imP_fc hok hx.1 hp]
  constructor
  · intro h
    obtain ⟨g, hg1, hg2⟩ := List.mem_map.1 (hg.mem_iff.1 h)
    rw [← imF_inj hok hx.1 (hgf g hg1) (hp.ok hok) hg2]
    exact hg1
  · intro h
    exact hg.mem_iff.2 (List.mem_map.2 ⟨_, h, rfl⟩)
/-- newFinder: the signs that it makes are kept by symmetries. -/
theorem newF {t : Tsk} (hok : TaskOk t) (ho : t.ops.length < 20) : ∃ sg, (∀ w, SymF t w → SgOk t sg w) ∧ ∀ M, m_symmetry_newFinder t M = some (some (mkF t sg [] 0 M false)) := by
  have hs : ∀ v a, (sg0 t v a).size ≤ 1000 := fun v a => by
    have := addL_size (sg := fun _ _ => ⟨#[]⟩) (l := t.goal.map pf) (rl := fun _ => goalB) (B := 0) (R := 4) (fun _ _ => Nat.le_refl _) (fun _ => Nat.le_refl _) v a
    unfold sg0
    omega
  obtain ⟨ns, q, h2, h1⟩ := roles_all hok ho (sg := sg0 t) hs
  refine ⟨sgA t ns q (sg0 t), fun w ⟨ops, hw⟩ => sgA_sym hok hw h2 q _ (sg0_sym hok hw), fun M => new_eq hok (h1 0 M false)⟩
end
section
open Go Go.RowKit
/-- Symmetries with the least operators that fit, which keep the facts before the i-th. -/
def GI (t : Tsk) (i : Nat) (g : List Swp) : Prop := ∀ a ∈ g, SymP t a ∧ opsC t ⟨a.vars, a.vals, []⟩ = some a.ops ∧ Fix t i a
/-- No identity, and no two that are alike. -/
def Dis (t : Tsk) (g : List Swp) : Prop := (∀ a ∈ g, ∃ p, InP t p ∧ imP a p ≠ p) ∧ g.Pairwise fun a b => ∃ p, InP t p ∧ imP a p ≠ imP b p
section
variable {t : Tsk} {sg : Nat → Nat → ByteArray} {M : Nat}
theorem stp_gen (hok : TaskOk t) {i : Nat} (hi : i < (allP t).length) {y : Pn} {s : Nat} (hy : InP t y) (hf : fitB t sg (idz t i) (xAt t (idz t i)) y = true) {b : Swp} (h : (stp t sg (leafC t) M ((allP t).length - i - 1) (idz t i) y s).1 = some b) :
    SymP t b ∧ opsC t ⟨b.vars, b.vals, []⟩ = some b.ops ∧ Fix t i b ∧ imP b (xAt t (idz t i)) = y := by
  obtain ⟨ys, h1, h2, h3⟩ := stp_some hi hy hf h
  obtain ⟨h4, h5, h6⟩ := leafC_sound hok h1 h2 h3
  exact ⟨h4, h5, fun p hp => h6 (p, p) (List.mem_append.2 (.inl (List.mem_map.2 ⟨p, hp, rfl⟩))), h6 (xAt t (idz t i), y) (List.mem_append.2 (.inr List.mem_cons_self))⟩
theorem stp_none (hok : TaskOk t) (hsg : ∀ w, SymF t w → SgOk t sg w) {i : Nat} (hi : i < (allP t).length) {y : Pn} {s : Nat} (h1 : (stp t sg (leafC t) M ((allP t).length - i - 1) (idz t i) y s).1 = none) (h2 : (stp t sg (leafC t) M ((allP t).length - i - 1) (idz t i) y s).2.2 = false) {w : Swp} (hw : SymF t w) (hfx : Fix t i w) (hxy : imP w (xAt t (idz t i)) = y) : False := by
  unfold stp at h1 h2
  by_cases hM : M ≤ s
  · rw [if_pos hM] at h2; cases h2
  · rw [if_neg hM] at h1 h2
    have e := zsOf_succ (w := w) (xAt_id hi)
    rw [zsOf_fix hfx, hxy] at e
    rw [← e] at h1 h2
    exact leafC_full hok hw (ext_none hok hw.perm (hsg w hw) _ _ _ (by omega) h1 h2)
theorem Dis.add {g : List Swp} (h : Dis t g) {x y : Pn} (hx : InP t x) {b : Swp} (hb : imP b x = y) (hn : ¬ Reach g x y) : Dis t (g ++ [b]) := by
  refine ⟨fun a ha => ?_, List.pairwise_append.2 ⟨h.2, List.pairwise_singleton _ _, fun a ha c hc => ?_⟩⟩
  · rcases List.mem_append.1 ha with ha | ha
    · exact h.1 a ha
    · simp at ha
      subst ha
      exact ⟨x, hx, fun e => hn (by rw [← hb, e]; exact .one)⟩
  · simp at hc
    subst hc
    exact ⟨x, hx, fun e => hn (by rw [← hb, ← e]; exact .step .one ha)⟩
theorem lev_gen (hok : TaskOk t) (hsg : ∀ w, SymF t w → SgOk t sg w) {i : Nat} (hi : i < (allP t).length) : ∀ (l : List Pn) (g : List Swp) (s : Nat), (∀ y ∈ l, InP t y) → GI t i g → Dis t g → (levL t sg (leafC t) M i (xAt t (idz t i)) l g s).2.2 = false →
    GI t i (levL t sg (leafC t) M i (xAt t (idz t i)) l g s).1 ∧ Dis t (levL t sg (leafC t) M i (xAt t (idz t i)) l g s).1 ∧ (∀ a ∈ g, a ∈ (levL t sg (leafC t) M i (xAt t (idz t i)) l g s).1) ∧
    (∀ w, SymF t w → Fix t i w → imP w (xAt t (idz t i)) ∈ l → Reach (levL t sg (leafC t) M i (xAt t (idz t i)) l g s).1 (xAt t (idz t i)) (imP w (xAt t (idz t i)))) ∧
    (levL t sg (leafC t) M i (xAt t (idz t i)) l g s).1.length ≤ g.length + l.length
  | [], g, s, _, hg, hd, _ => ⟨hg, hd, fun _ h => h, fun w _ _ h => by simp at h, by show g.length ≤ _; simp⟩
  | y :: l, g, s, hP, hg, hd, hfl => by
    have hP' : ∀ q ∈ l, InP t q := fun q hq => hP q (List.mem_cons_of_mem _ hq)
    have hy := hP y List.mem_cons_self
    have hxin : InP t (xAt t (idz t i)) := mem_allP.1 (List.mem_of_getElem? (xAt_id hi))
    unfold levL at hfl ⊢
    by_cases hf : fitB t sg (idz t i) (xAt t (idz t i)) y = true ∧ bof (Reach g (xAt t (idz t i)) y) = false
    · rw [if_pos hf] at hfl ⊢
      have hnr : ¬ Reach g (xAt t (idz t i)) y := fun e => by rw [bof_t e] at hf; exact nomatch hf.2
      cases hq : (stp t sg (leafC t) M ((allP t).length - i - 1) (idz t i) y s).2.2 with
      | true => rw [if_pos hq] at hfl; cases hfl
      | false =>
        rw [hq] at hfl
        rw [if_neg (by decide)] at hfl ⊢
        cases ho : (stp t sg (leafC t) M ((allP t).length - i - 1) (idz t i) y s).1 with
        | none =>
          rw [ho] at hfl
          obtain ⟨q1, q2, q3, q4, q5⟩ := lev_gen hok hsg hi l g _ hP' hg hd hfl
          refine ⟨q1, q2, q3, fun w hw hfx hm => ?_, by rw [List.length_cons]; exact Nat.le_trans q5 (by omega)⟩
          rcases List.mem_cons.1 hm with e | hm
          · exact (stp_none hok hsg hi ho hq hw hfx e).elim
          · exact q4 w hw hfx hm
        | some b =>
          rw [ho] at hfl
          obtain ⟨b1, b2, b3, b4⟩ := stp_gen hok hi hy hf.1 ho
          obtain ⟨q1, q2, q3, q4, q5⟩ := lev_gen hok hsg hi l (g ++ [b]) _ hP' (fun a ha => by
            rcases List.mem_append.1 ha with ha | ha
            · exact hg a ha
            · simp at ha; subst ha; exact ⟨b1, b2, b3⟩) (hd.add hxin b4 hnr) hfl
          refine ⟨q1, q2, fun a ha => q3 a (List.mem_append.2 (.inl ha)), fun w hw hfx hm => ?_, by
            have : (g ++ [b]).length = g.length + 1 := by simp
            rw [List.length_cons]; exact Nat.le_trans q5 (by omega)⟩
          rcases List.mem_cons.1 hm with e | hm
          · have hb := Reach.step (x := xAt t (idz t i)) .one (q3 b (List.mem_append.2 (.inr (by simp))))
            rw [b4] at hb
            rw [e]
            exact hb
          · exact q4 w hw hfx hm
    · rw [if_neg hf] at hfl ⊢
      obtain ⟨q1, q2, q3, q4, q5⟩ := lev_gen hok hsg hi l g s hP' hg hd hfl
      refine ⟨q1, q2, q3, fun w hw hfx hm => ?_, by rw [List.length_cons]; omega⟩
      rcases List.mem_cons.1 hm with e | hm
      · have hfit := fit_of (sg := sg) hok hw.perm (hsg w hw) (xAt_id hi)
        rw [zsOf_fix hfx, e] at hfit
        rw [e]
        refine Reach.mono q3 (Classical.byContradiction fun hn => hf ⟨hfit, bof_f hn⟩)
      · exact q4 w hw hfx hm
theorem imP_onto {x : Swp} {q : Pn} (hok : TaskOk t) (hx : FactsPerm t x) (h : InP t q) : imP x (imP (invN x) q) = q :=
  have hr := imP_in hok (invn_perm hok hx) h
  imP_inj hok (invn_perm hok hx) (imP_in hok hx hr) h (imP_inv hok hx hr)
/-- What generators make. -/
def Gens (t : Tsk) (i : Nat) (g : List Swp) : Prop := ∀ w, SymF t w → Fix t i w → ∃ π, Wd g π ∧ ∀ p, InP t p → imP w p = π p
theorem SymF.comp (hok : TaskOk t) {w H : Swp} (hw : SymF t w) (hH : SymP t H) : ∃ u, SymP t u ∧ ∀ p, InP t p → imP u p = imP (invN H) (imP w p) := by
  obtain ⟨ops, hw⟩ := hw
  exact ⟨compX ⟨w.vars, w.vals, ops⟩ (invN H), comp_sym hok hw (invn_sym hok hH), fun p hp => imP_comp hok hw.1 (invn_perm hok hH.1) hp⟩
theorem fnd_gen (hok : TaskOk t) (hsg : ∀ w, SymF t w → SgOk t sg w) : ∀ (i : Nat) (g : List Swp) (s : Nat), i ≤ (allP t).length → GI t i g → Dis t g → Gens t i g → (fndL t sg (leafC t) M i g s).2.2 = false →
    GI t 0 (fndL t sg (leafC t) M i g s).1 ∧ Dis t (fndL t sg (leafC t) M i g s).1 ∧ Gens t 0 (fndL t sg (leafC t) M i g s).1 ∧ (fndL t sg (leafC t) M i g s).1.length ≤ g.length + i * (allP t).length
  | 0, g, s, _, hg, hd, hG, _ => ⟨hg, hd, hG, by show g.length ≤ _; omega⟩
  | i + 1, g, s, hi, hg, hd, hG, hfl => by
    have hii : i < (allP t).length := by omega
    have hxe : ((allP t)[i]?).getD (0, 0) = xAt t (idz t i) := by rw [xAt_id hii]; rfl
    have hx := xAt_id hii
    have hxin : InP t (xAt t (idz t i)) := mem_allP.1 (List.mem_of_getElem? hx)
    have htk : ∀ p, p ∈ (allP t).take (i + 1) ↔ p ∈ (allP t).take i ∨ p = xAt t (idz t i) := fun p => take_succ_mem hx
    unfold fndL at hfl ⊢
    rw [hxe] at hfl ⊢
    cases hq : (levL t sg (leafC t) M i (xAt t (idz t i)) (allP t) g s).2.2 with
    | true => rw [if_pos hq] at hfl; cases hfl
    | false =>
      rw [hq] at hfl
      rw [if_neg (by decide)] at hfl ⊢
      have hg' : GI t i g := fun a ha => ⟨(hg a ha).1, (hg a ha).2.1, fun p hp => (hg a ha).2.2 p ((htk p).2 (.inl hp))⟩
      obtain ⟨q1, q2, q3, q4, q5⟩ := lev_gen (M := M) hok hsg hii (allP t) g s (fun y hy => mem_allP.1 hy) hg' hd hq
      have hG' : Gens t i (levL t sg (leafC t) M i (xAt t (idz t i)) (allP t) g s).1 := fun w hw hfx => by
        obtain ⟨π, p1, p2⟩ := reach_wd (q4 w hw hfx (mem_allP.2 (imP_in hok hw.perm hxin)))
        obtain ⟨H, h1, h2⟩ := Wd.sym hok (fun a ha => (q1 a ha).1) p1
        obtain ⟨u, u1, u2⟩ := SymF.comp hok hw h1
        have hHfix : Fix t i H := fun p hp => by rw [h2 p (in_take hp)]; exact Wd.fix (fun a ha => (q1 a ha).2.2) p1 p hp
        have hback : ∀ p q, InP t p → imP H p = q → imP (invN H) q = p := fun p q hp e => by rw [← e]; exact imP_inv hok h1.1 hp
        have hufix : Fix t (i + 1) u := fun p hp => by
          have hpin := in_take hp
          rw [u2 p hpin]
          rcases (htk p).1 hp with hp | rfl
          · rw [hfx p hp]
            exact hback p p hpin (hHfix p hp)
          · exact hback _ _ hpin (by rw [h2 _ hpin, p2])
        obtain ⟨ρ, r1, r2⟩ := hG u u1.f hufix
        refine ⟨fun p => π (ρ p), Wd.comp p1 (Wd.mono q3 r1), fun p hp => ?_⟩
        have hui := imP_in hok u1.1 hp
        show imP w p = π (ρ p)
        rw [← r2 p hp, ← h2 _ hui, u2 p hp]
        obtain ⟨v, v1, v2⟩ : ∃ v, InP t v ∧ imP H v = imP w p := by
          refine ⟨imP u p, hui, ?_⟩
          rw [u2 p hp]
          exact imP_onto hok h1.1 (imP_in hok hw.perm hp)
        rw [← v2, hback v _ v1 rfl]
      obtain ⟨r1, r2, r3, r4⟩ := fnd_gen hok hsg i _ _ (by omega) q1 q2 hG' hfl
      refine ⟨r1, r2, r3, Nat.le_trans r4 ?_⟩
      rw [Nat.succ_mul]
      omega
end
end
section
open Go Go.RowKit
attribute [local irreducible] ewp owp hwp hwq Ev Evg Fn retPost Res1
noncomputable def m_law51_Same (x0 : Swp) (x1 : Swp) : Option Bool :=
  bnd (bnd (m_base_Ints x0.vars x1.vars) fun q43 => if q43 = true then bnd (m_base_Ints x0.ops x1.ops) fun q50 => if q50 = true then if (x0.vals.length : Int) ≠ (x1.vals.length : Int) then (some true) else (some false) else some true else some true : Option Bool) fun y39 => if y39 = true then (some false) else (bnd (rng (ρ := Bool) (fun (k73 : Nat) (a74 : List Int) (s71 : Unit) => bnd (x1.vals[k73]?) fun a95 => bnd (m_base_Ints a74 a95) fun q108 => if q108 = true then some (.next ()) else some (.ret false)) x0.vals 0 ()) fun res69 => fin res69 fun (s119 : Unit) => some true)
theorem c_law51_Same {w : World} {A : Nat → Prop} (hA : ∀ k, A k → k < w.heap.size) {vx0 : Value} {x0 : Swp} (hx0 : Vb w A vx0 x0) {vx1 : Value} {x1 : Swp} (hx1 : Vb w A vx1 x1) {r : Bool} (hm : m_law51_Same x0 x1 = some r) :
    Fn Tryz.prog 8 [vx0, vx1] w fun v w' => Ext w w' ∧ Vb w' (upA A w w') v r := by
 obtain ⟨O, hB, hA0⟩ := enter hA
 replace hx0 := hx0.mono hA0
 obtain ⟨cs3, rfl, v4, v5, v6, rfl, h7, h10, h13⟩ := hx0
 obtain ⟨A8, c9, rfl⟩ := h7.form
 obtain ⟨A11, c12, rfl⟩ := h10.form
 obtain ⟨A14, c15, rfl⟩ := h13.form
 replace hx1 := hx1.mono hA0
 obtain ⟨cs16, rfl, v17, v18, v19, rfl, h20, h23, h26⟩ := hx1
 obtain ⟨A21, c22, rfl⟩ := h20.form
 obtain ⟨A24, c25, rfl⟩ := h23.form
 obtain ⟨A27, c28, rfl⟩ := h26.form
 refine fn_enter Tryz.func8 rfl Tryz.ntmps8 rfl ?_
 unfold m_law51_Same at hm
 refine ewp_seq (ewp_region (l_box 2 O rfl rfl fun g29 w30 O31 S32 h33 => ?_))
 replace h33 : Lc 2 w30 O31 g29 43 [(.slice A8 x0.vars.length c9), (.slice A11 x0.vals.length c12), (.slice A14 x0.ops.length c15)] := h33
 refine l_box 3 O31 rfl rfl fun g34 w35 O36 S37 h38 => ?_
 replace h38 : Lc 3 w35 O36 g34 43 [(.slice A21 x1.vars.length c22), (.slice A24 x1.vals.length c25), (.slice A27 x1.ops.length c28)] := h38
 refine o_as rfl rfl (o_z ?_)
 refine ewp_seq (ewp_seq ?_)
 obtain ⟨y39, hy40, hm⟩ := bs hm
 refine ewp_join (fun l' w' => ∃ (x42 : Unit) (O' : Lab), subs l' [(2, (.pointer (some ⟨g29, 0, none⟩))), (3, (.pointer (some ⟨g34, 0, none⟩))), (28, (.bool y39))] ∧ Bs w A w' O' ∧ Lc 2 w' O' g29 43 [(.slice A8 x0.vars.length c9), (.slice A11 x0.vals.length c12), (.slice A14 x0.ops.length c15)] ∧ Vb w' (Fr 0 w' O') (.slice A8 x0.vars.length c9) x0.vars ∧ Vb w' (Fr 0 w' O') (.slice A11 x0.vals.length c12) x0.vals ∧ Vb w' (Fr 0 w' O') (.slice A14 x0.ops.length c15) x0.ops ∧ Lc 3 w' O' g34 43 [(.slice A21 x1.vars.length c22), (.slice A24 x1.vals.length c25), (.slice A27 x1.ops.length c28)] ∧ Vb w' (Fr 0 w' O') (.slice A21 x1.vars.length c22) x1.vars ∧ Vb w' (Fr 0 w' O') (.slice A24 x1.vals.length c25) x1.vals ∧ Vb w' (Fr 0 w' O') (.slice A27 x1.ops.length c28) x1.ops) ?_ ?_
 ·
  refine ewp_region (o_fa rfl rfl ?_)
  replace h33 := h33.st S37
  refine o_ld (hc := Blk.cell (i := 0) (h33.1) rfl) rfl rfl ?_
  refine o_fa rfl rfl (o_ld (hc := Blk.cell (i := 0) (h38.1) rfl) rfl rfl ?_)
  obtain ⟨q43, e44, hy40⟩ := bs hy40
  replace h7 := (h7.st S32).st S37
  replace h20 := (h20.st S32).st S37
  refine l_callA (O := O36) (A := All w35) (R := fun w' F v => Vb w' F v q43) (c_base_Ints (fun _ h => h) (Vb.mono (F := Fr 0 w35 O36) h7 Fr.lt) (Vb.mono (F := Fr 0 w35 O36) h20 Fr.lt) e44) rfl rfl fun v49 w45 O46 S47 h48 => ?_
  obtain rfl := h48.bool
  cases q43
  case false =>
   replace hy40 := iF hy40
   refine o_nf rfl rfl (o_mv rfl rfl (owp_no rfl rfl rfl rfl (owp_no rfl rfl rfl rfl (owp_no rfl rfl rfl rfl (owp_no rfl rfl rfl rfl (owp_no rfl rfl rfl rfl (owp_no rfl rfl rfl rfl (o_pt rfl rfl rfl (o_mv rfl rfl (owp_no rfl rfl rfl rfl (owp_no rfl rfl rfl rfl (owp_no rfl rfl rfl rfl (owp_no rfl rfl rfl rfl (owp_no rfl rfl rfl rfl ?_))))))))))))))
   refine owp_no rfl rfl rfl rfl (owp_no rfl rfl rfl rfl (o_pt rfl rfl rfl (o_z ?_)))
   obtain rfl := sm hy40
   replace hB := ((hB.st S32).st S37).st S47
   replace h7 := h7.st S47
   replace h10 := ((h10.st S32).st S37).st S47
   replace h13 := ((h13.st S32).st S37).st S47
   replace h20 := h20.st S47
   replace h23 := ((h23.st S32).st S37).st S47
   replace h26 := ((h26.st S32).st S37).st S47
   replace h33 := h33.st S47
   replace h38 := h38.st S47
   exact ⟨(), _, ⟨rfl, rfl, rfl, trivial⟩, hB, h33, h7, h10, h13, h38, h20, h23, h26⟩
  replace hy40 := iT hy40
  refine o_nt rfl rfl (o_mv rfl rfl (owp_yes rfl rfl (o_fa rfl rfl (owp_yes rfl rfl ?_))))
  replace h33 := h33.st S47
  refine o_ld (hc := Blk.cell (i := 2) (h33.1) rfl) rfl rfl ?_
  refine owp_yes rfl rfl (o_fa rfl rfl (owp_yes rfl rfl ?_))
  replace h38 := h38.st S47
  refine o_ld (hc := Blk.cell (i := 2) (h38.1) rfl) rfl rfl ?_
  refine owp_yes rfl rfl ?_
  obtain ⟨q50, e51, hy40⟩ := bs hy40
  replace h13 := ((h13.st S32).st S37).st S47
  replace h26 := ((h26.st S32).st S37).st S47
  refine l_callA (O := O46) (A := All w45) (R := fun w' F v => Vb w' F v q50) (c_base_Ints (fun _ h => h) (Vb.mono (F := Fr 0 w45 O46) h13 Fr.lt) (Vb.mono (F := Fr 0 w45 O46) h26 Fr.lt) e51) rfl rfl fun v56 w52 O53 S54 h55 => ?_
  obtain rfl := h55.bool
  cases q50
  case false =>
   replace hy40 := iF hy40
   refine owp_yes rfl rfl (o_nf rfl rfl (o_pf rfl rfl rfl (o_mv rfl rfl (owp_no rfl rfl rfl rfl (owp_no rfl rfl rfl rfl (owp_no rfl rfl rfl rfl (owp_no rfl rfl rfl rfl (owp_no rfl rfl rfl rfl (owp_no rfl rfl rfl rfl (owp_no rfl rfl rfl rfl (o_pt rfl rfl rfl (o_z ?_))))))))))))
   obtain rfl := sm hy40
   replace hB := (((hB.st S32).st S37).st S47).st S54
   replace h7 := (h7.st S47).st S54
   replace h10 := (((h10.st S32).st S37).st S47).st S54
   replace h13 := h13.st S54
   replace h20 := (h20.st S47).st S54
   replace h23 := (((h23.st S32).st S37).st S47).st S54
   replace h26 := h26.st S54
   replace h33 := h33.st S54
   replace h38 := h38.st S54
   exact ⟨(), _, ⟨rfl, rfl, rfl, trivial⟩, hB, h33, h7, h10, h13, h38, h20, h23, h26⟩
  replace hy40 := iT hy40
  refine owp_yes rfl rfl (o_nt rfl rfl (o_pf rfl rfl rfl (o_mv rfl rfl (owp_yes rfl rfl (o_fa rfl rfl (owp_yes rfl rfl ?_))))))
  replace h33 := h33.st S54
  refine o_ld (hc := Blk.cell (i := 1) (h33.1) rfl) rfl rfl ?_
  refine owp_yes rfl rfl (o_ln rfl rfl ?_)
  replace h10 := (((h10.st S32).st S37).st S47).st S54
  have l58 : x0.vals.length ≤ 9223372036854775807 := Nat.le_trans h10.len.2.1 h10.len.2.2
  have r57 : inI64 (x0.vals.length : Int) := rngNat l58
  refine owp_yes rfl rfl (o_fa rfl rfl (owp_yes rfl rfl ?_))
  replace h38 := h38.st S54
  refine o_ld (hc := Blk.cell (i := 1) (h38.1) rfl) rfl rfl ?_
  refine owp_yes rfl rfl (o_ln rfl rfl ?_)
  replace h23 := (((h23.st S32).st S37).st S47).st S54
  have l60 : x1.vals.length ≤ 9223372036854775807 := Nat.le_trans h23.len.2.1 h23.len.2.2
  have r59 : inI64 (x1.vals.length : Int) := rngNat l60
  refine owp_yes rfl rfl (o_neS rfl rfl rfl (fun c61 => ?_) fun c61 => ?_)
  ·
   replace hy40 := ip hy40 c61
   refine o_pf rfl rfl rfl (o_z ?_)
   obtain rfl := sm hy40
   replace hB := (((hB.st S32).st S37).st S47).st S54
   replace h7 := (h7.st S47).st S54
   replace h13 := h13.st S54
   replace h20 := (h20.st S47).st S54
   replace h26 := h26.st S54
   exact ⟨(), _, ⟨rfl, rfl, rfl, trivial⟩, hB, h33, h7, h10, h13, h38, h20, h23, h26⟩
  replace hy40 := im hy40 c61
  refine o_pf rfl rfl rfl (o_z ?_)
  obtain rfl := sm hy40
  replace hB := (((hB.st S32).st S37).st S47).st S54
  replace h7 := (h7.st S47).st S54
  replace h13 := h13.st S54
  replace h20 := (h20.st S47).st S54
  replace h26 := h26.st S54
  exact ⟨(), _, ⟨rfl, rfl, rfl, trivial⟩, hB, h33, h7, h10, h13, h38, h20, h23, h26⟩
 replace hB := (hB.st S32).st S37
 replace h7 := (h7.st S32).st S37
 replace h10 := (h10.st S32).st S37
 replace h13 := (h13.st S32).st S37
 replace h20 := (h20.st S32).st S37
 replace h23 := (h23.st S32).st S37
 replace h26 := (h26.st S32).st S37
 replace h33 := h33.st S37
 rintro l62 w63 ⟨x42, O64, hs65, hB, h33, h7, h10, h13, h38, h20, h23, h26⟩
 refine ewp_sub _ hs65 ?_
 refine ewp_cond rfl (fun c66 => ?_) (fun c66 => ?_)
 ·
  replace hm := ip hm c66
  refine ewp_seq (ewp_region (o_as rfl rfl (o_z ?_)))
  refine ewp_ret ?_
  obtain rfl := sm hm
  exact ret1v rfl (res_tmp rfl) ⟨hB.ext, vBool⟩
 replace hm := im' hm c66
 refine ewp_skip (ewp_seq (ewp_seq (ewp_region (o_fa rfl rfl (o_ld (hc := Blk.cell (i := 1) (h33.1) rfl) rfl rfl ?_)))))
 refine o_ln rfl rfl ?_
 have l68 : x0.vals.length ≤ 9223372036854775807 := Nat.le_trans h10.len.2.1 h10.len.2.2
 have r67 : inI64 (x0.vals.length : Int) := rngNat l68
 refine o_mv rfl rfl (o_z ?_)
 obtain ⟨res69, hL70, hm⟩ := bs hm
 refine ewp_join (aft res69 (fun (s71 : Unit) (x72 : Unit) => []) (fun s71 x72 w' => ∃ O' : Lab, Bs w A w' O')) ?_ ?_
 ·
  refine ewp_block (ewp_rng (σ := Unit) (X := Unit) (x0.vals.length) hL70 rfl l68 (fun (s71 : Unit) (x72 : Unit) => [(2, (.pointer (some ⟨g29, 0, none⟩))), (3, (.pointer (some ⟨g34, 0, none⟩)))]) _ (fun s71 x72 w' => ∃ O' : Lab, Bs w A w' O' ∧ Lc 2 w' O' g29 43 [(.slice A8 x0.vars.length c9), (.slice A11 x0.vals.length c12), (.slice A14 x0.ops.length c15)] ∧ Vb w' (Fr 0 w' O') (.slice A8 x0.vars.length c9) x0.vars ∧ Vb w' (Fr 0 w' O') (.slice A11 x0.vals.length c12) x0.vals ∧ Vb w' (Fr 0 w' O') (.slice A14 x0.ops.length c15) x0.ops ∧ Lc 3 w' O' g34 43 [(.slice A21 x1.vars.length c22), (.slice A24 x1.vals.length c25), (.slice A27 x1.ops.length c28)] ∧ Vb w' (Fr 0 w' O') (.slice A21 x1.vars.length c22) x1.vars ∧ Vb w' (Fr 0 w' O') (.slice A24 x1.vals.length c25) x1.vals ∧ Vb w' (Fr 0 w' O') (.slice A27 x1.ops.length c28) x1.ops) _ () ⟨O64, hB, h33, h7, h10, h13, h38, h20, h23, h26⟩ ⟨rfl, rfl, rfl, rfl, trivial⟩ (fun _ _ => ⟨rfl, rfl⟩) (fun _ _ => trivial) (fun _ _ _ ⟨O', hB, h33, h7, h10, h13, h38, h20, h23, h26⟩ => ⟨O', hB⟩) ⟨rfl, rfl, rfl⟩ ⟨rfl, rfl⟩ ?_)
  rintro k73 a74 s71 x72 w75 cc77 hx78 ⟨O76, hB, h33, h7, h10, h13, h38, h20, h23, h26⟩ hf79 hret80 hbrk81
  have rk73 : inI64 (k73 : Int) := rngK hx78 l68
  refine ewp_seq (ewp_region (o_mv rfl rfl (o_as rfl rfl (o_z ?_))))
  refine ewp_seq (ewp_drawX [] O76 ?_)
  refine x_pre (fuel := 2) [] [(0, true), (1, true), (2, true), (3, true), (4, true), (5, true), (6, true), (7, true), (8, true), (9, true)] (by kernel_rfl) rfl ?_
  refine h_fa rfl rfl rfl (h_ldC (hc := fun w' ⟨O', hq⟩ => Blk.cell (i := 1) ((h33.st hq (by decide)).1) rfl) rfl rfl rfl ?_)
  refine h_mv rfl rfl rfl ?_
  obtain ⟨b84, o85, ce86, hA87, hF90, hl88, hd89, v91, rfl, h92⟩ := h10.elem hx78
  replace h92 := Vb.of_slice h92
  obtain ⟨A93, c94, rfl⟩ := h92.form
  refine h_iaE (hA := hA87) (hj := rfl) (hlt := hl88) rfl rfl rfl rfl ?_
  refine h_ldC (hc := fun w' ⟨O', hq⟩ => cat0 (cellsAt_agree (hq.agree (i := 0) (by decide)) hF90 hd89)) rfl rfl rfl ?_
  refine h_fa rfl rfl rfl (h_ldC (hc := fun w' ⟨O', hq⟩ => Blk.cell (i := 1) ((h38.st hq (by decide)).1) rfl) rfl rfl rfl ?_)
  refine h_mv rfl rfl rfl ?_
  obtain ⟨a95, e96, hf79⟩ := bs hf79
  obtain ⟨b97, o98, ce99, hA100, hF103, hl101, hd102, v104, rfl, h105⟩ := h23.elem e96
  replace h105 := Vb.of_slice h105
  obtain ⟨A106, c107, rfl⟩ := h105.form
  refine h_iaE (hA := hA100) (hj := rfl) (hlt := hl101) rfl rfl rfl rfl ?_
  refine h_ldC (hc := fun w' ⟨O', hq⟩ => cat0 (cellsAt_agree (hq.agree (i := 0) (by decide)) hF103 hd102)) rfl rfl rfl ?_
  refine hwp_nilT ?_
  refine x_one (i := 10) (by kernel_rfl) rfl ?_
  obtain ⟨q108, e109, hf79⟩ := bs hf79
  refine l_callA (O := O76) (A := All w75) (R := fun w' F v => Vb w' F v q108) (c_base_Ints (fun _ h => h) (Vb.mono (F := Fr 0 w75 O76) h92 Fr.lt) (Vb.mono (F := Fr 0 w75 O76) h105 Fr.lt) e109) rfl rfl fun v114 w110 O111 S112 h113 => ?_
  obtain rfl := h113.bool
  have hZ := S112.lst [] (fun _ h => h.elim)
  cases q108
  case false =>
   replace hf79 := iF hf79
   refine x_go [] hZ (by kernel_rfl) ?_
   refine x_pre (fuel := 0) [] [(11, true)] (by kernel_rfl) rfl ?_
   refine h_nf rfl rfl rfl (hwp_nilT ?_)
   refine x_nil (by kernel_rfl) ?_
   refine ewp_true rfl (ewp_seq (ewp_region (o_as rfl rfl (o_z ?_))))
   refine ewp_ret ?_
   obtain rfl := sm hf79
   obtain rfl := hret80 _ rfl
   obtain rfl := sm (fin_ret hm)
   replace hB := hB.st S112
   exact ret1v rfl (res_tmp rfl) ⟨hB.ext, vBool⟩
  replace hf79 := iT hf79
  refine x_go [] hZ (by kernel_rfl) ?_
  refine x_pre (fuel := 0) [] [(11, true)] (by kernel_rfl) rfl ?_
  refine h_nt rfl rfl rfl (hwp_nilT ?_)
  refine x_nil (by kernel_rfl) ?_
  refine ewp_false rfl (ewp_skip ?_)
  obtain rfl := sm hf79
  replace hB := hB.st S112
  replace h7 := h7.st S112
  replace h10 := h10.st S112
  replace h13 := h13.st S112
  replace h20 := h20.st S112
  replace h23 := h23.st S112
  replace h26 := h26.st S112
  replace h33 := h33.st S112
  replace h38 := h38.st S112
  exact show Exists _ from ⟨_, (), rfl, ⟨rfl, rfl, rfl, rfl, trivial⟩, _, hB, h33, h7, h10, h13, h38, h20, h23, h26⟩
 rintro l115 w116 ⟨s119, x120, rfl, hs118, O117, hB⟩
 replace hm := fin_done hm
 refine ewp_sub _ hs118 ?_
 refine ewp_seq (ewp_region (o_as rfl rfl (o_z ?_)))
 refine ewp_ret ?_
 obtain rfl := sm hm
 exact ret1v rfl (res_tmp rfl) ⟨hB.ext, vBool⟩
end
section
set_option linter.unusedVariables false
open Go Go.RowKit
attribute [local irreducible] ewp owp hwp hwq Ev Evg Fn retPost Res1
attribute [local irreducible] hwx loudX
noncomputable def m_law51_SymmetryLimits (x0 : (Byt × Byt × Byt)) (x1 : (Byt × Byt × Byt)) (x2 : Int) : Option Bool :=
  bnd (m_law51_awake) fun q28 => if q28 = true then bnd (remI x0.1.n 2) fun n35 => bnd (chkI (2 + n35)) fun n38 => bnd (remI x1.1.n 4) fun n41 => bnd (chkI (n38 - 1)) fun n56 => bnd (chkI (n38 - 1)) fun n59 => bnd (rngN (ρ := Bool) (fun (k79 : Nat) (s77 : (List Opr)) => bnd (chkI (n38 - 1)) fun n94 => bnd (natI n94) fun N110 => bnd (rngN (ρ := Ctl (List Opr) Bool) (fun (k101 : Nat) (s99 : (List Opr)) => bnd (chkI ((k101 : Int) + 1)) fun n122 => bnd (appI 72 s99 [(⟨(⟨#[]⟩ : ByteArray), n41, [(⟨(k79 : Int), (k101 : Int)⟩ : Fct)], [(⟨([] : List Fct), (k79 : Int), n122⟩ : Eff)]⟩ : Opr)]) fun u135 => some (.next u135)) N110 s77) fun res97 => fin res97 fun (s153 : (List Opr)) => some (.next s153)) 2 ([] : List Opr)) fun res75 => fin res75 fun (s159 : (List Opr)) => bnd (chkI (1 + n41)) fun n161 => bnd (appI 72 s159 [(⟨(⟨#[]⟩ : ByteArray), n161, ([] : List Fct), [(⟨([] : List Fct), 2, 1⟩ : Eff)]⟩ : Opr)]) fun u172 => bnd (m_symmetry_Find (⟨([n38, n38, 2] : List Int), ([0, 0, 0] : List Int), [(⟨0, n56⟩ : Fct), (⟨1, n59⟩ : Fct)], u172⟩ : Tsk) 1048576) fun q194 => bnd (m_symmetry_Find (⟨([n38, n38, 2] : List Int), ([0, 0, 0] : List Int), [(⟨0, n56⟩ : Fct), (⟨1, n59⟩ : Fct)], u172⟩ : Tsk) x2) fun q208 => bnd (if q194.2.n ≠ 0 then (some true) else (if (q194.1.length : Int) ≠ 1 then (some true) else (bnd (atI q194.1 0) fun a230 => bnd (atI a230.vars 0) fun a253 => if a253 ≠ 1 then (some true) else (bnd (atI q194.1 0) fun a266 => bnd (atI a266.vars 1) fun a289 => if a289 ≠ 0 then (some true) else (bnd (atI q194.1 0) fun a302 => bnd (atI a302.vars 2) fun a325 => if a325 ≠ 2 then (some true) else (some false))))) : Option Bool) fun y222 => if y222 = true then (some false) else (if q208.2.n ≠ 0 then (bnd (bnd (m_base_Is (⟨q208.2.n⟩ : Err) 10) fun q348 => if q348 = true then if (q208.1.length : Int) = 0 then (some true) else (some false) else some false : Option Bool) fun y344 => some y344) else (bnd (if (q208.1.length : Int) = 1 then (bnd (atI q208.1 0) fun a369 => bnd (atI q194.1 0) fun a392 => bnd (m_law51_Same a369 a392) fun q415 => if q415 = true then some true else some false) else (some false) : Option Bool) fun y362 => some y362)) else some false
theorem c_law51_SymmetryLimits {w : World} {A : Nat → Prop} (hA : ∀ k, A k → k < w.heap.size) {vx0 : Value} {x0 : (Byt × Byt × Byt)} (hx0 : Vb w A vx0 x0) {vx1 : Value} {x1 : (Byt × Byt × Byt)} (hx1 : Vb w A vx1 x1) {x2 : Int} (rx2 : inI64 x2) (hT : TabF w A) {r : Bool} (hm : m_law51_SymmetryLimits x0 x1 x2 = some r) :
    Fn Tryz.prog 3 [vx0, vx1, (.int .i64 x2)] w fun v w' => Ext w w' ∧ Vb w' (upA A w w') v r := by
 obtain ⟨O, hB, hA0⟩ := enter hA
 replace hx0 := hx0.mono hA0
 obtain ⟨cs4, rfl, v5, v6, v7, rfl, h8, h9, h10⟩ := hx0
 obtain rfl := h8.byte
 obtain rfl := h9.byte
 obtain rfl := h10.byte
 replace hx1 := hx1.mono hA0
 obtain ⟨cs11, rfl, v12, v13, v14, rfl, h15, h16, h17⟩ := hx1
 obtain rfl := h15.byte
 obtain rfl := h16.byte
 obtain rfl := h17.byte
 refine fn_enter Tryz.func3 rfl Tryz.ntmps3 rfl ?_
 unfold m_law51_SymmetryLimits at hm
 refine ewp_seq (ewp_region (l_box 2 O rfl rfl fun g18 w19 O20 S21 h22 => ?_))
 replace h22 : Lc 2 w19 O20 g18 22 [(.int .u8 x0.1.n), (.int .u8 x0.2.1.n), (.int .u8 x0.2.2.n)] := h22
 refine l_box 3 O20 rfl rfl fun g23 w24 O25 S26 h27 => ?_
 replace h27 : Lc 3 w24 O25 g23 22 [(.int .u8 x1.1.n), (.int .u8 x1.2.1.n), (.int .u8 x1.2.2.n)] := h27
 refine o_as rfl rfl (o_z ?_)
 refine ewp_seq (ewp_seq (ewp_region ?_))
 obtain ⟨q28, e29, hm⟩ := bs hm
 refine l_callA (O := O25) (A := All w24) (R := fun w' F v => Vb w' F v q28) (c_law51_awake (fun _ h => h)  e29) rfl rfl fun v34 w30 O31 S32 h33 => ?_
 obtain rfl := h33.bool
 cases q28
 case false =>
  replace hm := iF hm
  refine o_nf rfl rfl (o_z ?_)
  refine ewp_true rfl (ewp_seq (ewp_region (o_as rfl rfl (o_z ?_))))
  refine ewp_ret ?_
  obtain rfl := sm hm
  replace hB := ((hB.st S21).st S26).st S32
  exact ret1v rfl (res_tmp rfl) ⟨hB.ext, vBool⟩
 replace hm := iT hm
 refine o_nt rfl rfl (o_z ?_)
 refine ewp_false rfl (ewp_skip (ewp_seq (ewp_draw (· = w30) [(0, true), (1, true), (2, true), (3, true), (4, true), (5, true), (6, true), (7, true), (8, true), (9, true), (10, true)] (by kernel_rfl) rfl (by kernel_rfl) rfl ?_)))
 refine h_iaP (j := 0) rfl rfl rfl rfl ?_
 replace h22 := (h22.st S26).st S32
 refine h_ldA (hc := Blk.cell (i := 0) (h22.1) rfl) rfl rfl rfl ?_
 obtain ⟨n35, e36, hm⟩ := bs hm
 have r37 := remI_in e36 (x0.1).rng
 refine h_rmK (he := e36) rfl rfl rfl rfl ?_
 refine h_cv (hr := r37) rfl rfl rfl ?_
 obtain ⟨n38, e39, hm⟩ := bs hm
 have r40 := (chkI_rng e39)
 refine h_adE (he := e39) rfl rfl rfl rfl ?_
 refine h_iaP (j := 0) rfl rfl rfl rfl ?_
 replace h27 := h27.st S32
 refine h_ldA (hc := Blk.cell (i := 0) (h27.1) rfl) rfl rfl rfl ?_
 obtain ⟨n41, e42, hm⟩ := bs hm
 have r43 := remI_in e42 (x1.1).rng
 refine h_rmK (he := e42) rfl rfl rfl rfl ?_
 refine h_cv (hr := r43) rfl rfl rfl ?_
 refine h_as rfl rfl rfl (h_as rfl rfl rfl (h_z ?_))
 refine ewp_seq (ewp_region (o_mv rfl rfl (o_mv rfl rfl (l_bslice 4 (by decide) O31 (xs := (([n38, n38, 2] : List Int) : List Int)) rfl rfl rfl rfl ⟨(vInt r40), (vInt r40), (vInt (show inI64 (2) from by decide)), trivial⟩ (by decide) (by decide) rfl fun g44 w45 O46 S47 h48 => ?_))))
 refine l_bslice 5 (by decide) O46 (xs := (([0, 0, 0] : List Int) : List Int)) rfl rfl rfl rfl ⟨(vInt (show inI64 (0) from by decide)), (vInt (show inI64 (0) from by decide)), (vInt (show inI64 (0) from by decide)), trivial⟩ (by decide) (by decide) rfl fun g50 w51 O52 S53 h54 => ?_
 refine o_mv rfl rfl ?_
 obtain ⟨n56, e57, hm⟩ := bs hm
 have r58 := (chkI_rng e57)
 refine o_sbE (he := e57) rfl rfl rfl ?_
 refine o_bd rfl rfl rfl ?_
 refine o_mv rfl rfl ?_
 obtain ⟨n59, e60, hm⟩ := bs hm
 have r61 := (chkI_rng e60)
 refine o_sbE (he := e60) rfl rfl rfl ?_
 refine o_bd rfl rfl rfl ?_
 refine l_bslice 6 (by decide) O52 (xs := ([(⟨0, n56⟩ : Fct), (⟨1, n59⟩ : Fct)] : List Fct)) rfl rfl rfl rfl ⟨(Vb.ofAgg (cs := [(.int .i64 0), (.int .i64 n56)]) (x := (⟨0, n56⟩ : Fct)) rfl ⟨rfl, (show inI64 (0) from by decide), r58⟩), (Vb.ofAgg (cs := [(.int .i64 1), (.int .i64 n59)]) (x := (⟨1, n59⟩ : Fct)) rfl ⟨rfl, (show inI64 (1) from by decide), r61⟩), trivial⟩ (by decide) (by decide) rfl fun g62 w63 O64 S65 h66 => ?_
 refine o_bd rfl rfl rfl ?_
 refine l_alloc 7 O64 rfl fun g68 w69 O70 S71 h72 => ?_
 refine l_store h72 rfl rfl rfl (nle_b rfl) (allOne rfl) fun w73 S74 h72 => ?_
 replace h72 : Lc 7 w73 O70 g68 30 [(.slice (some ⟨g44, 0, none⟩) ([n38, n38, 2] : List Int).length 3), (.slice (some ⟨g50, 0, none⟩) ([0, 0, 0] : List Int).length 3), (.slice (some ⟨g62, 0, none⟩) [(⟨0, n56⟩ : Fct), (⟨1, n59⟩ : Fct)].length 2), (.slice none 0 0)] := h72
 refine o_z ?_
 refine ewp_seq (ewp_seq (ewp_region (o_mv rfl rfl (o_z ?_))))
 obtain ⟨res75, hL76, hm⟩ := bs hm
 refine ewp_join (aft res75 (fun (s77 : (List Opr)) (x78 : (Option Addr × Nat)) => [(2, (.int .i64 x2)), (8, (.int .i64 n41)), (9, (.pointer (some ⟨g68, 0, none⟩)))]) (fun s77 x78 w' => ∃ O' : Lab, Bs w A w' O' ∧ Lc 7 w' O' g68 30 [(.slice (some ⟨g44, 0, none⟩) ([n38, n38, 2] : List Int).length 3), (.slice (some ⟨g50, 0, none⟩) ([0, 0, 0] : List Int).length 3), (.slice (some ⟨g62, 0, none⟩) [(⟨0, n56⟩ : Fct), (⟨1, n59⟩ : Fct)].length 2), (.slice x78.1 s77.length x78.2)] ∧ Rw 4 w' O' 3 (.slice (some ⟨g44, 0, none⟩) ([n38, n38, 2] : List Int).length 3) ([n38, n38, 2] : List Int) ∧ Rw 5 w' O' 3 (.slice (some ⟨g50, 0, none⟩) ([0, 0, 0] : List Int).length 3) ([0, 0, 0] : List Int) ∧ Rw 6 w' O' 26 (.slice (some ⟨g62, 0, none⟩) [(⟨0, n56⟩ : Fct), (⟨1, n59⟩ : Fct)].length 2) [(⟨0, n56⟩ : Fct), (⟨1, n59⟩ : Fct)] ∧ Rw 10 w' O' 35 (.slice x78.1 s77.length x78.2) s77)) ?_ ?_
 ·
  refine ewp_block ?_
  replace hB := (((((((hB.st S21).st S26).st S32).st S47).st S53).st S65).st S71).st S74
  replace h48 := (((h48.st S53).st S65).st S71).st S74
  replace h54 := ((h54.st S65).st S71).st S74
  replace h66 := (h66.st S71).st S74
  refine ewp_rngC (σ := (List Opr)) (X := (Option Addr × Nat)) (N := 2) rfl hL76 (by decide) (fun (s77 : (List Opr)) (x78 : (Option Addr × Nat)) => [(2, (.int .i64 x2)), (7, (.int .i64 n38)), (8, (.int .i64 n41)), (9, (.pointer (some ⟨g68, 0, none⟩)))]) _ (fun s77 x78 w' => ∃ O' : Lab, Bs w A w' O' ∧ Lc 7 w' O' g68 30 [(.slice (some ⟨g44, 0, none⟩) ([n38, n38, 2] : List Int).length 3), (.slice (some ⟨g50, 0, none⟩) ([0, 0, 0] : List Int).length 3), (.slice (some ⟨g62, 0, none⟩) [(⟨0, n56⟩ : Fct), (⟨1, n59⟩ : Fct)].length 2), (.slice x78.1 s77.length x78.2)] ∧ Rw 4 w' O' 3 (.slice (some ⟨g44, 0, none⟩) ([n38, n38, 2] : List Int).length 3) ([n38, n38, 2] : List Int) ∧ Rw 5 w' O' 3 (.slice (some ⟨g50, 0, none⟩) ([0, 0, 0] : List Int).length 3) ([0, 0, 0] : List Int) ∧ Rw 6 w' O' 26 (.slice (some ⟨g62, 0, none⟩) [(⟨0, n56⟩ : Fct), (⟨1, n59⟩ : Fct)].length 2) [(⟨0, n56⟩ : Fct), (⟨1, n59⟩ : Fct)] ∧ Rw 10 w' O' 35 (.slice x78.1 s77.length x78.2) s77) _ (none, 0) ⟨O70, hB, h72, h48, h54, h66, (Rw.nil 10 (by decide))⟩ ⟨rfl, rfl, rfl, rfl, rfl, trivial⟩ (fun _ _ => ⟨rfl, rfl⟩) (fun _ _ => ⟨rfl, rfl, rfl, trivial⟩) (fun _ _ _ ⟨O', hB, h72, h48, h54, h66, h92⟩ => ⟨O', hB, h72, h48, h54, h66, h92⟩) ⟨rfl, rfl, rfl⟩ ?_
  rintro k79 s77 x78 w81 cc83 hx84 ⟨O82, hB, h72, h48, h54, h66, h92⟩ hf85 hret86 hbrk87
  have rk79 : inI64 (k79 : Int) := rngKN hx84 (by decide)
  refine ewp_seq (ewp_region (o_mv rfl rfl (o_as rfl rfl (o_z ?_))))
  refine ewp_seq (ewp_region (o_mv rfl rfl ?_))
  obtain ⟨n94, e95, hf85⟩ := bs hf85
  have r96 := (chkI_rng e95)
  refine o_sbE (he := e95) rfl rfl rfl ?_
  refine o_mv rfl rfl (o_z ?_)
  obtain ⟨N110, hN111, hf85⟩ := bs hf85
  replace hN111 := natI_some hN111
  obtain ⟨res97, hL98, hf85⟩ := bs hf85
  refine ewp_join (aft res97 (fun (s99 : (List Opr)) (x100 : (Option Addr × Nat)) => [(2, (.int .i64 x2)), (7, (.int .i64 n38)), (8, (.int .i64 n41)), (9, (.pointer (some ⟨g68, 0, none⟩))), (39, (.int .i64 (k79 : Int)))]) (fun s99 x100 w' => ∃ O' : Lab, Bs w A w' O' ∧ Lc 7 w' O' g68 30 [(.slice (some ⟨g44, 0, none⟩) ([n38, n38, 2] : List Int).length 3), (.slice (some ⟨g50, 0, none⟩) ([0, 0, 0] : List Int).length 3), (.slice (some ⟨g62, 0, none⟩) [(⟨0, n56⟩ : Fct), (⟨1, n59⟩ : Fct)].length 2), (.slice x100.1 s99.length x100.2)] ∧ Rw 4 w' O' 3 (.slice (some ⟨g44, 0, none⟩) ([n38, n38, 2] : List Int).length 3) ([n38, n38, 2] : List Int) ∧ Rw 5 w' O' 3 (.slice (some ⟨g50, 0, none⟩) ([0, 0, 0] : List Int).length 3) ([0, 0, 0] : List Int) ∧ Rw 6 w' O' 26 (.slice (some ⟨g62, 0, none⟩) [(⟨0, n56⟩ : Fct), (⟨1, n59⟩ : Fct)].length 2) [(⟨0, n56⟩ : Fct), (⟨1, n59⟩ : Fct)] ∧ Rw 10 w' O' 35 (.slice x100.1 s99.length x100.2) s99)) ?_ ?_
  ·
   refine ewp_block (ewp_rngN (σ := (List Opr)) (X := (Option Addr × Nat)) N110 hL98 (natI_le hN111 r96) (fun (s99 : (List Opr)) (x100 : (Option Addr × Nat)) => [(2, (.int .i64 x2)), (7, (.int .i64 n38)), (8, (.int .i64 n41)), (9, (.pointer (some ⟨g68, 0, none⟩))), (10, (.int .i64 (k79 : Int))), (39, (.int .i64 (k79 : Int)))]) _ (fun s99 x100 w' => ∃ O' : Lab, Bs w A w' O' ∧ Lc 7 w' O' g68 30 [(.slice (some ⟨g44, 0, none⟩) ([n38, n38, 2] : List Int).length 3), (.slice (some ⟨g50, 0, none⟩) ([0, 0, 0] : List Int).length 3), (.slice (some ⟨g62, 0, none⟩) [(⟨0, n56⟩ : Fct), (⟨1, n59⟩ : Fct)].length 2), (.slice x100.1 s99.length x100.2)] ∧ Rw 4 w' O' 3 (.slice (some ⟨g44, 0, none⟩) ([n38, n38, 2] : List Int).length 3) ([n38, n38, 2] : List Int) ∧ Rw 5 w' O' 3 (.slice (some ⟨g50, 0, none⟩) ([0, 0, 0] : List Int).length 3) ([0, 0, 0] : List Int) ∧ Rw 6 w' O' 26 (.slice (some ⟨g62, 0, none⟩) [(⟨0, n56⟩ : Fct), (⟨1, n59⟩ : Fct)].length 2) [(⟨0, n56⟩ : Fct), (⟨1, n59⟩ : Fct)] ∧ Rw 10 w' O' 35 (.slice x100.1 s99.length x100.2) s99) _ (x78.1, x78.2) ⟨O82, hB, h72, h48, h54, h66, h92⟩ ⟨rfl, (congrArg (fun z => some (Value.int .i64 z)) hN111), rfl, rfl, rfl, rfl, rfl, rfl, trivial⟩ (fun _ _ => ⟨rfl, rfl⟩) (fun _ _ => ⟨rfl, rfl, rfl, rfl, rfl, trivial⟩) (fun _ _ _ ⟨O', hB, h72, h48, h54, h66, h114⟩ => ⟨O', hB, h72, h48, h54, h66, h114⟩) ⟨rfl, rfl, rfl⟩ ⟨rfl, rfl⟩ ?_)
   rintro k101 s99 x100 w103 cc105 hx106 ⟨O104, hB, h72, h48, h54, h66, h114⟩ hf107 hret108 hbrk109
   have rk101 : inI64 (k101 : Int) := rngKN hx106 (natI_le hN111 r96)
   refine ewp_seq (ewp_region (o_mv rfl rfl (o_as rfl rfl (o_z ?_))))
   refine ewp_region (o_fa rfl rfl (o_ld (hc := Blk.cell (i := 3) (h72.1) rfl) rfl rfl ?_))
   refine o_mv rfl rfl (o_mv rfl rfl (o_mv rfl rfl (o_bd rfl rfl rfl ?_)))
   refine l_bslice 8 (by decide) O104 (xs := ([(⟨(k79 : Int), (k101 : Int)⟩ : Fct)] : List Fct)) rfl rfl rfl rfl ⟨(Vb.ofAgg (cs := [(.int .i64 (k79 : Int)), (.int .i64 (k101 : Int))]) (x := (⟨(k79 : Int), (k101 : Int)⟩ : Fct)) rfl ⟨rfl, rk79, rk101⟩), trivial⟩ (by decide) (by decide) rfl fun g116 w117 O118 S119 h120 => ?_
   refine o_mv rfl rfl (o_mv rfl rfl ?_)
   obtain ⟨n122, e123, hf107⟩ := bs hf107
   have r124 := (chkI_rng e123)
   refine o_adE (he := e123) rfl rfl rfl ?_
   refine o_bd rfl rfl rfl ?_
   refine l_bslice 9 (by decide) O118 (xs := ([(⟨([] : List Fct), (k79 : Int), n122⟩ : Eff)] : List Eff)) rfl rfl rfl rfl ⟨(Vb.ofAgg (cs := [(.slice none 0 0), (.int .i64 (k79 : Int)), (.int .i64 n122)]) (x := (⟨([] : List Fct), (k79 : Int), n122⟩ : Eff)) rfl ⟨_, rfl, (Vb.nil _ _), rk79, r124⟩), trivial⟩ (by decide) (by decide) rfl fun g125 w126 O127 S128 h129 => ?_
   refine o_bd rfl rfl rfl ?_
   replace h120 := h120.st S128
   obtain ⟨O131, S132, h120⟩ := h120.freeze
   replace h129 := h129.st S132
   obtain ⟨O133, S134, h129⟩ := h129.freeze
   obtain ⟨u135, e136, hf107⟩ := bs hf107
   obtain ⟨e136, e137, e138⟩ := appI_some e136
   replace h114 := (((h114.st S119).st S128).st S132).st S134
   replace h120 := h120.st S134
   refine l_append1 rfl (a := (⟨(⟨#[]⟩ : ByteArray), n41, [(⟨(k79 : Int), (k101 : Int)⟩ : Fct)], [(⟨([] : List Fct), (k79 : Int), n122⟩ : Eff)]⟩ : Opr)) h114 (Vb.ofAgg (cs := [(.string (⟨#[]⟩ : ByteArray)), (.int .i64 n41), (.slice (some ⟨g116, 0, none⟩) [(⟨(k79 : Int), (k101 : Int)⟩ : Fct)].length 1), (.slice (some ⟨g125, 0, none⟩) [(⟨([] : List Fct), (k79 : Int), n122⟩ : Eff)].length 1)]) (x := (⟨(⟨#[]⟩ : ByteArray), n41, [(⟨(k79 : Int), (k101 : Int)⟩ : Fct)], [(⟨([] : List Fct), (k79 : Int), n122⟩ : Eff)]⟩ : Opr)) rfl ⟨_, _, rfl, h120, h129, r43, (show (⟨#[]⟩ : ByteArray).size ≤ 9223372036854775807 from by decide)⟩) (fun _ => rfl) rfl (by decide) (by decide) e137 e138 ⟨rfl, rfl⟩ fun g139 A140 c141 w142 O143 S144 h145 => ?_
   rw [← e136] at h145 ⊢
   refine o_fa rfl rfl ?_
   replace h72 := ((((h72.st S119).st S128).st S132).st S134).st S144
   refine l_store h72 rfl rfl rfl (nle_b rfl) (allOne rfl) fun w147 S148 h72 => ?_
   replace h72 : Lc 7 w147 O143 g68 30 [(.slice (some ⟨g44, 0, none⟩) ([n38, n38, 2] : List Int).length 3), (.slice (some ⟨g50, 0, none⟩) ([0, 0, 0] : List Int).length 3), (.slice (some ⟨g62, 0, none⟩) [(⟨0, n56⟩ : Fct), (⟨1, n59⟩ : Fct)].length 2), (.slice A140 u135.length c141)] := h72
   refine o_z ?_
   obtain rfl := sm hf107
   replace hB := (((((hB.st S119).st S128).st S132).st S134).st S144).st S148
   replace h48 := (((((h48.st S119).st S128).st S132).st S134).st S144).st S148
   replace h54 := (((((h54.st S119).st S128).st S132).st S134).st S144).st S148
   replace h66 := (((((h66.st S119).st S128).st S132).st S134).st S144).st S148
   replace h145 := h145.st S148
   exact show Exists _ from ⟨_, (A140, c141), rfl, ⟨rfl, rfl, rfl, rfl, rfl, rfl, rfl, rfl, trivial⟩, _, hB, h72, h48, h54, h66, h145⟩
  rintro l149 w150 ⟨s153, x154, rfl, hs152, O151, hB, h72, h48, h54, h66, h114⟩
  replace hf85 := fin_done hf85
  obtain rfl := sm hf85
  exact show Exists _ from ⟨_, (x154.1, x154.2), rfl, ⟨(subs_lk hs152 _ _ rfl), (subs_lk hs152 _ _ rfl), (subs_lk hs152 _ _ rfl), (subs_lk hs152 _ _ rfl), (subs_lk hs152 _ _ rfl), trivial⟩, _, hB, h72, h48, h54, h66, h114⟩
 replace hB := (((((((hB.st S21).st S26).st S32).st S47).st S53).st S65).st S71).st S74
 replace h48 := (((h48.st S53).st S65).st S71).st S74
 replace h54 := ((h54.st S65).st S71).st S74
 replace h66 := (h66.st S71).st S74
 rintro l155 w156 ⟨s159, x160, rfl, hs158, O157, hB, h72, h48, h54, h66, h92⟩
 replace hm := fin_done hm
 refine ewp_sub _ hs158 ?_
 refine ewp_seq (ewp_region (o_fa rfl rfl (o_ld (hc := Blk.cell (i := 3) (h72.1) rfl) rfl rfl ?_)))
 refine o_mv rfl rfl ?_
 obtain ⟨n161, e162, hm⟩ := bs hm
 have r163 := (chkI_rng e162)
 refine o_adE (he := e162) rfl rfl rfl ?_
 refine o_bd rfl rfl rfl ?_
 refine l_bslice 11 (by decide) O157 (xs := ([(⟨([] : List Fct), 2, 1⟩ : Eff)] : List Eff)) rfl rfl rfl rfl ⟨(Vb.ofAgg (cs := [(.slice none 0 0), (.int .i64 2), (.int .i64 1)]) (x := (⟨([] : List Fct), 2, 1⟩ : Eff)) rfl ⟨_, rfl, (Vb.nil _ _), (show inI64 (2) from by decide), (show inI64 (1) from by decide)⟩), trivial⟩ (by decide) (by decide) rfl fun g164 w165 O166 S167 h168 => ?_
 refine o_bd rfl rfl rfl ?_
 obtain ⟨O170, S171, h168⟩ := h168.freeze
 obtain ⟨u172, e173, hm⟩ := bs hm
 obtain ⟨e173, e174, e175⟩ := appI_some e173
 replace h92 := (h92.st S167).st S171
 refine l_append1 rfl (a := (⟨(⟨#[]⟩ : ByteArray), n161, ([] : List Fct), [(⟨([] : List Fct), 2, 1⟩ : Eff)]⟩ : Opr)) h92 (Vb.ofAgg (cs := [(.string (⟨#[]⟩ : ByteArray)), (.int .i64 n161), (.slice none 0 0), (.slice (some ⟨g164, 0, none⟩) [(⟨([] : List Fct), 2, 1⟩ : Eff)].length 1)]) (x := (⟨(⟨#[]⟩ : ByteArray), n161, ([] : List Fct), [(⟨([] : List Fct), 2, 1⟩ : Eff)]⟩ : Opr)) rfl ⟨_, _, rfl, (Vb.nil _ _), h168, r163, (show (⟨#[]⟩ : ByteArray).size ≤ 9223372036854775807 from by decide)⟩) (fun _ => rfl) rfl (by decide) (by decide) e174 e175 ⟨rfl, rfl⟩ fun g176 A177 c178 w179 O180 S181 h182 => ?_
 rw [← e173] at h182 ⊢
 refine o_fa rfl rfl ?_
 replace h72 := ((h72.st S167).st S171).st S181
 refine l_store h72 rfl rfl rfl (nle_b rfl) (allOne rfl) fun w184 S185 h72 => ?_
 replace h72 : Lc 7 w184 O180 g68 30 [(.slice (some ⟨g44, 0, none⟩) ([n38, n38, 2] : List Int).length 3), (.slice (some ⟨g50, 0, none⟩) ([0, 0, 0] : List Int).length 3), (.slice (some ⟨g62, 0, none⟩) [(⟨0, n56⟩ : Fct), (⟨1, n59⟩ : Fct)].length 2), (.slice A177 u172.length c178)] := h72
 refine o_z ?_
 refine ewp_seq (ewp_region (o_la (hl := rfl) (hc := (h72.1).cellsAt) rfl rfl ?_))
 replace h48 := (((h48.st S167).st S171).st S181).st S185
 obtain ⟨O186, S187, h48⟩ := h48.freeze
 replace h54 := ((((h54.st S167).st S171).st S181).st S185).st S187
 obtain ⟨O188, S189, h54⟩ := h54.freeze
 replace h66 := (((((h66.st S167).st S171).st S181).st S185).st S187).st S189
 obtain ⟨O190, S191, h66⟩ := h66.freeze
 replace h182 := (((h182.st S185).st S187).st S189).st S191
 obtain ⟨O192, S193, h182⟩ := h182.freeze
 obtain ⟨q194, e195, hm⟩ := bs hm
 replace hB := (((((((hB.st S167).st S171).st S181).st S185).st S187).st S189).st S191).st S193
 replace h48 := ((h48.st S189).st S191).st S193
 replace h54 := (h54.st S191).st S193
 replace h66 := h66.st S193
 refine l_call (O := O192) (R := fun w' F v => T2 w' F v q194) (c_symmetry_Find Fr.lt (Vb.ofAgg (cs := [(.slice (some ⟨g44, 0, none⟩) ([n38, n38, 2] : List Int).length 3), (.slice (some ⟨g50, 0, none⟩) ([0, 0, 0] : List Int).length 3), (.slice (some ⟨g62, 0, none⟩) [(⟨0, n56⟩ : Fct), (⟨1, n59⟩ : Fct)].length 2), (.slice A177 u172.length c178)]) (x := (⟨([n38, n38, 2] : List Int), ([0, 0, 0] : List Int), [(⟨0, n56⟩ : Fct), (⟨1, n59⟩ : Fct)], u172⟩ : Tsk)) rfl ⟨_, _, _, _, rfl, h48, h54, h66, h182⟩) (show inI64 (1048576) from by decide) (TabF.bs hA hT hB) e195) rfl rfl fun v200 w196 O197 S198 h199 => ?_
 obtain ⟨v201, v202, rfl, h203, h204⟩ := h199
 obtain ⟨A205, c206, rfl⟩ := h203.form
 obtain ⟨rfl, r207⟩ := h204.err
 refine o_mv rfl rfl (o_ex rfl rfl rfl (o_ex rfl rfl rfl (o_as rfl rfl (o_as rfl rfl (o_z ?_)))))
 refine ewp_seq (ewp_region ?_)
 replace h72 := ((((h72.st S187).st S189).st S191).st S193).st S198
 refine o_la (hl := rfl) (hc := (h72.1).cellsAt) rfl rfl ?_
 refine o_mv rfl rfl ?_
 obtain ⟨q208, e209, hm⟩ := bs hm
 replace hB := hB.st S198
 replace h48 := h48.st S198
 replace h54 := h54.st S198
 replace h66 := h66.st S198
 replace h182 := h182.st S198
 refine l_call (O := O197) (R := fun w' F v => T2 w' F v q208) (c_symmetry_Find Fr.lt (Vb.ofAgg (cs := [(.slice (some ⟨g44, 0, none⟩) ([n38, n38, 2] : List Int).length 3), (.slice (some ⟨g50, 0, none⟩) ([0, 0, 0] : List Int).length 3), (.slice (some ⟨g62, 0, none⟩) [(⟨0, n56⟩ : Fct), (⟨1, n59⟩ : Fct)].length 2), (.slice A177 u172.length c178)]) (x := (⟨([n38, n38, 2] : List Int), ([0, 0, 0] : List Int), [(⟨0, n56⟩ : Fct), (⟨1, n59⟩ : Fct)], u172⟩ : Tsk)) rfl ⟨_, _, _, _, rfl, h48, h54, h66, h182⟩) rx2 (TabF.bs hA hT hB) e209) rfl rfl fun v214 w210 O211 S212 h213 => ?_
 obtain ⟨v215, v216, rfl, h217, h218⟩ := h213
 obtain ⟨A219, c220, rfl⟩ := h217.form
 obtain ⟨rfl, r221⟩ := h218.err
 refine o_mv rfl rfl (o_ex rfl rfl rfl (o_ex rfl rfl rfl (o_as rfl rfl (o_as rfl rfl (o_z ?_)))))
 refine ewp_seq (ewp_seq ?_)
 obtain ⟨y222, hy223, hm⟩ := bs hm
 refine ewp_join (fun l' w' => ∃ (x225 : Unit) (O' : Lab), subs l' [(12, (.slice A205 q194.1.length c206)), (14, (.slice A219 q208.1.length c220)), (15, (errV q208.2.n)), (119, (.bool y222))] ∧ Bs w A w' O' ∧ Vb w' (Fr 0 w' O') (.slice A205 q194.1.length c206) q194.1 ∧ Vb w' (Fr 0 w' O') (.slice A219 q208.1.length c220) q208.1) ?_ ?_
 ·
  refine ewp_region (o_mv rfl rfl (o_rnS rfl rfl (fun c226 => ?_) fun c226 => ?_))
  ·
   replace hy223 := ip hy223 c226
   refine o_mv rfl rfl (owp_no rfl rfl rfl rfl (owp_no rfl rfl rfl rfl (owp_no rfl rfl rfl rfl (o_pt rfl rfl rfl (o_mv rfl rfl (owp_no rfl rfl rfl rfl (owp_no rfl rfl rfl rfl (owp_no rfl rfl rfl rfl (owp_no rfl rfl rfl rfl (owp_no rfl rfl rfl rfl (owp_no rfl rfl rfl rfl (owp_no rfl rfl rfl rfl (o_pt rfl rfl rfl (o_mv rfl rfl ?_))))))))))))))
   refine owp_no rfl rfl rfl rfl (owp_no rfl rfl rfl rfl (owp_no rfl rfl rfl rfl (owp_no rfl rfl rfl rfl (owp_no rfl rfl rfl rfl (owp_no rfl rfl rfl rfl (owp_no rfl rfl rfl rfl (o_pt rfl rfl rfl (o_mv rfl rfl (owp_no rfl rfl rfl rfl (owp_no rfl rfl rfl rfl (owp_no rfl rfl rfl rfl (owp_no rfl rfl rfl rfl (owp_no rfl rfl rfl rfl (owp_no rfl rfl rfl rfl ?_))))))))))))))
   refine owp_no rfl rfl rfl rfl (o_pt rfl rfl rfl (o_z ?_))
   obtain rfl := sm hy223
   replace hB := hB.st S212
   replace h203 := h203.st S212
   exact ⟨(), _, ⟨rfl, rfl, rfl, rfl, trivial⟩, hB, h203, h217⟩
  replace hy223 := im hy223 c226
  refine o_mv rfl rfl (owp_yes rfl rfl (o_mv rfl rfl (owp_yes rfl rfl (o_ln rfl rfl ?_))))
  replace h203 := h203.st S212
  have l228 : q194.1.length ≤ 9223372036854775807 := Nat.le_trans h203.len.2.1 h203.len.2.2
  have r227 : inI64 (q194.1.length : Int) := rngNat l228
  refine owp_yes rfl rfl (o_neS rfl rfl rfl (fun c229 => ?_) fun c229 => ?_)
  ·
   replace hy223 := ip hy223 c229
   refine o_pf rfl rfl rfl (o_mv rfl rfl (owp_no rfl rfl rfl rfl (owp_no rfl rfl rfl rfl (owp_no rfl rfl rfl rfl (owp_no rfl rfl rfl rfl (owp_no rfl rfl rfl rfl (owp_no rfl rfl rfl rfl (owp_no rfl rfl rfl rfl (o_pt rfl rfl rfl (o_mv rfl rfl (owp_no rfl rfl rfl rfl (owp_no rfl rfl rfl rfl (owp_no rfl rfl rfl rfl (owp_no rfl rfl rfl rfl ?_))))))))))))))
   refine owp_no rfl rfl rfl rfl (owp_no rfl rfl rfl rfl (owp_no rfl rfl rfl rfl (o_pt rfl rfl rfl (o_mv rfl rfl (owp_no rfl rfl rfl rfl (owp_no rfl rfl rfl rfl (owp_no rfl rfl rfl rfl (owp_no rfl rfl rfl rfl (owp_no rfl rfl rfl rfl (owp_no rfl rfl rfl rfl (owp_no rfl rfl rfl rfl (o_pt rfl rfl rfl (o_z ?_)))))))))))))
   obtain rfl := sm hy223
   replace hB := hB.st S212
   exact ⟨(), _, ⟨rfl, rfl, rfl, rfl, trivial⟩, hB, h203, h217⟩
  replace hy223 := im hy223 c229
  refine o_pf rfl rfl rfl (o_mv rfl rfl (owp_yes rfl rfl (o_mv rfl rfl (owp_yes rfl rfl ?_))))
  obtain ⟨a230, e231, hy223⟩ := bs hy223
  obtain ⟨p233, x232⟩ := atI_some' e231
  obtain ⟨b234, o235, ce236, hA237, hl238, hd239, v241, v242, v243, rfl, h244, h247, h250⟩ := h203.elem' x232
  obtain ⟨A245, c246, rfl⟩ := h244.form
  obtain ⟨A248, c249, rfl⟩ := h247.form
  obtain ⟨A251, c252, rfl⟩ := h250.form
  refine o_iaE (hA := hA237) (hj := (Int.toNat_of_nonneg p233).symm) (hlt := hl238) rfl rfl rfl ?_
  refine owp_yes rfl rfl (o_fa rfl rfl (owp_yes rfl rfl (o_ld (hc := cat0 hd239) rfl rfl ?_)))
  refine owp_yes rfl rfl ?_
  obtain ⟨a253, e254, hy223⟩ := bs hy223
  obtain ⟨p256, x255⟩ := atI_some' e254
  obtain ⟨b257, o258, ce259, hA260, hl261, hd262, rfl, r264⟩ := h244.elem' x255
  refine o_iaE (hA := hA260) (hj := (Int.toNat_of_nonneg p256).symm) (hlt := hl261) rfl rfl rfl ?_
  refine owp_yes rfl rfl (o_ld (hc := cat0 hd262) rfl rfl ?_)
  refine owp_yes rfl rfl (o_neS rfl rfl rfl (fun c265 => ?_) fun c265 => ?_)
  ·
   replace hy223 := ip hy223 c265
   refine o_pf rfl rfl rfl (o_mv rfl rfl (owp_no rfl rfl rfl rfl (owp_no rfl rfl rfl rfl (owp_no rfl rfl rfl rfl (owp_no rfl rfl rfl rfl (owp_no rfl rfl rfl rfl (owp_no rfl rfl rfl rfl (owp_no rfl rfl rfl rfl (o_pt rfl rfl rfl (o_mv rfl rfl (owp_no rfl rfl rfl rfl (owp_no rfl rfl rfl rfl (owp_no rfl rfl rfl rfl (owp_no rfl rfl rfl rfl ?_))))))))))))))
   refine owp_no rfl rfl rfl rfl (owp_no rfl rfl rfl rfl (owp_no rfl rfl rfl rfl (o_pt rfl rfl rfl (o_z ?_))))
   obtain rfl := sm hy223
   replace hB := hB.st S212
   exact ⟨(), _, ⟨rfl, rfl, rfl, rfl, trivial⟩, hB, h203, h217⟩
  replace hy223 := im hy223 c265
  refine o_pf rfl rfl rfl (o_mv rfl rfl (owp_yes rfl rfl (o_mv rfl rfl (owp_yes rfl rfl ?_))))
  obtain ⟨a266, e267, hy223⟩ := bs hy223
  obtain ⟨p269, x268⟩ := atI_some' e267
  obtain ⟨b270, o271, ce272, hA273, hl274, hd275, v277, v278, v279, rfl, h280, h283, h286⟩ := h203.elem' x268
  obtain ⟨A281, c282, rfl⟩ := h280.form
  obtain ⟨A284, c285, rfl⟩ := h283.form
  obtain ⟨A287, c288, rfl⟩ := h286.form
  refine o_iaE (hA := hA273) (hj := (Int.toNat_of_nonneg p269).symm) (hlt := hl274) rfl rfl rfl ?_
  refine owp_yes rfl rfl (o_fa rfl rfl (owp_yes rfl rfl (o_ld (hc := cat0 hd275) rfl rfl ?_)))
  refine owp_yes rfl rfl ?_
  obtain ⟨a289, e290, hy223⟩ := bs hy223
  obtain ⟨p292, x291⟩ := atI_some' e290
  obtain ⟨b293, o294, ce295, hA296, hl297, hd298, rfl, r300⟩ := h280.elem' x291
  refine o_iaE (hA := hA296) (hj := (Int.toNat_of_nonneg p292).symm) (hlt := hl297) rfl rfl rfl ?_
  refine owp_yes rfl rfl (o_ld (hc := cat0 hd298) rfl rfl ?_)
  refine owp_yes rfl rfl (o_neS rfl rfl rfl (fun c301 => ?_) fun c301 => ?_)
  ·
   replace hy223 := ip hy223 c301
   refine o_pf rfl rfl rfl (o_mv rfl rfl (owp_no rfl rfl rfl rfl (owp_no rfl rfl rfl rfl (owp_no rfl rfl rfl rfl (owp_no rfl rfl rfl rfl (owp_no rfl rfl rfl rfl (owp_no rfl rfl rfl rfl (owp_no rfl rfl rfl rfl (o_pt rfl rfl rfl (o_z ?_))))))))))
   obtain rfl := sm hy223
   replace hB := hB.st S212
   exact ⟨(), _, ⟨rfl, rfl, rfl, rfl, trivial⟩, hB, h203, h217⟩
  replace hy223 := im hy223 c301
  refine o_pf rfl rfl rfl (o_mv rfl rfl (owp_yes rfl rfl (o_mv rfl rfl (owp_yes rfl rfl ?_))))
  obtain ⟨a302, e303, hy223⟩ := bs hy223
  obtain ⟨p305, x304⟩ := atI_some' e303
  obtain ⟨b306, o307, ce308, hA309, hl310, hd311, v313, v314, v315, rfl, h316, h319, h322⟩ := h203.elem' x304
  obtain ⟨A317, c318, rfl⟩ := h316.form
  obtain ⟨A320, c321, rfl⟩ := h319.form
  obtain ⟨A323, c324, rfl⟩ := h322.form
  refine o_iaE (hA := hA309) (hj := (Int.toNat_of_nonneg p305).symm) (hlt := hl310) rfl rfl rfl ?_
  refine owp_yes rfl rfl (o_fa rfl rfl (owp_yes rfl rfl (o_ld (hc := cat0 hd311) rfl rfl ?_)))
  refine owp_yes rfl rfl ?_
  obtain ⟨a325, e326, hy223⟩ := bs hy223
  obtain ⟨p328, x327⟩ := atI_some' e326
  obtain ⟨b329, o330, ce331, hA332, hl333, hd334, rfl, r336⟩ := h316.elem' x327
  refine o_iaE (hA := hA332) (hj := (Int.toNat_of_nonneg p328).symm) (hlt := hl333) rfl rfl rfl ?_
  refine owp_yes rfl rfl (o_ld (hc := cat0 hd334) rfl rfl ?_)
  refine owp_yes rfl rfl (o_neS rfl rfl rfl (fun c337 => ?_) fun c337 => ?_)
  ·
   replace hy223 := ip hy223 c337
   refine o_pf rfl rfl rfl (o_z ?_)
   obtain rfl := sm hy223
   replace hB := hB.st S212
   exact ⟨(), _, ⟨rfl, rfl, rfl, rfl, trivial⟩, hB, h203, h217⟩
  replace hy223 := im hy223 c337
  refine o_pf rfl rfl rfl (o_z ?_)
  obtain rfl := sm hy223
  replace hB := hB.st S212
  exact ⟨(), _, ⟨rfl, rfl, rfl, rfl, trivial⟩, hB, h203, h217⟩
 replace hB := hB.st S212
 replace h203 := h203.st S212
 rintro l338 w339 ⟨x225, O340, hs341, hB, h203, h217⟩
 refine ewp_sub _ hs341 ?_
 refine ewp_cond rfl (fun c342 => ?_) (fun c342 => ?_)
 ·
  replace hm := ip hm c342
  refine ewp_seq (ewp_region (o_as rfl rfl (o_z ?_)))
  refine ewp_ret ?_
  obtain rfl := sm hm
  exact ret1v rfl (res_tmp rfl) ⟨hB.ext, vBool⟩
 replace hm := im' hm c342
 refine ewp_skip (ewp_seq (ewp_seq (ewp_region (o_mv rfl rfl (o_rnS rfl rfl (fun c343 => ?_) fun c343 => ?_)))))
 ·
  replace hm := ip hm c343
  refine o_z ?_
  refine ewp_true rfl (ewp_seq ?_)
  obtain ⟨y344, hy345, hm⟩ := bs hm
  refine ewp_join (fun l' w' => ∃ (x347 : Unit) (O' : Lab), subs l' [(6, (.bool y344))] ∧ Bs w A w' O') ?_ ?_
  ·
   refine ewp_region (o_mv rfl rfl ?_)
   obtain ⟨q348, e349, hy345⟩ := bs hy345
   refine l_callA (O := O340) (A := All w339) (R := fun w' F v => Vb w' F v q348) (c_base_Is (fun _ h => h) r221 (show inI64 (10) from by decide) e349) rfl rfl fun v354 w350 O351 S352 h353 => ?_
   obtain rfl := h353.bool
   cases q348
   case false =>
    replace hy345 := iF hy345
    refine o_mv rfl rfl (owp_no rfl rfl rfl rfl (owp_no rfl rfl rfl rfl (owp_no rfl rfl rfl rfl (o_pf rfl rfl rfl (o_as rfl rfl (o_z ?_))))))
    obtain rfl := sm hy345
    replace hB := hB.st S352
    exact ⟨(), _, ⟨rfl, trivial⟩, hB⟩
   replace hy345 := iT hy345
   refine o_mv rfl rfl (owp_yes rfl rfl (o_mv rfl rfl (owp_yes rfl rfl (o_ln rfl rfl ?_))))
   replace h217 := h217.st S352
   have l356 : q208.1.length ≤ 9223372036854775807 := Nat.le_trans h217.len.2.1 h217.len.2.2
   have r355 : inI64 (q208.1.length : Int) := rngNat l356
   refine owp_yes rfl rfl (o_eeS rfl rfl rfl (fun c357 => ?_) fun c357 => ?_)
   ·
    replace hy345 := ip hy345 c357
    refine o_pt rfl rfl rfl (o_as rfl rfl (o_z ?_))
    obtain rfl := sm hy345
    replace hB := hB.st S352
    exact ⟨(), _, ⟨rfl, trivial⟩, hB⟩
   replace hy345 := im hy345 c357
   refine o_pt rfl rfl rfl (o_as rfl rfl (o_z ?_))
   obtain rfl := sm hy345
   replace hB := hB.st S352
   exact ⟨(), _, ⟨rfl, trivial⟩, hB⟩
  rintro l358 w359 ⟨x347, O360, hs361, hB⟩
  refine ewp_sub _ hs361 ?_
  refine ewp_ret ?_
  obtain rfl := sm hm
  exact ret1v rfl (res_tmp rfl) ⟨hB.ext, vBool⟩
 replace hm := im hm c343
 refine o_z ?_
 refine ewp_false rfl (ewp_skip (ewp_seq ?_))
 obtain ⟨y362, hy363, hm⟩ := bs hm
 refine ewp_join (fun l' w' => ∃ (x365 : Unit) (O' : Lab), subs l' [(6, (.bool y362))] ∧ Bs w A w' O') ?_ ?_
 ·
  refine ewp_drawX [] O340 ?_
  refine x_pre (fuel := 3) [] [(0, true), (1, true), (2, true), (3, true), (4, true), (5, true), (6, true), (7, true), (8, true), (9, true)] (by kernel_rfl) rfl ?_
  refine h_mv rfl rfl rfl (h_ln rfl rfl rfl ?_)
  have l367 : q208.1.length ≤ 9223372036854775807 := Nat.le_trans h217.len.2.1 h217.len.2.2
  have r366 : inI64 (q208.1.length : Int) := rngNat l367
  refine h_eeS rfl rfl rfl rfl (fun c368 => ?_) fun c368 => ?_
  ·
   replace hy363 := ip hy363 c368
   refine h_mv rfl rfl rfl (hwp_o rfl (hwq_yes rfl rfl (g_mv rfl rfl (hwp_o rfl (hwq_yes rfl rfl ?_)))))
   obtain ⟨a369, e370, hy363⟩ := bs hy363
   obtain ⟨p372, x371⟩ := atI_some' e370
   obtain ⟨b373, o374, ce375, hA376, hF379, hl377, hd378, v380, v381, v382, rfl, h383, h386, h389⟩ := h217.elem x371
   obtain ⟨A384, c385, rfl⟩ := h383.form
   obtain ⟨A387, c388, rfl⟩ := h386.form
   obtain ⟨A390, c391, rfl⟩ := h389.form
   refine g_iaE (hA := hA376) (hj := (Int.toNat_of_nonneg p372).symm) (hlt := hl377) rfl rfl rfl ?_
   refine hwp_o rfl (hwq_yes rfl rfl (g_laB (hl := rfl) (hb := fun w' ⟨O', hq⟩ => (cellsAt_agree (hq.agree (i := 0) (by decide)) hF379 hd378)) rfl rfl ?_))
   refine hwp_o rfl (hwq_yes rfl rfl (g_mv rfl rfl (hwp_o rfl (hwq_yes rfl rfl ?_))))
   obtain ⟨a392, e393, hy363⟩ := bs hy363
   obtain ⟨p395, x394⟩ := atI_some' e393
   obtain ⟨b396, o397, ce398, hA399, hF402, hl400, hd401, v403, v404, v405, rfl, h406, h409, h412⟩ := h203.elem x394
   obtain ⟨A407, c408, rfl⟩ := h406.form
   obtain ⟨A410, c411, rfl⟩ := h409.form
   obtain ⟨A413, c414, rfl⟩ := h412.form
   refine g_iaE (hA := hA399) (hj := (Int.toNat_of_nonneg p395).symm) (hlt := hl400) rfl rfl rfl ?_
   refine hwp_o rfl (hwq_yes rfl rfl (g_laB (hl := rfl) (hb := fun w' ⟨O', hq⟩ => (cellsAt_agree (hq.agree (i := 0) (by decide)) hF402 hd401)) rfl rfl ?_))
   refine hwp_nilT ?_
   refine x_one (i := 10) (by kernel_rfl) rfl ?_
   refine owp_yes rfl rfl ?_
   obtain ⟨q415, e416, hy363⟩ := bs hy363
   refine l_callA (O := O340) (A := All w339) (R := fun w' F v => Vb w' F v q415) (c_law51_Same (fun _ h => h) (Vb.mono (F := Fr 0 w339 O340) (Vb.ofAgg (cs := [(.slice A384 a369.vars.length c385), (.slice A387 a369.vals.length c388), (.slice A390 a369.ops.length c391)]) (x := a369) rfl ⟨_, _, _, rfl, h383, h386, h389⟩) Fr.lt) (Vb.mono (F := Fr 0 w339 O340) (Vb.ofAgg (cs := [(.slice A407 a392.vars.length c408), (.slice A410 a392.vals.length c411), (.slice A413 a392.ops.length c414)]) (x := a392) rfl ⟨_, _, _, rfl, h406, h409, h412⟩) Fr.lt) e416) rfl rfl fun v421 w417 O418 S419 h420 => ?_
   obtain rfl := h420.bool
   have hZ := S419.lst [] (fun _ h => h.elim)
   cases q415
   case false =>
    replace hy363 := iF hy363
    refine x_go [] hZ (by kernel_rfl) ?_
    refine x_pre (fuel := 0) [] [(11, true), (12, true)] (by kernel_rfl) rfl ?_
    refine h_pt rfl rfl rfl rfl (h_as rfl rfl rfl (hwp_nilT ?_))
    refine x_nil (by kernel_rfl) ?_
    obtain rfl := sm hy363
    replace hB := hB.st S419
    exact ⟨(), _, ⟨rfl, trivial⟩, hB⟩
   replace hy363 := iT hy363
   refine x_go [] hZ (by kernel_rfl) ?_
   refine x_pre (fuel := 0) [] [(11, true), (12, true)] (by kernel_rfl) rfl ?_
   refine h_pt rfl rfl rfl rfl (h_as rfl rfl rfl (hwp_nilT ?_))
   refine x_nil (by kernel_rfl) ?_
   obtain rfl := sm hy363
   replace hB := hB.st S419
   exact ⟨(), _, ⟨rfl, trivial⟩, hB⟩
  replace hy363 := im hy363 c368
  refine h_mv rfl rfl rfl (h_no rfl rfl rfl rfl rfl (h_no rfl rfl rfl rfl rfl (h_no rfl rfl rfl rfl rfl (h_no rfl rfl rfl rfl rfl (h_no rfl rfl rfl rfl rfl (h_no rfl rfl rfl rfl rfl (hwp_nilT ?_)))))))
  refine x_one (i := 10) (by kernel_rfl) rfl ?_
  refine owp_no rfl rfl rfl rfl (x_go [] ((St.refl nT _ _).lst [] (fun _ h => h.elim)) (by kernel_rfl) ?_)
  refine x_pre (fuel := 0) [] [(11, true), (12, true)] (by kernel_rfl) rfl ?_
  refine h_pf rfl rfl rfl rfl (h_as rfl rfl rfl (hwp_nilT ?_))
  refine x_nil (by kernel_rfl) ?_
  obtain rfl := sm hy363
  exact ⟨(), _, ⟨rfl, trivial⟩, hB⟩
 rintro l422 w423 ⟨x365, O424, hs425, hB⟩
 refine ewp_sub _ hs425 ?_
 refine ewp_ret ?_
 obtain rfl := sm hm
 exact ret1v rfl (res_tmp rfl) ⟨hB.ext, vBool⟩
end
section
open Go Go.RowKit
/-- Find, with enough steps and with any number of steps. -/
theorem find_all {t : Tsk} (hok : TaskOk t) (ho : t.ops.length < 20) (hst : stepsU (allP t).length (allP t).length ≤ 1048576) : ∃ gens, GI t 0 gens ∧ Dis t gens ∧ Gens t 0 gens ∧ gens.length ≤ (allP t).length * (allP t).length ∧
    m_symmetry_Find t 1048576 = some (gens, ⟨0⟩) ∧ ∀ steps, m_symmetry_Find t steps = some ([], ⟨10⟩) ∨ m_symmetry_Find t steps = some (gens, ⟨0⟩) := by
  obtain ⟨sg, h1, h2⟩ := newF hok ho
  have hfe := fun (steps : Int) (M : Nat) (hM : max 0 (min steps 1048576) = (M : Int)) => find_eq hok (leafC_ok hok sg) (leafC_perm hok) (allP_len hok) hM (h2 (M : Int))
  have hfl := fndL_steps (t := t) (sg := sg) (leaf := leafC t) (M := 1048576) (allP t).length [] 0 (Nat.le_refl _) (by omega)
  obtain ⟨g1, g2, g3, g4⟩ := fnd_gen (M := 1048576) hok h1 (allP t).length [] 0 (Nat.le_refl _) (fun a ha => by simp at ha) ⟨fun a ha => by simp at ha, List.Pairwise.nil⟩ (fun w _ hfx => ⟨id, .one, fun p hp => hfx p (by rw [List.take_length]; exact mem_allP.2 hp)⟩) hfl
  refine ⟨_, g1, g2, g3, by simpa using g4, ?_, fun steps => ?_⟩
  · rw [hfe 1048576 1048576 (by decide), hfl]; rfl
  · obtain ⟨M, hM⟩ := Int.eq_ofNat_of_zero_le (show 0 ≤ max 0 (min steps 1048576) by omega)
    rw [hfe steps M hM]
    rcases fndL_lim (t := t) (sg := sg) (leaf := leafC t) (show M ≤ 1048576 by omega) (allP t).length [] 0 with ⟨e1, e2⟩ | e
    · left; rw [e1, e2]; rfl
    · right; rw [e, hfl]; rfl
theorem one_gen {t : Tsk} {s : Swp} {gens : List Swp} (h1 : GI t 0 gens) (h2 : Dis t gens) (h3 : Gens t 0 gens) (hs : SymP t s) (hne : ∃ p, InP t p ∧ imP s p ≠ p) (hall : ∀ w, SymF t w → (∀ p, InP t p → imP w p = p) ∨ ∀ p, InP t p → imP w p = imP s p) : ∃ a, gens = [a] ∧ SymP t a ∧ ∀ p, InP t p → imP a p = imP s p := by
  have hg : ∀ a ∈ gens, ∀ p, InP t p → imP a p = imP s p := fun a ha => by
    rcases hall a (h1 a ha).1.f with h | h
    · obtain ⟨p, hp, e⟩ := h2.1 a ha
      exact absurd (h p hp) e
    · exact h
  match gens, h1, h2, h3, hg with
  | [], _, _, h3, _ =>
    obtain ⟨π, p1, p2⟩ := h3 s hs.f (fun p hp => by simp at hp)
    obtain ⟨p, hp, e⟩ := hne
    cases p1 with
    | one => exact absurd (p2 p hp) e
    | step _ ha => simp at ha
  | [a], h1, _, _, hg => exact ⟨a, rfl, (h1 a (by simp)).1, hg a (by simp)⟩
  | a :: b :: r, _, h2, _, hg =>
    obtain ⟨p, hp, e⟩ := (List.pairwise_cons.1 h2.2).1 b (by simp)
    exact absurd ((hg a (by simp) p hp).trans (hg b (by simp) p hp).symm) e
theorem op_im {t : Tsk} {x : Swp} (hx : SymP t x) {o : Opr} (ho : o ∈ t.ops) : ∃ p ∈ t.ops, o.cost = p.cost ∧ imL x o.pre = p.pre ∧ o.effs.map (imE x) = p.effs := by
  obtain ⟨k, hk⟩ := List.getElem?_of_mem ho
  obtain ⟨o', p, a, h1, _, _, h3, h4⟩ := ops_cases hx (lt_of_get hk)
  rw [hk] at h1
  injection h1 with h1
  subst h1
  exact ⟨p, List.mem_of_getElem? h3, h4⟩
theorem imL_one (x : Swp) (f : Fct) : imL x [f] = [imF x f] := List.perm_singleton.1 (imL_p x [f])
def incO (c v a : Int) : Opr := ⟨⟨#[]⟩, c, [⟨v, a⟩], [⟨[], v, a + 1⟩]⟩
def lsO (c : Int) : Opr := ⟨⟨#[]⟩, 1 + c, [], [⟨[], 2, 1⟩]⟩
theorem eff_im {x : Swp} {v a v' a' : Int} (h : [(⟨[], v, a⟩ : Eff)].map (imE x) = [⟨[], v', a'⟩]) : imF x ⟨v, a⟩ = ⟨v', a'⟩ := by
  have h : [imE x ⟨[], v, a⟩] = [⟨[], v', a'⟩] := h
  injection h with h _
  unfold imE at h
  injection h with _ h1 h2
  have : imF x ⟨v, a⟩ = ⟨(imF x ⟨v, a⟩).var, (imF x ⟨v, a⟩).val⟩ := rfl
  rw [this, h1, h2]
theorem up_im {t : Tsk} {x : Swp} {c v a : Int} (hx : SymP t x) (hm : incO c v a ∈ t.ops) (hall : ∀ p ∈ t.ops, p = lsO c ∨ ∃ v' a', p = incO c v' a' ∧ incO c v' a' ∈ t.ops) : ∃ v' a', incO c v' a' ∈ t.ops ∧ imF x ⟨v, a⟩ = ⟨v', a'⟩ ∧ imF x ⟨v, a + 1⟩ = ⟨v', a' + 1⟩ := by
  obtain ⟨p, hp, h1, h2, h3⟩ := op_im hx hm
  rcases hall p hp with rfl | ⟨v', a', rfl, hm'⟩
  · have : c = 1 + c := h1
    omega
  · refine ⟨v', a', hm', ?_, eff_im h3⟩
    have h2 : imL x [⟨v, a⟩] = [⟨v', a'⟩] := h2
    rw [imL_one] at h2
    injection h2
theorem ls_im {t : Tsk} {x : Swp} {c : Int} (hx : SymP t x) (hm : lsO c ∈ t.ops) (hall : ∀ p ∈ t.ops, p = lsO c ∨ ∃ v' a', p = incO c v' a' ∧ incO c v' a' ∈ t.ops) : imF x ⟨2, 1⟩ = ⟨2, 1⟩ := by
  obtain ⟨p, hp, h1, h2, h3⟩ := op_im hx hm
  rcases hall p hp with rfl | ⟨v', a', rfl, hm'⟩
  · exact eff_im h3
  · have : 1 + c = c := h1
    omega
theorem imP_is {x : Swp} {v a v' a' : Nat} (h : imF x ⟨(v : Int), (a : Int)⟩ = ⟨(v' : Int), (a' : Int)⟩) : imP x (v, a) = (v', a') := by
  unfold imP fc
  rw [h]
  simp
def limT (k : Int) (os : List Opr) : Tsk := ⟨[k, k, 2], [0, 0, 0], [⟨0, k - 1⟩, ⟨1, k - 1⟩], os⟩
def limT2 (c : Int) : Tsk := limT 2 [incO c 0 0, incO c 1 0, lsO c]
def limT3 (c : Int) : Tsk := limT 3 [incO c 0 0, incO c 0 1, incO c 1 0, incO c 1 1, lsO c]
theorem get3 {α : Type} {a b c y : α} {k : Nat} (h : [a, b, c][k]? = some y) : y = a ∨ y = b ∨ y = c := by
  have := List.mem_of_getElem? h
  simpa using this
theorem lim_op {k c v a : Int} (hk : k = 2 ∨ k = 3) (hc : 0 ≤ c ∧ c ≤ 3) (hv : v = 0 ∨ v = 1) (ha : 0 ≤ a ∧ a + 1 < k) : OpOk [k, k, 2] (incO c v a) := by
  have hf : ∀ b, 0 ≤ b → b < k → FactOk [k, k, 2] ⟨v, b⟩ := fun b h1 h2 => by
    refine ⟨?_, h1, k, ?_, h2⟩
    · show 0 ≤ v
      omega
    · rcases hv with rfl | rfl <;> rfl
  refine ⟨hc.1, ?_, (by show 1 ≤ 64; omega), ⟨(by decide : 0 ≤ 256), fun i h => absurd h (Nat.not_lt_zero _)⟩, factsOk_of (fun x hx => ?_) (List.pairwise_singleton _ _), fun j e he => ?_⟩
  · show c ≤ 1048576
    omega
  · have : x = ⟨v, a⟩ := by simpa [incO] using hx
    subst this
    exact hf a ha.1 (by omega)
  · have : e = ⟨[], v, a + 1⟩ := by simpa [incO] using List.mem_of_getElem? he
    subst this
    exact ⟨fo_nil _, hf (a + 1) (by omega) ha.2⟩
theorem lim_ls {k c : Int} (hc : 0 ≤ c ∧ c ≤ 3) : OpOk [k, k, 2] (lsO c) := by
  refine ⟨?_, ?_, (by show 1 ≤ 64; omega), ⟨(by decide : 0 ≤ 256), fun i h => absurd h (Nat.not_lt_zero _)⟩, fo_nil _, fun j e he => ?_⟩
  · show 0 ≤ 1 + c
    omega
  · show 1 + c ≤ 1048576
    omega
  · have : e = ⟨[], 2, 1⟩ := by simpa [lsO] using List.mem_of_getElem? he
    subst this
    exact ⟨fo_nil _, by decide, by decide, 2, rfl, by decide⟩
theorem lim_ok {k : Int} {os : List Opr} (hk : k = 2 ∨ k = 3) (hl : os.length ≤ 5) (ho : ∀ o ∈ os, OpOk [k, k, 2] o) : TaskOk (limT k os) := by
  refine ⟨(by decide : 3 ≤ 64), by show os.length ≤ 4096; omega, fun i n h => ?_, ⟨rfl, fun i v n h1 h2 => ?_⟩, factsOk_of (fun x hx => ?_) ?_, fun i o h => ho o (List.mem_of_getElem? h)⟩
  · rcases get3 h with rfl | rfl | rfl <;> omega
  · have e1 : v = 0 := by rcases get3 h1 with rfl | rfl | rfl <;> rfl
    have e2 : n = k ∨ n = k ∨ n = 2 := get3 h2
    omega
  · have : x = ⟨0, k - 1⟩ ∨ x = ⟨1, k - 1⟩ := by simpa [limT] using hx
    rcases this with rfl | rfl
    · exact ⟨Int.le_refl 0, by show 0 ≤ k - 1; omega, k, rfl, by show k - 1 < k; omega⟩
    · exact ⟨(by decide : (0 : Int) ≤ 1), by show 0 ≤ k - 1; omega, k, rfl, by show k - 1 < k; omega⟩
  · show [(⟨0, k - 1⟩ : Fct), ⟨1, k - 1⟩].Pairwise _
    simp
theorem lim2_ok {c : Int} (hc : 0 ≤ c ∧ c ≤ 3) : TaskOk (limT2 c) := lim_ok (.inl rfl) (show 3 ≤ 5 by omega) fun o ho => by
  have : o = incO c 0 0 ∨ o = incO c 1 0 ∨ o = lsO c := by simpa using ho
  rcases this with rfl | rfl | rfl
  · exact lim_op (.inl rfl) hc (.inl rfl) (by omega)
  · exact lim_op (.inl rfl) hc (.inr rfl) (by omega)
  · exact lim_ls hc
theorem lim3_ok {c : Int} (hc : 0 ≤ c ∧ c ≤ 3) : TaskOk (limT3 c) := lim_ok (.inr rfl) (show 5 ≤ 5 by omega) fun o ho => by
  have : o = incO c 0 0 ∨ o = incO c 0 1 ∨ o = incO c 1 0 ∨ o = incO c 1 1 ∨ o = lsO c := by simpa using ho
  rcases this with rfl | rfl | rfl | rfl | rfl
  · exact lim_op (.inr rfl) hc (.inl rfl) (by omega)
  · exact lim_op (.inr rfl) hc (.inl rfl) (by omega)
  · exact lim_op (.inr rfl) hc (.inr rfl) (by omega)
  · exact lim_op (.inr rfl) hc (.inr rfl) (by omega)
  · exact lim_ls hc
def lim2X : Swp := ⟨[1, 0, 2], [[0, 1], [0, 1], [0, 1]], [1, 0, 2]⟩
def lim3X : Swp := ⟨[1, 0, 2], [[0, 1, 2], [0, 1, 2], [0, 1]], [2, 3, 0, 1, 4]⟩
theorem permR_d {l : List Int} {n : Nat} (h : l.isPerm (rangeI n) = true) : PermR l n := List.isPerm_iff.1 h
theorem p102 : PermR [1, 0, 2] 3 := permR_d (by decide)
theorem p23014 : PermR [2, 3, 0, 1, 4] 5 := permR_d (by decide)
theorem lim_goal {x : Swp} {k : Int} {os : List Opr} (hp : FactsPerm (limT k os) x) (hok : TaskOk (limT k os)) (h0 : imF x ⟨0, k - 1⟩ = ⟨1, k - 1⟩) (h1 : imF x ⟨1, k - 1⟩ = ⟨0, k - 1⟩) : imL x (limT k os).goal = (limT k os).goal := by
  refine imL_eq hp hok.2.2.2.2.1 (facts_pw hok.2.2.2.2.1).2 ?_
  show [(⟨0, k - 1⟩ : Fct), ⟨1, k - 1⟩].Perm [imF x ⟨0, k - 1⟩, imF x ⟨1, k - 1⟩]
  rw [h0, h1]
  exact List.Perm.swap _ _ _
theorem lim_inc {x : Swp} {c v a v' a' : Int} (h0 : imF x ⟨v, a⟩ = ⟨v', a'⟩) (h1 : imF x ⟨v, a + 1⟩ = ⟨v', a' + 1⟩) : (incO c v a).cost = (incO c v' a').cost ∧ imL x (incO c v a).pre = (incO c v' a').pre ∧ (incO c v a).effs.map (imE x) = (incO c v' a').effs := by
  refine ⟨rfl, by show imL x [⟨v, a⟩] = [⟨v', a'⟩]; rw [imL_one, h0], ?_⟩
  show [imE x ⟨[], v, a + 1⟩] = [⟨[], v', a' + 1⟩]
  unfold imE
  rw [imL_nil]
  show [(⟨[], (imF x ⟨v, a + 1⟩).var, (imF x ⟨v, a + 1⟩).val⟩ : Eff)] = _
  rw [h1]
theorem lim_last {x : Swp} {c : Int} (h : imF x ⟨2, 1⟩ = ⟨2, 1⟩) : (lsO c).cost = (lsO c).cost ∧ imL x (lsO c).pre = (lsO c).pre ∧ (lsO c).effs.map (imE x) = (lsO c).effs := by
  refine ⟨rfl, imL_nil x, ?_⟩
  show [imE x ⟨[], 2, 1⟩] = [⟨[], 2, 1⟩]
  unfold imE
  rw [imL_nil]
  show [(⟨[], (imF x ⟨2, 1⟩).var, (imF x ⟨2, 1⟩).val⟩ : Eff)] = _
  rw [h]
theorem lim2_sym {c : Int} (hc : 0 ≤ c ∧ c ≤ 3) : SymP (limT2 c) lim2X := by
  have hp : FactsPerm (limT2 c) lim2X := by
    refine ⟨p102, rfl, fun k hk => ?_⟩
    have hk3 : k < 3 := hk
    have : k = 0 ∨ k = 1 ∨ k = 2 := by omega
    rcases this with rfl | rfl | rfl
    · exact ⟨2, 1, [0, 1], rfl, rfl, rfl, rfl, permR_01⟩
    · exact ⟨2, 0, [0, 1], rfl, rfl, rfl, rfl, permR_01⟩
    · exact ⟨2, 2, [0, 1], rfl, rfl, rfl, rfl, permR_01⟩
  refine ⟨hp, p102, lim_goal hp (lim2_ok hc) rfl rfl, fun k hk => ?_⟩
  have hk3 : k < 3 := hk
  have : k = 0 ∨ k = 1 ∨ k = 2 := by omega
  rcases this with rfl | rfl | rfl
  · exact ⟨_, _, 1, rfl, rfl, rfl, lim_inc rfl rfl⟩
  · exact ⟨_, _, 0, rfl, rfl, rfl, lim_inc rfl rfl⟩
  · exact ⟨_, _, 2, rfl, rfl, rfl, lim_last rfl⟩
theorem lim3_sym {c : Int} (hc : 0 ≤ c ∧ c ≤ 3) : SymP (limT3 c) lim3X := by
  have h012 : PermR [0, 1, 2] 3 := permR_d (by decide)
  have hp : FactsPerm (limT3 c) lim3X := by
    refine ⟨p102, rfl, fun k hk => ?_⟩
    have hk3 : k < 3 := hk
    have : k = 0 ∨ k = 1 ∨ k = 2 := by omega
    rcases this with rfl | rfl | rfl
    · exact ⟨3, 1, [0, 1, 2], rfl, rfl, rfl, rfl, h012⟩
    · exact ⟨3, 0, [0, 1, 2], rfl, rfl, rfl, rfl, h012⟩
    · exact ⟨2, 2, [0, 1], rfl, rfl, rfl, rfl, permR_01⟩
  refine ⟨hp, p23014, lim_goal hp (lim3_ok hc) rfl rfl, fun k hk => ?_⟩
  have hk3 : k < 5 := hk
  have : k = 0 ∨ k = 1 ∨ k = 2 ∨ k = 3 ∨ k = 4 := by omega
  rcases this with rfl | rfl | rfl | rfl | rfl
  · exact ⟨_, _, 2, rfl, rfl, rfl, lim_inc rfl rfl⟩
  · exact ⟨_, _, 3, rfl, rfl, rfl, lim_inc rfl rfl⟩
  · exact ⟨_, _, 0, rfl, rfl, rfl, lim_inc rfl rfl⟩
  · exact ⟨_, _, 1, rfl, rfl, rfl, lim_inc rfl rfl⟩
  · exact ⟨_, _, 4, rfl, rfl, rfl, lim_last rfl⟩
theorem lim2_in {c : Int} {p : Pn} (h : InP (limT2 c) p) : p = (0, 0) ∨ p = (0, 1) ∨ p = (1, 0) ∨ p = (1, 1) ∨ p = (2, 0) ∨ p = (2, 1) := by
  obtain ⟨a, b⟩ := p
  obtain ⟨h1, h2⟩ := h
  have h1 : a < 3 := h1
  have : a = 0 ∨ a = 1 ∨ a = 2 := by omega
  rcases this with rfl | rfl | rfl <;> (have h2 : b < 2 := h2; have : b = 0 ∨ b = 1 := (by omega); rcases this with rfl | rfl <;> simp)
theorem lim3_in {c : Int} {p : Pn} (h : InP (limT3 c) p) : p = (0, 0) ∨ p = (0, 1) ∨ p = (0, 2) ∨ p = (1, 0) ∨ p = (1, 1) ∨ p = (1, 2) ∨ p = (2, 0) ∨ p = (2, 1) := by
  obtain ⟨a, b⟩ := p
  obtain ⟨h1, h2⟩ := h
  have h1 : a < 3 := h1
  have : a = 0 ∨ a = 1 ∨ a = 2 := by omega
  rcases this with rfl | rfl | rfl
  · have h2 : b < 3 := h2
    have : b = 0 ∨ b = 1 ∨ b = 2 := by omega
    rcases this with rfl | rfl | rfl <;> simp
  · have h2 : b < 3 := h2
    have : b = 0 ∨ b = 1 ∨ b = 2 := by omega
    rcases this with rfl | rfl | rfl <;> simp
  · have h2 : b < 2 := h2
    have : b = 0 ∨ b = 1 := by omega
    rcases this with rfl | rfl <;> simp
theorem lim_20 {t : Tsk} {w : Swp} (hok : TaskOk t) (hp : FactsPerm t w) (h0 : InP t (2, 0)) (h1 : InP t (2, 1)) (hs : szT t 2 = 2) (h : imP w (2, 1) = (2, 1)) : imP w (2, 0) = (2, 0) := by
  have e1 : (imP w (2, 0)).1 = 2 := by
    have := (imP_var hok hp h0 h1).1 rfl
    rw [h] at this
    exact this
  have e2 := (imP_in hok hp h0).2
  rw [e1, hs] at e2
  have e3 : imP w (2, 0) ≠ (2, 1) := fun e => by
    have := imP_inj hok hp h0 h1 (e.trans h.symm)
    cases this
  have e4 : (imP w (2, 0)).2 = 0 := by
    have : (imP w (2, 0)).2 = 0 ∨ (imP w (2, 0)).2 = 1 := by omega
    rcases this with e | e
    · exact e
    · exact absurd (Prod.ext e1 e) e3
  exact Prod.ext e1 e4
theorem inc_inj {c v a v' a' : Int} (h : incO c v a = incO c v' a') : v = v' ∧ a = a' := by
  unfold incO at h
  injection h with _ _ h _
  injection h with h _
  injection h with h1 h2
  exact ⟨h1, h2⟩
theorem inc_ls {c v a : Int} : incO c v a ≠ lsO c := fun h => by
  unfold incO lsO at h
  injection h with _ _ h _
  cases h
theorem vars_of {t : Tsk} {a s : Swp} (hok : TaskOk t) (ha : SymP t a) (hs : FactsPerm t s) (h : ∀ p, InP t p → imP a p = imP s p) : a.vars = s.vars := List.ext_getElem? fun v => by
  by_cases hv : v < t.vars.length
  · have hin : InP t (v, 0) := ⟨hv, (szT_pos hok hv).1⟩
    obtain ⟨_, h1, _⟩ := imP_get hok ha.1 hin
    obtain ⟨_, h2, _⟩ := imP_get hok hs hin
    rw [h1, h2, h _ hin]
  · rw [List.getElem?_eq_none (by rw [ha.1.1.len]; omega), List.getElem?_eq_none (by rw [hs.1.len]; omega)]
theorem same_refl (x : Swp) : m_law51_Same x x = some true := by
  unfold m_law51_Same m_base_Ints
  rw [bof_t rfl, bnd_some, if_t, bnd_some, bof_t rfl, if_t, if_neg (by simp), bnd_some, if_f, rng_unit (fun k l hk => by rw [hk, bnd_some, bof_t rfl, bnd_some, if_t]), bnd_some, fin_d]
theorem lim2_all {c : Int} (hc : 0 ≤ c ∧ c ≤ 3) {w : Swp} (hw : SymF (limT2 c) w) : (∀ p, InP (limT2 c) p → imP w p = p) ∨ ∀ p, InP (limT2 c) p → imP w p = imP lim2X p := by
  have hok := lim2_ok hc
  obtain ⟨ops, hx⟩ := hw
  have hp : FactsPerm (limT2 c) w := hx.1
  have hm : ∀ v a, incO c v a ∈ (limT2 c).ops → (v = 0 ∨ v = 1) ∧ a = 0 := fun v a h => by
    have : incO c v a = incO c 0 0 ∨ incO c v a = incO c 1 0 ∨ incO c v a = lsO c := by simpa [limT2, limT] using h
    rcases this with h | h | h
    · have := inc_inj h; omega
    · have := inc_inj h; omega
    · exact absurd h inc_ls
  have hall : ∀ p ∈ (limT2 c).ops, p = lsO c ∨ ∃ v' a', p = incO c v' a' ∧ incO c v' a' ∈ (limT2 c).ops := fun p hp => by
    have : p = incO c 0 0 ∨ p = incO c 1 0 ∨ p = lsO c := by simpa [limT2, limT] using hp
    rcases this with rfl | rfl | rfl
    · exact .inr ⟨_, _, rfl, hp⟩
    · exact .inr ⟨_, _, rfl, hp⟩
    · exact .inl rfl
  have hi : ∀ a b : Nat, a < 3 → b < 2 → InP (limT2 c) (a, b) := fun a b h1 h2 => by
    refine ⟨h1, ?_⟩
    have : a = 0 ∨ a = 1 ∨ a = 2 := by omega
    rcases this with rfl | rfl | rfl <;> exact h2
  have hl := imP_is (v := 2) (a := 1) (v' := 2) (a' := 1) (ls_im hx (by simp [limT2, limT]) hall)
  have hl : imP w (2, 1) = (2, 1) := hl
  have hz := lim_20 hok hp (hi 2 0 (by omega) (by omega)) (hi 2 1 (by omega) (by omega)) rfl hl
  obtain ⟨v0, a0, m0, p0, q0⟩ := up_im (v := 0) (a := 0) hx (by simp [limT2, limT]) hall
  obtain ⟨v1, a1, m1, p1, q1⟩ := up_im (v := 1) (a := 0) hx (by simp [limT2, limT]) hall
  obtain ⟨hv0, rfl⟩ := hm v0 a0 m0
  obtain ⟨hv1, rfl⟩ := hm v1 a1 m1
  have hne : v0 ≠ v1 := fun e => by
    subst e
    have e := imF_inj hok hp ((hi 0 0 (by omega) (by omega)).ok hok) ((hi 1 0 (by omega) (by omega)).ok hok) (p0.trans p1.symm)
    injection e with e _
    cases e
  rcases hv0 with rfl | rfl <;> rcases hv1 with rfl | rfl
  · exact absurd rfl hne
  · have e1 : imP w (0, 0) = (0, 0) := imP_is p0
    have e2 : imP w (0, 1) = (0, 1) := imP_is q0
    have e3 : imP w (1, 0) = (1, 0) := imP_is p1
    have e4 : imP w (1, 1) = (1, 1) := imP_is q1
    left
    intro p hpi
    rcases lim2_in hpi with rfl | rfl | rfl | rfl | rfl | rfl <;> assumption
  · have e1 : imP w (0, 0) = (1, 0) := imP_is p0
    have e2 : imP w (0, 1) = (1, 1) := imP_is q0
    have e3 : imP w (1, 0) = (0, 0) := imP_is p1
    have e4 : imP w (1, 1) = (0, 1) := imP_is q1
    right
    intro p hpi
    rcases lim2_in hpi with rfl | rfl | rfl | rfl | rfl | rfl
    · exact e1
    · exact e2
    · exact e3
    · exact e4
    · exact hz
    · exact hl
  · exact absurd rfl hne
theorem lim3_all {c : Int} (hc : 0 ≤ c ∧ c ≤ 3) {w : Swp} (hw : SymF (limT3 c) w) : (∀ p, InP (limT3 c) p → imP w p = p) ∨ ∀ p, InP (limT3 c) p → imP w p = imP lim3X p := by
  have hok := lim3_ok hc
  obtain ⟨ops, hx⟩ := hw
  have hp : FactsPerm (limT3 c) w := hx.1
  have hm : ∀ v a, incO c v a ∈ (limT3 c).ops → (v = 0 ∨ v = 1) ∧ (a = 0 ∨ a = 1) := fun v a h => by
    have : incO c v a = incO c 0 0 ∨ incO c v a = incO c 0 1 ∨ incO c v a = incO c 1 0 ∨ incO c v a = incO c 1 1 ∨ incO c v a = lsO c := by simpa [limT3, limT] using h
    rcases this with h | h | h | h | h
    · have := inc_inj h; omega
    · have := inc_inj h; omega
    · have := inc_inj h; omega
    · have := inc_inj h; omega
    · exact absurd h inc_ls
  have hall : ∀ p ∈ (limT3 c).ops, p = lsO c ∨ ∃ v' a', p = incO c v' a' ∧ incO c v' a' ∈ (limT3 c).ops := fun p hp => by
    have : p = incO c 0 0 ∨ p = incO c 0 1 ∨ p = incO c 1 0 ∨ p = incO c 1 1 ∨ p = lsO c := by simpa [limT3, limT] using hp
    rcases this with rfl | rfl | rfl | rfl | rfl
    · exact .inr ⟨_, _, rfl, hp⟩
    · exact .inr ⟨_, _, rfl, hp⟩
    · exact .inr ⟨_, _, rfl, hp⟩
    · exact .inr ⟨_, _, rfl, hp⟩
    · exact .inl rfl
  have hi : ∀ a b : Nat, a < 2 → b < 3 → InP (limT3 c) (a, b) := fun a b h1 h2 => by
    refine ⟨by show a < 3; omega, ?_⟩
    have : a = 0 ∨ a = 1 := by omega
    rcases this with rfl | rfl <;> exact h2
  have hl := imP_is (v := 2) (a := 1) (v' := 2) (a' := 1) (ls_im hx (by simp [limT3, limT]) hall)
  have hl : imP w (2, 1) = (2, 1) := hl
  have hz := lim_20 hok hp (show InP (limT3 c) (2, 0) from ⟨(by decide : 2 < 3), (by decide : 0 < 2)⟩) (show InP (limT3 c) (2, 1) from ⟨(by decide : 2 < 3), (by decide : 1 < 2)⟩) rfl hl
  have key : ∀ v : Int, v = 0 ∨ v = 1 → ∃ v', (v' = 0 ∨ v' = 1) ∧ imF w ⟨v, 0⟩ = ⟨v', 0⟩ ∧ imF w ⟨v, 1⟩ = ⟨v', 1⟩ ∧ imF w ⟨v, 2⟩ = ⟨v', 2⟩ := fun v hv => by
    obtain ⟨v0, a0, m0, p0, q0⟩ := up_im (v := v) (a := 0) hx (by rcases hv with rfl | rfl <;> simp [limT3, limT]) hall
    obtain ⟨v1, a1, m1, p1, q1⟩ := up_im (v := v) (a := 1) hx (by rcases hv with rfl | rfl <;> simp [limT3, limT]) hall
    have q0 : imF w ⟨v, 1⟩ = ⟨v0, a0 + 1⟩ := q0
    have q1 : imF w ⟨v, 2⟩ = ⟨v1, a1 + 1⟩ := q1
    have p1 : imF w ⟨v, 1⟩ = ⟨v1, a1⟩ := p1
    have h0 := hm v0 a0 m0
    have h1 := hm v1 a1 m1
    have e := q0.symm.trans p1
    injection e with e1 e2
    subst e1
    have : a0 = 0 := by omega
    subst this
    have : a1 = 1 := by omega
    subst this
    exact ⟨v0, h0.1, p0, q0, q1⟩
  obtain ⟨v0, hv0, p0, q0, r0⟩ := key 0 (.inl rfl)
  obtain ⟨v1, hv1, p1, q1, r1⟩ := key 1 (.inr rfl)
  have hne : v0 ≠ v1 := fun e => by
    subst e
    have e := imF_inj hok hp ((hi 0 0 (by omega) (by omega)).ok hok) ((hi 1 0 (by omega) (by omega)).ok hok) (p0.trans p1.symm)
    injection e with e _
    cases e
  rcases hv0 with rfl | rfl <;> rcases hv1 with rfl | rfl
  · exact absurd rfl hne
  · have e1 : imP w (0, 0) = (0, 0) := imP_is p0
    have e2 : imP w (0, 1) = (0, 1) := imP_is q0
    have e3 : imP w (0, 2) = (0, 2) := imP_is r0
    have e4 : imP w (1, 0) = (1, 0) := imP_is p1
    have e5 : imP w (1, 1) = (1, 1) := imP_is q1
    have e6 : imP w (1, 2) = (1, 2) := imP_is r1
    left
    intro p hpi
    rcases lim3_in hpi with rfl | rfl | rfl | rfl | rfl | rfl | rfl | rfl <;> assumption
  · have e1 : imP w (0, 0) = (1, 0) := imP_is p0
    have e2 : imP w (0, 1) = (1, 1) := imP_is q0
    have e3 : imP w (0, 2) = (1, 2) := imP_is r0
    have e4 : imP w (1, 0) = (0, 0) := imP_is p1
    have e5 : imP w (1, 1) = (0, 1) := imP_is q1
    have e6 : imP w (1, 2) = (0, 2) := imP_is r1
    right
    intro p hpi
    rcases lim3_in hpi with rfl | rfl | rfl | rfl | rfl | rfl | rfl | rfl
    · exact e1
    · exact e2
    · exact e3
    · exact e4
    · exact e5
    · exact e6
    · exact hz
    · exact hl
  · exact absurd rfl hne
/-- The law's last part. -/
noncomputable def limEnd (t : Tsk) (x2 : Int) : Option Bool := bnd (m_symmetry_Find t 1048576) fun q194 => bnd (m_symmetry_Find t x2) fun q208 => bnd (if q194.2.n ≠ 0 then (some true) else (if (q194.1.length : Int) ≠ 1 then (some true) else (bnd (atI q194.1 0) fun a230 => bnd (atI a230.vars 0) fun a253 => if a253 ≠ 1 then (some true) else (bnd (atI q194.1 0) fun a266 => bnd (atI a266.vars 1) fun a289 => if a289 ≠ 0 then (some true) else (bnd (atI q194.1 0) fun a302 => bnd (atI a302.vars 2) fun a325 => if a325 ≠ 2 then (some true) else (some false))))) : Option Bool) fun y222 => if y222 = true then (some false) else (if q208.2.n ≠ 0 then (bnd (bnd (m_base_Is (⟨q208.2.n⟩ : Err) 10) fun q348 => if q348 = true then if (q208.1.length : Int) = 0 then (some true) else (some false) else some false : Option Bool) fun y344 => some y344) else (bnd (if (q208.1.length : Int) = 1 then (bnd (atI q208.1 0) fun a369 => bnd (atI q194.1 0) fun a392 => bnd (m_law51_Same a369 a392) fun q415 => if q415 = true then some true else some false) else (some false) : Option Bool) fun y362 => some y362))
theorem limEnd_eq {t : Tsk} {s : Swp} (hok : TaskOk t) (ho : t.ops.length < 20) (hst : stepsU (allP t).length (allP t).length ≤ 1048576) (hs : SymP t s) (hv : s.vars = [1, 0, 2]) (hne : ∃ p, InP t p ∧ imP s p ≠ p) (hall : ∀ w, SymF t w → (∀ p, InP t p → imP w p = p) ∨ ∀ p, InP t p → imP w p = imP s p) (x2 : Int) : limEnd t x2 = some true := by
  obtain ⟨gens, g1, g2, g3, _, g5, g6⟩ := find_all hok ho hst
  obtain ⟨a, rfl, ha, haa⟩ := one_gen g1 g2 g3 hs hne hall
  have hav : a.vars = [1, 0, 2] := (vars_of hok ha hs.1 haa).trans hv
  have h0 : atI [a] 0 = some a := rfl
  have e0 : atI [(1 : Int), 0, 2] 0 = some 1 := rfl
  have e1 : atI [(1 : Int), 0, 2] 1 = some 0 := rfl
  have e2 : atI [(1 : Int), 0, 2] 2 = some 2 := rfl
  have hlen : (([a] : List Swp).length : Int) = 1 := rfl
  unfold limEnd
  rw [g5, bnd_some]
  rcases g6 x2 with e | e
  · rw [e, bnd_some]
    simp only [hlen, h0, bnd_some, hav, e0, e1, e2]
    rw [if_neg (by decide), if_neg (by decide), if_neg (by decide), if_neg (by decide), if_neg (by decide), bnd_some, if_f, if_pos (by decide)]
    rfl
  · rw [e, bnd_some]
    simp only [hlen, h0, bnd_some, hav, e0, e1, e2]
    rw [if_neg (by decide), if_neg (by decide), if_neg (by decide), if_neg (by decide), if_neg (by decide), bnd_some, if_f, if_neg (by decide), if_pos trivial, same_refl]
    rfl
theorem lim2_end {c : Int} (hc : 0 ≤ c ∧ c ≤ 3) (x2 : Int) : limEnd (limT2 c) x2 = some true :=
  limEnd_eq (lim2_ok hc) (show 3 < 20 by omega) (show stepsU 6 6 ≤ 1048576 by decide) (lim2_sym hc) rfl ⟨(0, 0), ⟨(by decide : 0 < 3), (by decide : 0 < 2)⟩, (by decide : imP lim2X (0, 0) ≠ (0, 0))⟩ (fun _ hw => lim2_all hc hw) x2
theorem lim3_end {c : Int} (hc : 0 ≤ c ∧ c ≤ 3) (x2 : Int) : limEnd (limT3 c) x2 = some true :=
  limEnd_eq (lim3_ok hc) (show 5 < 20 by omega) (show stepsU 8 8 ≤ 1048576 by decide) (lim3_sym hc) rfl ⟨(0, 0), ⟨(by decide : 0 < 3), (by decide : 0 < 3)⟩, (by decide : imP lim3X (0, 0) ≠ (0, 0))⟩ (fun _ hw => lim3_all hc hw) x2
theorem limits_eq (x0 x1 : Byt × Byt × Byt) (x2 : Int) : m_law51_SymmetryLimits x0 x1 x2 = some true := by
  unfold m_law51_SymmetryLimits
  rw [awake51, bnd_some, if_t, remI_eq x0.1.lo (by decide), bnd_some]
  have hc := x1.1.lo
  have hm := x1.1.hi
  rw [chkI_eq (by have := x0.1.lo; have := x0.1.hi; unfold inI64; omega), bnd_some, remI_eq hc (by decide), bnd_some]
  have hcc : 0 ≤ x1.1.n % 4 ∧ x1.1.n % 4 ≤ 3 := by omega
  generalize x1.1.n % 4 = c at hcc
  have hk : 2 + x0.1.n % 2 = 2 ∨ 2 + x0.1.n % 2 = 3 := by omega
  generalize 2 + x0.1.n % 2 = k at hk
  have h1c : chkI (1 + c) = some (1 + c) := chkI_eq (by unfold inI64; omega)
  rcases hk with rfl | rfl
  · have hend := lim2_end hcc x2
    have hr : ∀ (F : Nat → List Opr → Option (Ctl (List Opr) Bool)), F 0 [] = some (.next [incO c 0 0]) → F 1 [incO c 0 0] = some (.next [incO c 0 0, incO c 1 0]) → rngN F 2 [] = some (.done [incO c 0 0, incO c 1 0]) := fun F h0 h1 => by
      refine rngN_from (fun k => match k with | 0 => [] | 1 => [incO c 0 0] | _ => [incO c 0 0, incO c 1 0]) rfl fun k hk => ?_
      have : k = 0 ∨ k = 1 := by omega
      rcases this with rfl | rfl
      · exact h0
      · exact h1
    rw [show chkI ((2 : Int) - 1) = some 1 from rfl, bnd_some, bnd_some, hr _ rfl rfl, bnd_some, fin_d, h1c, bnd_some]
    exact hend
  · have hend := lim3_end hcc x2
    have hr : ∀ (F : Nat → List Opr → Option (Ctl (List Opr) Bool)), F 0 [] = some (.next [incO c 0 0, incO c 0 1]) → F 1 [incO c 0 0, incO c 0 1] = some (.next [incO c 0 0, incO c 0 1, incO c 1 0, incO c 1 1]) → rngN F 2 [] = some (.done [incO c 0 0, incO c 0 1, incO c 1 0, incO c 1 1]) := fun F h0 h1 => by
      refine rngN_from (fun k => match k with | 0 => [] | 1 => [incO c 0 0, incO c 0 1] | _ => [incO c 0 0, incO c 0 1, incO c 1 0, incO c 1 1]) rfl fun k hk => ?_
      have : k = 0 ∨ k = 1 := by omega
      rcases this with rfl | rfl
      · exact h0
      · exact h1
    rw [show chkI ((3 : Int) - 1) = some 2 from rfl, bnd_some, bnd_some, hr _ rfl rfl, bnd_some, fin_d, h1c, bnd_some]
    exact hend
end
section
open Go Go.RowKit Go.ChangeShapes Go.WideShapes Go.Deep
instance : Reads Tryz.prog 22 (Byt × Byt × Byt) := readsArr3 Tryz.underlying22 c_byte (by kernel_rfl)
theorem lawSLimits {w : World} {v0 : Value} {a0 : Byt × Byt × Byt} (h0 : V w v0 a0) {v1 : Value} {a1 : Byt × Byt × Byt} (h1 : V w v1 a1) {v2 : Value} {a2 : Int} (h2 : V w v2 a2) (hT : TabF w (All w)) : Fn Tryz.prog 3 [v0, v1, v2] w fun v w' => v = .bool true ∧ Ext w w' := by
  obtain ⟨rfl, r2⟩ := Vb.int h2
  exact (c_law51_SymmetryLimits (fun _ h => h) h0 h1 r2 hT (limits_eq a0 a1 a2)).mono fun _ _ h => ⟨h.2.bool, h.1⟩
set_option maxRecDepth 100000 in
theorem doorMet (os : Os) (args : Array Value) : laidMetH Tryz.prog Rows.symmetryLimitsRow.laid ((World.doorLaid Tryz.prog 4000 os).forCall (fun _ _ => 0) ⟨#[], args, []⟩).memory :=
  laidMetH_of_parts3 (fuel := 8) (laidMet_of_run' 8 (by kernel_rfl) (by kernel_rfl)) (by kernel_rfl) (by kernel_rfl)
set_option maxRecDepth 100000 in
theorem symmetryLimits_lifted (os : Os) (started : os.Started) (H : Type) (enc : TypeId × Value → H) :
    ReturnsInHanded {} Tryz.checked os 3 .any (fun w args => (Rows.symmetryLimitsSpec.pre enc Tryz.prog Tryz.f3 Rows.symmetryLimitsRow.domain false w args ∧ laidMetH Tryz.prog Rows.symmetryLimitsRow.laid w) ∧ sizedMet enc Tryz.prog Tryz.f3 (OpenSpec.ofChange Rows.symmetryLimitsSpec) false w args) (Rows.symmetryLimitsSpec.post enc Tryz.prog Tryz.f3 false true false false) := by
  refine returnsInHanded_of_change_and (C := Tryz.checked) (X := fun w _ => laidMetH Tryz.prog Rows.symmetryLimitsRow.laid w) (fun _ _ _ hh h => h.of_heap hh) ownTry started (by kernel_rfl) Tryz.func3 (ChangeSpec.witness_shaped (enc := enc) (C := Tryz.checked) (os := os) (X := fun w _ => laidMetH Tryz.prog Rows.symmetryLimitsRow.laid w) false (World.doorLaid Tryz.prog 4000 os) #[(.agg #[.int .u8 0, .int .u8 0, .int .u8 0]), (.agg #[.int .u8 0, .int .u8 0, .int .u8 0]), (.int .i64 0)] 8 rfl (World.shaped_of_RefB (by kernel_rfl) (by kernel_rfl)) (by kernel_rfl) (by kernel_rfl) (by kernel_rfl) (doorMet os _)) ?_
  intro W base args ds gs before hval hW _ _ hlaid _
  have hopen : ∀ p, DataW.TrodAll enc Tryz.prog W 0 (fun _ => true) true Tryz.f3.params.toList args.toList ds p → ∃ v0 v1 v2 d0 d1 d2, args = #[v0, v1, v2] ∧ ds = [d0, d1, d2] ∧ (∃ a : Byt × Byt × Byt, V W v0 a) ∧ (∃ a : Byt × Byt × Byt, V W v1 a) ∧ (∃ a : Int, V W v2 a) := by
    intro p hA
    rw [Tryz.params3] at hA
    replace hval : ∀ (j : Nat) t v, (#[22, 22, 3] : Array TypeId)[j]? = some t → args[j]? = some v → Value.okWide Tryz.prog W .any base t v := by rw [← Tryz.params3]; exact hval
    obtain ⟨v0, vs0, d0, ds0, p0, q0, g0, e0, _, h0, r0⟩ := trodAll_cons hA
    obtain ⟨v1, vs1, d1, ds1, p1, q1, g1, e1, _, h1, r1⟩ := trodAll_cons r0
    obtain ⟨v2, vs2, d2, ds2, p2, q2, g2, e2, _, h2, r2⟩ := trodAll_cons r1
    obtain ⟨g, e, _⟩ := trodAll_nil r2
    rw [g] at g2; rw [e] at e2
    rw [g2] at g1; rw [e2] at e1
    rw [g1] at g0; rw [e1] at e0
    obtain rfl : args = #[v0, v1, v2] := by cases args; simp_all
    exact ⟨v0, v1, v2, d0, d1, d2, rfl, e0, (by first | exact openAgg rfl (hval 0 22 v0 rfl rfl) h0 | exact openOne rfl (hval 0 22 v0 rfl rfl) h0), (by first | exact openAgg rfl (hval 1 22 v1 rfl rfl) h1 | exact openOne rfl (hval 1 22 v1 rfl rfl) h1), (by first | exact openAgg rfl (hval 2 3 v2 rfl rfl) h2 | exact openOne rfl (hval 2 3 v2 rfl rfl) h2)⟩
  refine lawPost rfl (by kernel_rfl) (by rw [Tryz.params3]; exact of_decide_eq_true (by kernel_rfl)) hW ?_ ?_
  · intro p hA
    obtain ⟨v0, v1, v2, d0, d1, d2, _, rfl, _⟩ := hopen p hA
    rfl
  · intro p hA
    obtain ⟨v0, v1, v2, d0, d1, d2, rfl, _, ⟨a0, h0⟩, ⟨a1, h1⟩, ⟨a2, h2⟩⟩ := hopen p hA
    exact lawSLimits h0 h1 h2 (tabF_of (laid := Rows.symmetryLimitsRow.laid) rfl hlaid)
theorem symmetryLimits_said : Rows.SymmetryLimitsSaid :=
  OpenClaim.holds_of_wide 3 Tryz.f3 rfl rfl rfl rfl rfl rfl rfl ⟨rfl, rfl, rfl, rfl, rfl⟩ rfl rfl rfl rfl rfl (by kernel_rfl) Tryz.func3 (by kernel_rfl)
    (of_decide_eq_true (by kernel_rfl)) (by unfold Func.isWrapper; first | (rw [if_pos (by decide +kernel)]; kernel_rfl) | (rw [if_neg (by decide +kernel)]; exact ⟨rfl, rfl⟩))
    (fun os started H enc _ => symmetryLimits_lifted os started H enc)
theorem symmetryLimits_holds : Rows.SymmetryLimitsCardSaid :=
  Claim7.holds_tied_plain_at .later [] [.data, .data, .data] true (true, "03a333c742d1981ef5aacd3994ddfe60e77a6392c9885136920c7b5b57ec2ebe") true
    symmetryLimits_said (fun _ h => by cases h) (by kernel_rfl) (fun _ h => by cases h) symmetryLimits_row_tie rfl ⟨rfl, rfl⟩ (by kernel_rfl) rfl
    (fun f fn hf hfn => by
      obtain rfl : f = 3 := Option.some.inj ((show Tryz.prog.funcNamed "stratagem/stratagemlaw51.SymmetryLimits" = some 3 by kernel_rfl).symm.trans hf) |>.symm
      obtain rfl : fn = Tryz.f3 := (Option.some.inj (Tryz.func3.symm.trans hfn)).symm
      exact ⟨by kernel_rfl, fun j t ht => by
        rw [Tryz.params3] at ht
        have hm : t ∈ [22, 22, 3] := by simpa using Array.mem_of_getElem? ht
        have hall : ([22, 22, 3].all fun u => !Tryz.prog.wantsStandIn u) = true := by kernel_rfl
        exact (show Tryz.prog.wantsStandIn t = false by simpa using List.all_eq_true.1 hall t hm)⟩)
    (by kernel_rfl)
#print axioms symmetryLimits_holds
end
end Go.Proofs.YtdhaelekmjgbmaaGreatDoor

/- Own text: plain laws about tasks and decision trees. -/
import Derived.Test.YtfbcjknlihopcaaBuild
namespace Go.Proofs.Ytfbcjknlihopcaa
theorem bof_iff {p : Prop} : bof p = true ↔ p := ⟨fun h => Classical.byContradiction fun hn => (by rw [bof_f hn] at h; exact Bool.noConfusion h), bof_t⟩
theorem bof_false {p : Prop} : bof p = false ↔ ¬ p := by
  rw [← Bool.not_eq_true, bof_iff]
theorem factsOk_lt {vars : List Int} {f : List Fct} (h : FactsOk vars f) : ∀ (j i : Nat) (x y : Fct), i < j → f[i]? = some x → f[j]? = some y → x.var < y.var
  | 0, i, _, _, hij, _, _ => by omega
  | j + 1, i, x, y, hij, hx, hy => by
    by_cases he : i = j
    · subst he; exact h.2 i x y hx hy
    · obtain ⟨z, hz⟩ := some_of_lt (l := f) (k := j) (by have := lt_of_some hy; omega)
      have h1 := factsOk_lt h j i x z (by omega) hx hz
      have h2 := h.2 j z y hz hy
      omega
theorem factsOk_ge {vars : List Int} {f : List Fct} (h : FactsOk vars f) : ∀ (i : Nat) (x : Fct), f[i]? = some x → (i : Int) ≤ x.var
  | 0, x, hx => (h.1 0 x hx).1
  | i + 1, x, hx => by
    obtain ⟨z, hz⟩ := some_of_lt (l := f) (k := i) (by have := lt_of_some hx; omega)
    have h1 := factsOk_ge h i z hz
    have h2 := h.2 i z x hz hx
    omega
theorem factsOk_len {vars : List Int} {f : List Fct} (h : FactsOk vars f) : f.length ≤ vars.length := by
  rcases Nat.eq_zero_or_pos f.length with h0 | h0
  · omega
  · obtain ⟨x, hx⟩ := some_of_lt (l := f) (k := f.length - 1) (by omega)
    have h1 := factsOk_ge h _ x hx
    obtain ⟨h2, h3, y, hy, _⟩ := h.1 _ x hx
    have := lt_of_some hy
    omega
theorem conds_mem {t : Tsk} {f : List Fct} : f ∈ conds t ↔ f = t.goal ∨ ∃ (i : Nat) (o : Opr), t.ops[i]? = some o ∧ (f = o.pre ∨ ∃ (j : Nat) (e : Eff), o.effs[j]? = some e ∧ f = e.cond) := by
  unfold conds opConds
  rw [List.mem_cons, List.mem_flatMap]
  constructor
  · rintro (h | ⟨o, ho, hf⟩)
    · exact .inl h
    · obtain ⟨i, hi⟩ := List.getElem?_of_mem ho
      refine .inr ⟨i, o, hi, ?_⟩
      rcases List.mem_cons.1 hf with h | h
      · exact .inl h
      · obtain ⟨e, he, rfl⟩ := List.mem_map.1 h
        obtain ⟨j, hj⟩ := List.getElem?_of_mem he
        exact .inr ⟨j, e, hj, rfl⟩
  · rintro (h | ⟨i, o, ho, h⟩)
    · exact .inl h
    · refine .inr ⟨o, List.mem_of_getElem? ho, ?_⟩
      rcases h with rfl | ⟨j, e, he, rfl⟩
      · exact List.mem_cons_self
      · exact List.mem_cons_of_mem _ (List.mem_map.2 ⟨e, List.mem_of_getElem? he, rfl⟩)
theorem check_ok {t : Tsk} : checkN t = 0 ↔ TaskOk t := by
  unfold checkN
  constructor
  · intro h
    by_cases h1 : Large t
    · rw [if_pos (bof_iff.2 h1)] at h; cases h
    rw [if_neg (fun hh => h1 (bof_iff.1 hh))] at h
    by_cases h2 : VarsOk t ∧ CostsOk t
    case neg => rw [if_pos (bof_false.2 h2)] at h; cases h
    rw [if_neg (fun hh => bof_false.1 hh h2)] at h
    by_cases h3 : StateOk t.vars t.init ∧ CondsOk t ∧ EffsOk t
    case neg => rw [if_pos (bof_false.2 h3)] at h; cases h
    rw [if_neg (fun hh => bof_false.1 hh h3)] at h
    by_cases h4 : NamesOk t
    case neg => rw [if_pos (bof_false.2 h4)] at h; cases h
    have hc : ∀ f ∈ conds t, FactsOk t.vars f := fun f hf => by
      obtain ⟨i, hi⟩ := List.getElem?_of_mem hf
      exact h3.2.1 i f hi
    have hl : t.vars.length ≤ 64 ∧ t.ops.length ≤ 4096 ∧ (∀ (i : Nat) (o : Opr), t.ops[i]? = some o → o.effs.length ≤ 64) := by
      unfold Large at h1
      refine ⟨Nat.le_of_not_lt fun h => h1 (.inl h), Nat.le_of_not_lt fun h => h1 (.inr (.inl h)), fun i o ho => Nat.le_of_not_lt fun h => h1 (.inr (.inr (.inl ⟨i, o, ho, h⟩)))⟩
    exact ⟨hl.1, hl.2.1, h2.1, h3.1, hc _ (conds_mem.2 (.inl rfl)), fun i o ho => ⟨(h2.2 i o ho).1, (h2.2 i o ho).2, hl.2.2 i o ho, h4 i o ho, hc _ (conds_mem.2 (.inr ⟨i, o, ho, .inl rfl⟩)), fun j e he => ⟨hc _ (conds_mem.2 (.inr ⟨i, o, ho, .inr ⟨j, e, he, rfl⟩⟩)), h3.2.2 i o ho j e he⟩⟩⟩
  · rintro ⟨h1, h2, h3, h4, h5, h6⟩
    have hc : ∀ f ∈ conds t, FactsOk t.vars f := fun f hf => by
      rcases conds_mem.1 hf with rfl | ⟨i, o, ho, rfl | ⟨j, e, he, rfl⟩⟩
      · exact h5
      · exact (h6 i o ho).2.2.2.2.1
      · exact ((h6 i o ho).2.2.2.2.2 j e he).1
    have hL : ¬ Large t := by
      rintro (h | h | ⟨i, o, ho, h⟩ | ⟨f, hf, h⟩)
      · omega
      · omega
      · have := (h6 i o ho).2.2.1; omega
      · have := factsOk_len (hc f hf); omega
    have hV : VarsOk t ∧ CostsOk t := ⟨h3, fun i o ho => ⟨(h6 i o ho).1, (h6 i o ho).2.1⟩⟩
    have hS : StateOk t.vars t.init ∧ CondsOk t ∧ EffsOk t := ⟨h4, fun i f hf => hc f (List.mem_of_getElem? hf), fun i o ho j e he => ((h6 i o ho).2.2.2.2.2 j e he).2⟩
    have hN : NamesOk t := fun i o ho => (h6 i o ho).2.2.2.1
    rw [if_neg (fun hh => hL (bof_iff.1 hh)), if_neg (fun hh => bof_false.1 hh hV), if_neg (fun hh => bof_false.1 hh hS), if_neg (fun hh => bof_false.1 hh hN)]
/-- The operators' preconditions are right. -/
def PreOk (t : Tsk) : Prop := ∀ (i : Nat) o, t.ops[i]? = some o → FactsOk t.vars o.pre
theorem TaskOk.pre {t : Tsk} (h : TaskOk t) : PreOk t := fun i o ho => (h.2.2.2.2.2 i o ho).2.2.2.2.1
theorem preOf_ok {t : Tsk} (h : PreOk t) (op : Int) : FactsOk t.vars (preOf t op) := by
  unfold preOf
  cases ho : t.ops[op.toNat]? with
  | none => exact ⟨fun i x hx => by simp at hx, fun i x y hx => by simp at hx⟩
  | some o => exact h _ o ho
theorem factOn_some {l : List Fct} {v : Int} {f : Fct} (h : factOn l v = some f) : f ∈ l ∧ f.var = v := by
  unfold factOn at h
  exact ⟨List.mem_of_find?_eq_some h, by simpa using List.find?_some h⟩
theorem factOn_none {l : List Fct} {v : Int} (h : factOn l v = none) : ∀ f ∈ l, f.var ≠ v := by
  unfold factOn at h
  rw [List.find?_eq_none] at h
  intro f hf
  simpa using h f hf
theorem factOn_uniq {vars : List Int} {l : List Fct} (hl : FactsOk vars l) {f g : Fct} (hf : f ∈ l) (hg : g ∈ l) (he : f.var = g.var) : f = g := by
  obtain ⟨i, hi⟩ := List.getElem?_of_mem hf
  obtain ⟨j, hj⟩ := List.getElem?_of_mem hg
  rcases Nat.lt_trichotomy i j with h | h | h
  · have := factsOk_lt hl j i f g h hi hj; omega
  · subst h; rw [hi] at hj; injection hj
  · have := factsOk_lt hl i j g f h hj hi; omega
theorem TaskOk.fits {t : Tsk} (h : TaskOk t) : FitsVals t := by
  intro i o ho v f hf hv
  obtain ⟨h1, h2⟩ := factOn_some hf
  obtain ⟨j, hj⟩ := List.getElem?_of_mem h1
  obtain ⟨g1, g2, n, g3, g4⟩ := (h.pre i o ho).1 j f hj
  rw [h2] at g3
  exact ⟨g2, n, by simpa using g3, g4⟩
theorem TaskOk.vars {t : Tsk} (h : TaskOk t) : VarsOk t := h.2.2.1
def hf (t : Tsk) (s : List Int) (v : Nat) (op : Int) : Bool := (preOf t op).all fun f => decide (f.var < (v : Int)) || hasB s f
theorem hf_iff {t : Tsk} {s : List Int} {v : Nat} {op : Int} : hf t s v op = true ↔ ∀ f ∈ preOf t op, f.var < (v : Int) ∨ hasB s f = true := by
  unfold hf
  simp [List.all_eq_true]
theorem hf_none {t : Tsk} {s : List Int} {v : Nat} {op : Int} (h : factOn (preOf t op) (v : Int) = none) : hf t s v op = hf t s (v + 1) op := by
  rw [Bool.eq_iff_iff, hf_iff, hf_iff]
  constructor
  · intro hh f hm
    rcases hh f hm with h1 | h1
    · exact .inl (by omega)
    · exact .inr h1
  · intro hh f hm
    have := factOn_none h f hm
    rcases hh f hm with h1 | h1
    · exact .inl (by omega)
    · exact .inr h1
theorem hf_some {t : Tsk} {s : List Int} {v : Nat} {op : Int} {f : Fct} (hp : PreOk t) (h : factOn (preOf t op) (v : Int) = some f) : hf t s v op = (hasB s f && hf t s (v + 1) op) := by
  obtain ⟨h1, h2⟩ := factOn_some h
  rw [Bool.eq_iff_iff, Bool.and_eq_true, hf_iff, hf_iff]
  constructor
  · intro hh
    refine ⟨(hh f h1).resolve_left (by omega), fun g hg => ?_⟩
    rcases hh g hg with h3 | h3
    · exact .inl (by omega)
    · exact .inr h3
  · rintro ⟨h3, hh⟩ g hg
    rcases hh g hg with h4 | h4
    · by_cases he : g.var = (v : Int)
      · have : g = f := factOn_uniq (preOf_ok hp op) hg h1 (by omega)
        subst this; exact .inr h3
      · exact .inl (by omega)
    · exact .inr h4
theorem hf_same {t : Tsk} {s : List Int} {ops : List Int} : ∀ (k v : Nat), (∀ x, v ≤ x → x < v + k → tests t ops x = false) → ∀ op ∈ ops, hf t s v op = hf t s (v + k) op
  | 0, _, _, _, _ => rfl
  | k + 1, v, h, op, ho => by
    have h0 := h v (Nat.le_refl _) (by omega)
    unfold tests at h0
    rw [List.any_eq_false] at h0
    have h1 := h0 op ho
    have h2 : factOn (preOf t op) (v : Int) = none := by simpa using h1
    rw [hf_none h2, hf_same k (v + 1) (fun x hx1 hx2 => h x (by omega) (by omega)) op ho]
    congr 1; omega
theorem split_perm {a b c : Int → Bool} {p : Int → Bool} (h : ∀ x, p x = if a x = true then b x else if c x = true then b x else false) (hac : ∀ x, a x = true → c x = false) :
    ∀ l : List Int, (l.filter p).Perm ((l.filter a).filter b ++ (l.filter c).filter b)
  | [] => by simp
  | x :: l => by
    have ih := split_perm h hac l
    have hx := h x
    cases ha : a x
    · cases hc : c x
      · simp only [ha, hc] at hx
        simpa [List.filter_cons, ha, hc, hx] using ih
      · simp only [ha, hc] at hx
        cases hb : b x
        · rw [hb] at hx
          simpa [List.filter_cons, ha, hc, hb, hx] using ih
        · rw [hb] at hx
          simp only [List.filter_cons, ha, hc, hb, hx, if_true, Bool.false_eq_true, if_false]
          exact (ih.cons x).trans (List.perm_middle.symm)
    · have hc := hac x ha
      simp only [ha] at hx
      cases hb : b x
      · rw [hb] at hx
        simpa [List.filter_cons, ha, hc, hb, hx] using ih
      · rw [hb] at hx
        simp only [List.filter_cons, ha, hc, hb, hx, if_true, Bool.false_eq_true, if_false, List.cons_append]
        exact ih.cons x
theorem hf_end {t : Tsk} {s : List Int} (hp : PreOk t) (op : Int) : hf t s t.vars.length op = true := by
  rw [hf_iff]
  intro f hfm
  obtain ⟨i, hi⟩ := List.getElem?_of_mem hfm
  obtain ⟨h1, h2, n, h3, _⟩ := (preOf_ok hp op).1 i f hi
  have := lt_of_some h3
  exact .inl (by omega)
theorem nextV_spec (t : Tsk) (ops : List Int) {v : Nat} (h : v ≤ t.vars.length) : v ≤ nextV t ops v ∧ nextV t ops v ≤ t.vars.length ∧ (∀ u, v ≤ u → u < nextV t ops v → tests t ops u = false) ∧ (nextV t ops v < t.vars.length → tests t ops (nextV t ops v) = true) := by
  obtain ⟨h1, h2, h3, h4⟩ := nextF_spec t ops (t.vars.length - v) v
  exact ⟨h1, by unfold nextV; omega, h3, fun h => h4 (by unfold nextV at h; omega)⟩
theorem StateOk.at {vars s : List Int} (h : StateOk vars s) {u : Nat} (hu : u < vars.length) : ∃ (x : Nat) (n : Int), s[u]? = some (x : Int) ∧ vars[u]? = some n ∧ (x : Int) < n ∧ atN s u = x := by
  obtain ⟨y, hy⟩ := some_of_lt (l := s) (k := u) (by rw [h.1]; exact hu)
  obtain ⟨n, hn⟩ := some_of_lt hu
  obtain ⟨h1, h2⟩ := h.2 u y n hy hn
  obtain ⟨x, rfl⟩ := Int.eq_ofNat_of_zero_le h1
  exact ⟨x, n, hy, hn, h2, by simp [atN, hy]⟩
theorem coll_mkT {t : Tsk} {s : List Int} (hp : PreOk t) (hs : StateOk t.vars s) : ∀ (fuel : Nat) (ops : List Int) (v : Nat), v ≤ t.vars.length → t.vars.length < fuel + v →
    (coll s (mkT t fuel ops v)).Perm (ops.filter (hf t s v)) ∧ Fits s (mkT t fuel ops v) := by
  intro fuel
  induction fuel with
  | zero => intro ops v h1 h2; omega
  | succ fuel ih =>
    intro ops v h1 h2
    obtain ⟨g1, g2, g3, g4⟩ := nextV_spec t ops h1
    have hsame := hf_same (t := t) (s := s) (ops := ops) (nextV t ops v - v) v (fun x hx1 hx2 => g3 x hx1 (by omega))
    rw [show v + (nextV t ops v - v) = nextV t ops v from by omega] at hsame
    have hfil : ops.filter (hf t s v) = ops.filter (hf t s (nextV t ops v)) := List.filter_congr hsame
    rw [hfil]
    unfold mkT
    by_cases he : ops.isEmpty = true
    · rw [if_pos he]
      have : ops = [] := by simpa using he
      subst this
      exact ⟨by simp [coll], trivial⟩
    rw [if_neg he]
    by_cases hn : nextV t ops v = t.vars.length
    · rw [if_pos hn, hn]
      have : ops.filter (hf t s t.vars.length) = ops := List.filter_eq_self.2 fun x _ => hf_end hp x
      rw [this]
      exact ⟨List.Perm.refl _, trivial⟩
    rw [if_neg hn]
    obtain ⟨x, n, q1, q2, q3, q4⟩ := hs.at (u := nextV t ops v) (by omega)
    have i1 := ih (ops.filter (valB t (nextV t ops v) x)) (nextV t ops v + 1) (by omega) (by omega)
    have i2 := ih (ops.filter (restB t (nextV t ops v))) (nextV t ops v + 1) (by omega) (by omega)
    refine ⟨?_, ⟨x, q1, by rw [q2]; simp; omega⟩, by rw [q4]; exact i1.2, i2.2⟩
    rw [coll, q4]
    refine (i1.1.append i2.1).trans (split_perm (a := valB t (nextV t ops v) x) (c := restB t (nextV t ops v)) (fun op => ?_) (fun op h => ?_) ops).symm
    · unfold valB restB
      cases ho : factOn (preOf t op) (nextV t ops v : Int) with
      | none => rw [hf_none ho]; simp
      | some f =>
        rw [hf_some hp ho]
        obtain ⟨_, hv⟩ := factOn_some ho
        rw [hasB_eq (s := s) hv q1]
        by_cases hx : f.val = (x : Int)
        · simp [hx]
        · simp [hx, Ne.symm hx]
    · unfold valB at h
      unfold restB
      cases ho : factOn (preOf t op) (nextV t ops v : Int) with
      | none => rw [ho] at h; simp at h
      | some f => rfl
/-- All operators, and the tree of a task. -/
def allOps (t : Tsk) : List Int := (List.range t.ops.length).map fun i : Nat => (i : Int)
def treeOf (t : Tsk) : Tr := mkT t (t.vars.length + 1) (allOps t) 0
theorem all_congr {α : Type} {p q : α → Bool} : ∀ {l : List α}, (∀ x ∈ l, p x = q x) → l.all p = l.all q
  | [], _ => rfl
  | x :: l, h => by rw [List.all_cons, List.all_cons, h x List.mem_cons_self, all_congr fun y hy => h y (List.mem_cons_of_mem _ hy)]
theorem appl_eq {t : Tsk} (hp : PreOk t) (s : List Int) : appl t s = (allOps t).filter (hf t s 0) := by
  unfold appl applK allOps
  rw [List.filter_map]
  congr 1
  refine List.filter_congr fun i hi => ?_
  obtain ⟨o, ho⟩ := some_of_lt (l := t.ops) (k := i) (List.mem_range.1 hi)
  simp only [Function.comp, hf, preOf, holdsB, Int.toNat_natCast, ho]
  refine all_congr fun f hfm => ?_
  obtain ⟨j, hj⟩ := List.getElem?_of_mem hfm
  have := ((hp i o ho).1 j f hj).1
  have : decide (f.var < ((0 : Nat) : Int)) = false := decide_eq_false (by omega)
  rw [this, Bool.false_or]
theorem appl_sorted (t : Tsk) (s : List Int) : (appl t s).Pairwise fun x y => decide (x ≤ y) = true := by
  unfold appl applK
  refine List.Pairwise.map _ (fun a b h => ?_) (List.Pairwise.filter _ List.pairwise_lt_range)
  exact decide_eq_true (by omega)
theorem sortL_perm {l m : List Int} (h : l.Perm m) (hm : m.Pairwise fun x y => decide (x ≤ y) = true) : sortL l = m := by
  refine List.Perm.eq_of_pairwise (le := fun x y : Int => decide (x ≤ y) = true) (fun a b _ _ h1 h2 => ?_) (List.pairwise_mergeSort (fun a b c h1 h2 => ?_) (fun a b => ?_) l) hm ((List.mergeSort_perm _ _).trans h)
  · have := of_decide_eq_true h1; have := of_decide_eq_true h2; omega
  · have := of_decide_eq_true h1; have := of_decide_eq_true h2; exact decide_eq_true (by omega)
  · simp; omega
theorem findL_tree {t : Tsk} {s : List Int} (hp : PreOk t) (hs : StateOk t.vars s) : findL t (treeOf t) s = appl t s := by
  unfold findL
  rw [if_pos (bof_t hs)]
  refine sortL_perm ?_ (appl_sorted t s)
  rw [appl_eq hp]
  exact (coll_mkT hp hs _ _ 0 (Nat.zero_le _) (by omega)).1
theorem fits_tree {t : Tsk} {s : List Int} (hp : PreOk t) (hs : StateOk t.vars s) : Fits s (treeOf t) := (coll_mkT hp hs _ _ 0 (Nat.zero_le _) (by omega)).2
theorem coll_len (t : Tsk) (s : List Int) : ∀ (fuel : Nat) (ops : List Int) (v : Nat), (coll s (mkT t fuel ops v)).length ≤ ops.length := by
  intro fuel
  induction fuel with
  | zero => intro ops v; exact Nat.zero_le _
  | succ fuel ih =>
    intro ops v
    unfold mkT
    by_cases he : ops.isEmpty = true
    · rw [if_pos he]; exact Nat.zero_le _
    rw [if_neg he]
    by_cases hn : nextV t ops v = t.vars.length
    · rw [if_pos hn]; exact Nat.le_refl _
    rw [if_neg hn, coll, List.length_append]
    refine Nat.le_trans (Nat.add_le_add (ih _ _) (ih _ _)) ?_
    generalize nextV t ops v = u
    generalize atN s u = x
    clear he hn ih
    induction ops with
    | nil => simp
    | cons op ops ih2 =>
      have hac : valB t u x op = true → restB t u op = false := by
        unfold valB restB
        cases factOn (preOf t op) (u : Int) <;> simp
      rw [List.filter_cons, List.filter_cons]
      cases ha : valB t u x op
      · cases hc : restB t u op <;> simp <;> omega
      · rw [hac ha]; simp; omega
theorem allOps_len (t : Tsk) : (allOps t).length = t.ops.length := by simp [allOps]
theorem tree_len (t : Tsk) (s : List Int) : (coll s (treeOf t)).length ≤ t.ops.length := by
  have := coll_len t s (t.vars.length + 1) (allOps t) 0
  rwa [allOps_len] at this
/-- A variable that occurs in a precondition. -/
def occurs (t : Tsk) (v : Nat) : Bool := t.ops.any fun o => o.pre.any fun f => decide (f.var = (v : Int))
theorem tests_occurs {t : Tsk} {ops : List Int} {v : Nat} (h : tests t ops v = true) : occurs t v = true := by
  unfold tests at h
  rw [List.any_eq_true] at h
  obtain ⟨op, _, h⟩ := h
  cases ho : factOn (preOf t op) (v : Int) with
  | none => rw [ho] at h; cases h
  | some f =>
    obtain ⟨h1, h2⟩ := factOn_some ho
    unfold preOf at h1
    cases hop : t.ops[op.toNat]? with
    | none => rw [hop] at h1; cases h1
    | some o =>
      rw [hop] at h1
      unfold occurs
      rw [List.any_eq_true]
      refine ⟨o, List.mem_of_getElem? hop, ?_⟩
      rw [List.any_eq_true]
      exact ⟨f, h1, by simp [h2]⟩
theorem look_mkT (t : Tsk) (s : List Int) : ∀ (fuel : Nat) (ops : List Int) (v : Nat) (l : List Bool), v ≤ t.vars.length → (∀ i : Nat, l[i]? = some true → occurs t i = true) → ∀ i : Nat, (look s (mkT t fuel ops v) l)[i]? = some true → occurs t i = true := by
  intro fuel
  induction fuel with
  | zero => intro ops v l _ h; exact h
  | succ fuel ih =>
    intro ops v l hv h
    unfold mkT
    by_cases he : ops.isEmpty = true
    · rw [if_pos he]; exact h
    rw [if_neg he]
    by_cases hn : nextV t ops v = t.vars.length
    · rw [if_pos hn]; exact h
    rw [if_neg hn, look]
    obtain ⟨g1, g2, g3, g4⟩ := nextV_spec t ops hv
    refine ih _ _ _ (by omega) (ih _ _ _ (by omega) fun i hi => ?_)
    rw [List.getElem?_set] at hi
    by_cases hj : nextV t ops v = i
    · subst hj; exact tests_occurs (g4 (by omega))
    · rw [if_neg hj] at hi; exact h i hi
/-- How many variables occur in preconditions. -/
def looked (t : Tsk) : Nat := (List.range t.vars.length).countP (occurs t)
theorem count_le {p : Nat → Bool} : ∀ (l : List Bool) (k : Nat), (∀ i : Nat, l[i]? = some true → p (k + i) = true) → l.count true ≤ (List.range' k l.length).countP p
  | [], _, _ => by simp
  | b :: l, k, h => by
    have ih := count_le l (k + 1) fun i hi => by
      have := h (i + 1) (by simpa using hi)
      rwa [show k + 1 + i = k + (i + 1) from by omega]
    rw [List.length_cons, List.range'_succ, List.countP_cons]
    cases b
    · rw [List.count_cons_of_ne (by simp)]; omega
    · rw [List.count_cons_self, if_pos (show p k = true from h 0 rfl)]; omega
theorem findN_le {t : Tsk} {s : List Int} : findN t (treeOf t) s ≤ looked t := by
  unfold findN
  split
  · next hs =>
    have hs := bof_iff.1 hs
    have h1 := look_mkT t s (t.vars.length + 1) (allOps t) 0 (List.replicate s.length false) (Nat.zero_le _) (fun i hi => by
      rw [List.getElem?_replicate] at hi
      split at hi <;> simp at hi)
    have h2 := count_le (p := occurs t) (look s (treeOf t) (List.replicate s.length false)) 0 (fun i hi => by rw [Nat.zero_add]; exact h1 i hi)
    rw [look_length, List.length_replicate, ← List.range_eq_range'] at h2
    unfold looked
    rw [← hs.1]
    exact h2
  · exact Nat.zero_le _
end Go.Proofs.Ytfbcjknlihopcaa

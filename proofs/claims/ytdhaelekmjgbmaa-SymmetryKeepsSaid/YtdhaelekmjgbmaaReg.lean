/- Own text: regions of memory by labels: label 0 is read only, each other label has its own rows or variables; what has a label that is not touched stays. Rules of the operations in these words. They hold for every program. -/
import Derived.Test.YtdhaelekmjgbmaaData
namespace Go.Proofs.Ytdhaelekmjgbmaa
open Go Go.RowKit
abbrev Lab := Nat → Nat
theorem allOne {l : List Value} (h : l.all (·.oneCell') = true) : ∀ u ∈ l, u.oneCell' = true := List.all_eq_true.1 h
/-- From a world with labels to a later one: what has a label outside T is as it was. -/
structure St (T : Nat → Prop) (w : World) (O : Lab) (w' : World) (O' : Lab) : Prop where
  os : w'.os = w.os
  tape : w'.tape = w.tape
  output : w'.output = w.output
  size : w.heap.size ≤ w'.heap.size
  same : ∀ k, k < w.heap.size → ¬ T (O k) → w'.heap[k]? = w.heap[k]? ∧ O' k = O k
theorem St.refl (T : Nat → Prop) (w : World) (O : Lab) : St T w O w O := ⟨rfl, rfl, rfl, Nat.le_refl _, fun _ _ _ => ⟨rfl, rfl⟩⟩
theorem St.comp {T T' : Nat → Prop} {w w' w'' : World} {O O' O'' : Lab} (h : St T w O w' O') (k : St T' w' O' w'' O'') (hT : ∀ i, T' i → T i) : St T w O w'' O'' :=
  ⟨k.os.trans h.os, k.tape.trans h.tape, k.output.trans h.output, Nat.le_trans h.size k.size, fun j hj ht => by
    obtain ⟨h1, h2⟩ := h.same j hj ht
    obtain ⟨k1, k2⟩ := k.same j (Nat.lt_of_lt_of_le hj h.size) (by rw [h2]; exact fun e => ht (hT _ e))
    exact ⟨k1.trans h1, k2.trans h2⟩⟩
abbrev nT : Nat → Prop := fun _ => False
abbrev eT (i : Nat) : Nat → Prop := fun k => k = i
def Fr (i : Nat) (w : World) (O : Lab) : Nat → Prop := fun k => k < w.heap.size ∧ O k = i
theorem Fr.lt {i : Nat} {w : World} {O : Lab} : ∀ k, Fr i w O k → k < w.heap.size := fun _ h => h.1
def upA (A : Nat → Prop) (w w' : World) : Nat → Prop := fun k => A k ∨ w.heap.size ≤ k ∧ k < w'.heap.size
theorem cellsAt_part {w : World} {b o : Nat} {cs : List Value} (off n : Nat) (h : cellsAt w b o cs) : cellsAt w b (o + off) ((cs.drop off).take n) := cellsAt_of fun j v hv => by
  rw [List.getElem?_take] at hv
  split at hv
  · rw [List.getElem?_drop] at hv
    have := cellsAt_get h _ _ hv
    rwa [Nat.add_assoc]
  · cases hv
section
variable {α : Type} [Rp α] {T : Nat → Prop} {i : Nat} {w w' : World} {O O' : Lab} {v : Value} {x : α} {xs : List α} {e : TypeId}
theorem St.fr (hS : St T w O w' O') (hi : ¬ T i) : ∀ k, Fr i w O k → Fr i w' O' k := fun k hk => by
  have h := hS.same k hk.1 (by rw [hk.2]; exact hi)
  exact ⟨Nat.lt_of_lt_of_le hk.1 hS.size, h.2.trans hk.2⟩
theorem St.agree (hS : St T w O w' O') (hi : ¬ T i) : Agree (Fr i w O) w w' := fun k hk => (hS.same k hk.1 (by rw [hk.2]; exact hi)).1
theorem Vb.st (h : Vb w (Fr i w O) v x) (hS : St T w O w' O') (hi : ¬ T i) : Vb w' (Fr i w' O') v x := (h.agree (hS.agree hi)).mono (hS.fr hi)
/-- An owned row with label i, its elements are read only. -/
def Rw (i : Nat) (w : World) (O : Lab) (e : TypeId) (v : Value) (xs : List α) : Prop := Own w 0 (Fr 0 w O) e v xs ∧ (∀ g, v.ownBlock = some g → O g = i) ∧ i ≠ 0
theorem Rw.st (h : Rw i w O e v xs) (hS : St T w O w' O') (h0 : ¬ T 0) (hi : ¬ T i) : Rw i w' O' e v xs := by
  obtain ⟨h1, h2, h3⟩ := h
  have hl : ∀ g, v.ownBlock = some g → w'.heap[g]? = w.heap[g]? ∧ O' g = i := fun g hg => by
    have := hS.same g (h1.lt g hg).2 (by rw [h2 g hg]; exact hi)
    exact ⟨this.1, this.2.trans (h2 g hg)⟩
  exact ⟨(h1.agree (hS.agree h0) fun g hg => (hl g hg).1).mono (hS.fr h0) fun g hg hk => h3 ((hl g hg).2.symm.trans hk.2), fun g hg => (hl g hg).2, h3⟩
theorem Rw.nil (i : Nat) (hi : i ≠ 0) : Rw (α := α) i w O e (.slice none 0 0) [] := ⟨Own.nil _ _ _ _, fun g h => by simp [Value.ownBlock] at h, hi⟩
theorem Own.chunk {base : Nat} {F : Nat → Prop} (h : Own w base F e v xs) : ∃ A c cells, v = .slice A xs.length c ∧ xs.length ≤ c ∧ c ≤ 9223372036854775807 ∧ Chunks w F cells xs ∧ (0 < xs.length → ∃ b o, A = some ⟨b, o, none⟩ ∧ cellsAt w b o cells) := by
  obtain ⟨cells, h1, h2, h3⟩ := h
  rcases h1.2 with ⟨rfl, hn⟩ | ⟨g, cap, cur, rfl, hg, hh, hnc, hcm, hcs, hcur⟩
  · have : xs = [] := List.eq_nil_of_length_eq_zero hn
    subst this
    exact ⟨none, 0, [], rfl, Nat.le_refl _, by omega, rfl, fun h => by simp at h⟩
  · refine ⟨_, cap, cells, rfl, hnc, by simpa [maxLen] using hcm, h2, fun hp => ⟨g, 0, rfl, cellsAt_of fun j u hu => ?_⟩⟩
    have hj : j < xs.length * Rp.size α := by rw [← h2.length]; exact (List.getElem?_eq_some_iff.1 hu).1
    have : cur[j]? = some u := by
      rw [← hcur, List.getElem?_take, if_pos hj] at hu
      simpa using hu
    simp [World.cell?, hh, this]
/-- What can be read as a list whose elements lie in F. -/
def Rd (w : World) (F : Nat → Prop) (v : Value) (xs : List α) : Prop :=
  ∃ A c cells, v = .slice A xs.length c ∧ xs.length ≤ c ∧ c ≤ 9223372036854775807 ∧ Chunks w F cells xs ∧ (0 < xs.length → ∃ b o, A = some ⟨b, o, none⟩ ∧ cellsAt w b o cells)
theorem Rw.rd (h : Rw i w O e v xs) : Rd w (Fr 0 w O) v xs := h.1.chunk
theorem Vb.rd {F : Nat → Prop} (h : Vb w F v xs) : Rd w F v xs := by
  obtain ⟨A, c, cells, h1, h2, h3, h4, h5⟩ := h.slice
  exact ⟨A, c, cells, h1, h2, h3, h4, fun hp => by obtain ⟨b, o, h6, _, h7⟩ := h5 hp; exact ⟨b, o, h6, h7⟩⟩
theorem Rw.form (h : Rw i w O e v xs) : ∃ A c, v = .slice A xs.length c := by
  obtain ⟨A, c, _, h1, _⟩ := h.rd
  exact ⟨A, c, h1⟩
theorem Rw.len {A : Option Addr} {m c : Nat} (h : Rw i w O e (.slice A m c) xs) : m = xs.length ∧ m ≤ c ∧ c ≤ 9223372036854775807 := by
  obtain ⟨A', c', _, h1, h2, h3, _⟩ := h.rd
  injection h1 with e1 e2 e3
  subst e2; subst e3; exact ⟨rfl, h2, h3⟩
theorem Rw.relen {A : Option Addr} {m c : Nat} (h : Rw i w O e (.slice A m c) xs) : Rw i w O e (.slice A xs.length c) xs := by
  have := h.len.1
  subst this
  exact h
theorem Vb.relen {F : Nat → Prop} {A : Option Addr} {m c : Nat} (h : Vb w F (.slice A m c) xs) : Vb w F (.slice A xs.length c) xs := by
  have := h.len.1
  subst this
  exact h
theorem Rw.elem {A : Option Addr} {m c : Nat} (h : Rw i w O e (.slice A m c) xs) {k : Nat} {x : α} (hx : xs[k]? = some x) :
    ∃ b o cs, A = some ⟨b, o, none⟩ ∧ k < m ∧ cellsAt w b (o + k * Rp.size α) cs ∧ Rp.R w (Fr 0 w O) cs x := by
  obtain ⟨A', c', cells, he, h1, h2, h3, h4⟩ := h.rd
  injection he with e1 e2 e3
  subst e1; subst e2; subst e3
  have hk : k < xs.length := (List.getElem?_eq_some_iff.1 hx).1
  obtain ⟨b, o, h5, h7⟩ := h4 (by omega)
  obtain ⟨pre, cs, post, h8, h9, h10⟩ := h3.get hx
  rw [h8] at h7
  have h11 := (cellsAt_append.1 (cellsAt_append.1 h7).2).1
  rw [h9] at h11
  exact ⟨b, o, cs, h5, hk, h11, h10⟩
theorem Rw.elemF {A : Option Addr} {m c : Nat} (h : Rw i w O e (.slice A m c) xs) {k : Nat} {x : α} (hx : xs[k]? = some x) :
    ∃ b o cs, A = some ⟨b, o, none⟩ ∧ Fr i w O b ∧ k < m ∧ cellsAt w b (o + k * Rp.size α) cs ∧ Rp.R w (Fr 0 w O) cs x := by
  obtain ⟨b, o, cs, h1, h2, h3, h4⟩ := h.elem hx
  refine ⟨b, o, cs, h1, ?_, h2, h3, h4⟩
  subst h1
  obtain ⟨g', cap, cells, sp, hv, _⟩ := h.1.open (by have := (List.getElem?_eq_some_iff.1 hx).1; omega)
  injection hv with hv1
  injection hv1 with hv1
  injection hv1 with hv1 hv2
  subst hv2
  exact ⟨(h.1.lt b rfl).2, h.2.1 b rfl⟩
theorem Vb.elem' {F : Nat → Prop} {A : Option Addr} {m c : Nat} (h : Vb w F (.slice A m c) xs) {k : Nat} {x : α} (hx : xs[k]? = some x) :
    ∃ b o cs, A = some ⟨b, o, none⟩ ∧ k < m ∧ cellsAt w b (o + k * Rp.size α) cs ∧ Rp.R w F cs x := by
  obtain ⟨b, o, cs, h1, _, h3, h4, h5⟩ := h.elem hx
  exact ⟨b, o, cs, h1, h3, h4, h5⟩
theorem Rw.all (h : Rw i w O e v xs) : Vb w (All w) v xs := h.1.vb.mono fun k hk => by
  rcases hk with hk | hk
  · exact hk.1
  · exact (h.1.lt k hk).2
/-- A block that is a variable's own. -/
def Lc (i : Nat) (w : World) (O : Lab) (g : Nat) (t : TypeId) (cs : List Value) : Prop := Blk w g t cs ∧ O g = i
theorem Lc.st {g : Nat} {t : TypeId} {cs : List Value} (h : Lc i w O g t cs) (hS : St T w O w' O') (hi : ¬ T i) : Lc i w' O' g t cs := by
  have := hS.same g h.1.lt (by rw [h.2]; exact hi)
  exact ⟨h.1.keep this.1, this.2.trans h.2⟩
/-- How a function's world stands to that of its beginning: A is what may be read (label 0), the rest is foreign (label 1). -/
structure Bs (w0 : World) (A : Nat → Prop) (w : World) (O : Lab) : Prop where
  ext : Ext w0 w
  lab : ∀ k, k < w0.heap.size → A k ∧ O k = 0 ∨ ¬ A k ∧ O k = 1
theorem Bs.st {w0 : World} {A : Nat → Prop} (h : Bs w0 A w O) (hS : St T w O w' O') (h0 : ¬ T 0) (h1 : ¬ T 1) : Bs w0 A w' O' := by
  have hk : ∀ k, k < w0.heap.size → w'.heap[k]? = w.heap[k]? ∧ O' k = O k := fun k hk =>
    hS.same k (Nat.lt_of_lt_of_le hk h.ext.size) (by rcases h.lab k hk with ⟨_, e⟩ | ⟨_, e⟩ <;> rw [e] <;> assumption)
  exact ⟨⟨hS.os.trans h.ext.os, hS.tape.trans h.ext.tape, hS.output.trans h.ext.output, Nat.le_trans h.ext.size hS.size, fun k hlt => (hk k hlt).1.trans (h.ext.block k hlt)⟩,
    fun k hlt => by rw [(hk k hlt).2]; exact h.lab k hlt⟩
theorem enter {A : Nat → Prop} (hA : ∀ k, A k → k < w.heap.size) : ∃ O, Bs w A w O ∧ ∀ k, A k → Fr 0 w O k :=
  ⟨fun k => @ite _ (A k) (Classical.propDecidable _) 0 1, ⟨Below.refl _ _, fun k hk => by
    by_cases h : A k
    · exact .inl ⟨h, if_pos h⟩
    · exact .inr ⟨h, if_neg h⟩⟩, fun k hk => ⟨hA k hk, if_pos hk⟩⟩
theorem Bs.out {w0 : World} {A : Nat → Prop} (h : Bs w0 A w O) : ∀ k, Fr 0 w O k → upA A w0 w k := fun k hk => by
  rcases Nat.lt_or_ge k w0.heap.size with hlt | hge
  · rcases h.lab k hlt with ⟨ha, _⟩ | ⟨_, e⟩
    · exact .inl ha
    · have := hk.2; omega
  · exact .inr ⟨hge, hk.1⟩
/-- An owned row that a function hands out. -/
def RowR (w0 w : World) (F : Nat → Prop) (e : TypeId) (v : Value) (xs : List α) : Prop := ∃ G : Nat → Prop, (∀ k, G k → F k ∧ k < w.heap.size) ∧ Own w w0.heap.size G e v xs
theorem Own.raise {base base' : Nat} {F : Nat → Prop} (h : Own w base F e v xs) (hb : ∀ g, v.ownBlock = some g → base' ≤ g) : Own w base' F e v xs := by
  obtain ⟨cells, h1, h2, h3⟩ := h
  refine ⟨cells, ⟨h1.1, ?_⟩, h2, h3⟩
  rcases h1.2 with h | ⟨g, cap, cur, rfl, hg, r⟩
  · exact .inl h
  · exact .inr ⟨g, cap, cur, rfl, hb g rfl, r⟩
theorem Rw.out {w0 : World} {A : Nat → Prop} (h : Rw i w O e v xs) (hB : Bs w0 A w O) (hi : i ≠ 1) : RowR w0 w (upA A w0 w) e v xs :=
  ⟨Fr 0 w O, fun k hk => ⟨hB.out k hk, hk.1⟩, h.1.raise fun g hg => by
    rcases Nat.lt_or_ge g w0.heap.size with hlt | hge
    · have := h.2.1 g hg
      have := h.2.2
      rcases hB.lab g hlt with ⟨_, e⟩ | ⟨_, e⟩ <;> omega
    · exact hge⟩
theorem RowR.nil {w0 : World} {F : Nat → Prop} : RowR (α := α) w0 w F e (.slice none 0 0) [] := ⟨fun _ => False, fun _ h => h.elim, Own.nil _ _ _ _⟩
theorem RowR.vb {w0 : World} {F : Nat → Prop} (h : RowR w0 w F e v xs) (hF : ∀ k, w0.heap.size ≤ k → k < w.heap.size → F k) : Vb w F v xs := by
  obtain ⟨G, hG, ho⟩ := h
  refine ho.vb.mono fun k hk => ?_
  rcases hk with hk | hk
  · exact (hG k hk).1
  · exact hF k (ho.lt k hk).1 (ho.lt k hk).2
/-- A row becomes read only. -/
theorem Rw.freeze (h : Rw i w O e v xs) : ∃ O', St (eT i) w O w O' ∧ Vb w (Fr 0 w O') v xs := by
  refine ⟨fun k => if O k = i then 0 else O k, ⟨rfl, rfl, rfl, Nat.le_refl _, fun k _ hk => ⟨rfl, if_neg hk⟩⟩, h.1.vb.mono fun k hk => ?_⟩
  rcases hk with hk | hk
  · exact ⟨hk.1, by simp [hk.2]⟩
  · exact ⟨(h.1.lt k hk).2, if_pos (h.2.1 k hk)⟩
def Vall (w : World) (F : Nat → Prop) : List Value → List α → Prop
  | [], [] => True
  | v :: vs, x :: xs => Vb w F v x ∧ Vall w F vs xs
  | _, _ => False
theorem Vall.chunks {F : Nat → Prop} : ∀ {vs : List Value} {xs : List α}, Vall w F vs xs → vs.length = xs.length ∧ Chunks w F (vs.flatMap fun v => v.cells.toList) xs ∧ ∀ v ∈ vs, v.cells.toList.length = Rp.size α
  | [], [], _ => ⟨rfl, rfl, fun _ h => by cases h⟩
  | [], _ :: _, h => h.elim
  | _ :: _, [], h => h.elim
  | v :: vs, x :: xs, h => by
    obtain ⟨h1, h2, h3⟩ := Vall.chunks h.2
    refine ⟨by simp [h1], ⟨v.cells.toList, _, by simp, h.1.cells, h2⟩, fun u hu => ?_⟩
    rcases List.mem_cons.1 hu with rfl | hu
    · exact Rp.len h.1.cells
    · exact h3 u hu
theorem Vb.int {F : Nat → Prop} {n : Int} (h : Vb w F v n) : v = .int .i64 n ∧ inI64 n := by
  obtain ⟨h1, h2⟩ := h
  exact ⟨by simpa using h1, h2⟩
theorem Vb.bool {F : Nat → Prop} {b : Bool} (h : Vb w F v b) : v = .bool b := by
  have : [v] = [.bool b] := h
  simpa using this
theorem Vb.str {F : Nat → Prop} {s : ByteArray} (h : Vb w F v s) : v = .string s ∧ s.size ≤ 9223372036854775807 := by
  obtain ⟨h1, h2⟩ := h
  exact ⟨by simpa using h1, h2⟩
theorem Vb.ofAgg {F : Nat → Prop} {cs : List Value} (hb : Rp.isAgg α = true) (h : Rp.R w F cs x) : Vb w F (.agg cs.toArray) x := by
  unfold Vb; rw [hb]; exact ⟨cs, rfl, h⟩
theorem vInt {F : Nat → Prop} {n : Int} (h : inI64 n) : Vb w F (.int .i64 n) n := ⟨rfl, h⟩
theorem vBool {F : Nat → Prop} {b : Bool} : Vb w F (.bool b) b := rfl
theorem vStr {F : Nat → Prop} {s : ByteArray} (h : s.size ≤ 9223372036854775807) : Vb w F (.string s) s := ⟨rfl, h⟩
end
/-- Results of several values. -/
def T2 {α β : Type} [Rp α] [Rp β] (w : World) (F : Nat → Prop) (v : Value) (r : α × β) : Prop := ∃ a b, v = .tuple #[a, b] ∧ Vb w F a r.1 ∧ Vb w F b r.2
def T3 {α β γ : Type} [Rp α] [Rp β] [Rp γ] (w : World) (F : Nat → Prop) (v : Value) (r : α × β × γ) : Prop := ∃ a b c, v = .tuple #[a, b, c] ∧ Vb w F a r.1 ∧ Vb w F b r.2.1 ∧ Vb w F c r.2.2
def T4 {α β γ δ : Type} [Rp α] [Rp β] [Rp γ] [Rp δ] (w : World) (F : Nat → Prop) (v : Value) (r : α × β × γ × δ) : Prop := ∃ a b c d, v = .tuple #[a, b, c, d] ∧ Vb w F a r.1 ∧ Vb w F b r.2.1 ∧ Vb w F c r.2.2.1 ∧ Vb w F d r.2.2.2
/-- Labels of what is new. -/
def upO (O : Lab) (n : Nat) (f : Lab) : Lab := fun k => if k < n then O k else f k
theorem Own.rw {α : Type} [Rp α] {i base : Nat} {w : World} {F : Nat → Prop} {O : Lab} {e : TypeId} {v : Value} {xs : List α} (h : Own w base F e v xs) (hF : ∀ k, F k → Fr 0 w O k) (hg : ∀ g, v.ownBlock = some g → O g = i) (hi : i ≠ 0) : Rw i w O e v xs :=
  ⟨(h.lower (Nat.zero_le _)).mono hF fun g hv hf => hi ((hg g hv).symm.trans hf.2), hg, hi⟩
theorem upO_new {O : Lab} {n k : Nat} {f : Lab} (h : n ≤ k) : upO O n f k = f k := if_neg (by omega)
theorem upO_old {O : Lab} {n k : Nat} {f : Lab} (h : k < n) : upO O n f k = O k := if_pos h
theorem upA_fr {w w' : World} {O : Lab} (hE : Ext w w') : upA (Fr 0 w O) w w' = Fr 0 w' (upO O w.heap.size fun _ => 0) := by
  funext k
  apply propext
  constructor
  · rintro (h | h)
    · exact ⟨Nat.lt_of_lt_of_le h.1 hE.size, (upO_old h.1).trans h.2⟩
    · exact ⟨h.2, upO_new h.1⟩
  · intro h
    rcases Nat.lt_or_ge k w.heap.size with hlt | hge
    · exact .inl ⟨hlt, (upO_old hlt).symm.trans h.2⟩
    · exact .inr ⟨hge, h.1⟩
theorem made1 (z : Value) (n : Nat) (hz : z.cells = #[z]) : (madeCells z.cells (n * 1)).toList = List.replicate n z := by
  rw [hz, Nat.mul_one]
  apply List.ext_getElem
  · simp [madeCells]
  · intro i h1 h2
    simp [madeCells, Nat.mod_one]
theorem Ext.st {w w' : World} (h : Ext w w') (O f : Lab) : St nT w O w' (upO O w.heap.size f) :=
  ⟨h.os, h.tape, h.output, h.size, fun k hk _ => ⟨h.block k hk, upO_old hk⟩⟩
theorem New.lc {w w' : World} {t : TypeId} {cs : List Value} (h : New w w' t cs) (O : Lab) (i : Nat) : St nT w O w' (upO O w.heap.size fun _ => i) ∧ Lc i w' (upO O w.heap.size fun _ => i) w.heap.size t cs :=
  ⟨h.ext.st O _, h.blk, upO_new (Nat.le_refl _)⟩
theorem Upd.st {w w' : World} {g i : Nat} {t : TypeId} {cs : List Value} {O : Lab} (h : Upd w w' g t cs) (hg : O g = i) : St (eT i) w O w' O :=
  ⟨h.os, h.tape, h.output, Nat.le_of_eq h.size.symm, fun k _ hk => ⟨h.other k fun e => hk (by rw [e]; exact hg), rfl⟩⟩
section
variable {P : Program} {n : Nat} {ops : Array Oper} {Q : Post} {rest : List Oper} {l : Env} {w : World} {d d1 d2 : Tmp} {ty ty2 : TypeId} {pos pos2 : String} {aft aft2 : Array Edge}
theorem l_alloc (i : Nat) (O : Lab) {t : TypeId} {z : Value} {size bytes : Nat} [TInfo P t z size bytes] (hd : Nat.blt d n = true)
    (h : ∀ g w' O', St nT w O w' O' → Lc i w' O' g t z.cells.toList → owp P n ops Q rest ((d, .pointer (some ⟨g, 0, none⟩)) :: l) w') : owp P n ops Q (⟨some d, .alloc t, ty, pos, aft, none⟩ :: rest) l w :=
  owp_alloc hd fun w' hN => h _ w' _ (hN.lc O i).1 (hN.lc O i).2
theorem l_box (i : Nat) (O : Lab) {t : TypeId} {x : Operand} {v : Value} (hx : opv l x = some v) (hd : Nat.blt d n = true)
    (h : ∀ g w' O', St nT w O w' O' → Lc i w' O' g t v.cells.toList → owp P n ops Q rest ((d, .pointer (some ⟨g, 0, none⟩)) :: l) w') : owp P n ops Q (⟨some d, .box t x, ty, pos, aft, none⟩ :: rest) l w :=
  owp_box hx hd fun w' hN => h _ w' _ (hN.lc O i).1 (hN.lc O i).2
theorem l_store {i : Nat} {O : Lab} {t : TypeId} {z : Value} {size bytes : Nat} [TInfo P t z size bytes] {x y : Operand} {g o : Nat} {te : TypeId} {v : Value} {cs : List Value} (hL : Lc i w O g te cs) (hx : opv l x = some (.pointer (some ⟨g, o, none⟩))) (hy : opv l y = some v)
    (hsz : v.cells.toList.length = size) (hl : o + size ≤ cs.length) (h1 : ∀ u ∈ v.cells.toList, u.oneCell' = true)
    (h : ∀ w', St (eT i) w O w' O → Lc i w' O g te (setFrom cs o v.cells.toList) → owp P n ops Q rest l w') : owp P n ops Q (⟨none, .store t x y, ty, pos, aft, none⟩ :: rest) l w :=
  owp_store hx hy hL.1 hsz hl h1 fun w' hU => h w' (hU.st hL.2) ⟨hU.blk, hL.2⟩
theorem l_bslice {α : Type} [Rp α] (i : Nat) (hi : i ≠ 0) (O : Lab) {t e : TypeId} [TSlice P t e] {z : Value} {size bytes len : Nat} [TInfo P e z size bytes] {ps : List (Nat × Operand)} {vs : List Value} {xs : List α} (hsize : size = Rp.size α) (hk : idxOk 0 ps = true) (hx : opvs l (ps.map (·.2)) = some vs) (hlen : len = xs.length)
    (hv : Vall w (Fr 0 w O) vs xs) (hz : len * size ≤ 16777216) (hm : len ≤ 9223372036854775807) (hd : Nat.blt d n = true)
    (h : ∀ g w' O', St nT w O w' O' → Rw i w' O' e (.slice (some ⟨g, 0, none⟩) xs.length len) xs → owp P n ops Q rest ((d, .slice (some ⟨g, 0, none⟩) xs.length len) :: l) w') : owp P n ops Q (⟨some d, .buildSlice t len ps.toArray, ty, pos, aft, none⟩ :: rest) l w := by
  subst hsize; subst hlen
  obtain ⟨h1, h2, h3⟩ := hv.chunks
  refine owp_slice hk hx h1 h3 hz hd fun w' hN => h _ w' _ (hN.ext.st O fun _ => i) ?_
  have hS := hN.ext.st O fun _ => i
  have ho : Own w' w.heap.size (Fr 0 w O) e (.slice (some ⟨w.heap.size, 0, none⟩) xs.length xs.length) xs := Own.made hN (h2.agree (hN.ext.agree Fr.lt)) rfl (fun h => Nat.lt_irrefl _ h.1) hm
  exact ho.rw (hS.fr (fun h => h)) (fun g hg => by
    have : w.heap.size = g := by simpa [Value.ownBlock] using hg
    subst this
    exact upO_new (Nat.le_refl _)) hi
theorem l_make {α : Type} [Rp α] (i : Nat) (hi : i ≠ 0) (O : Lab) {t e : TypeId} [TSlice P t e] {z : Value} {size bytes : Nat} [TInfo P e z size bytes] {x y : Operand} {k k' : IntKind} {m : Nat} {a : Int} {z0 : α} (hsize : size = Rp.size α) (h1 : Rp.size α = 1) (hz1 : z.cells = #[z]) (hx : opv l x = some (.int k a)) (hy : opv l y = some (.int k' a)) (ha : a = (m : Int))
    (hz0 : Vb w (Fr 0 w O) z z0) (hm : bytes * m ≤ 281474976710656) (h63 : m ≤ 9223372036854775807) (hd : Nat.blt d n = true)
    (h : ∀ g w' O', St nT w O w' O' → Rw i w' O' e (.slice (some ⟨g, 0, none⟩) (List.replicate m z0).length m) (List.replicate m z0) → owp P n ops Q rest ((d, .slice (some ⟨g, 0, none⟩) (List.replicate m z0).length m) :: l) w') : owp P n ops Q (⟨some d, .makeSlice t x y, ty, pos, aft, none⟩ :: rest) l w := by
  subst hsize; subst ha
  refine owp_make hx hy hm h63 hd fun w' hN => ?_
  have hS := hN.ext.st O fun _ => i
  have hc : (madeCells z.cells (m * Rp.size α)).toList = List.replicate m z := by rw [h1]; exact made1 z m hz1
  rw [hc] at hN
  have hR : Rp.R w (Fr 0 w O) [z] z0 := by
    have := hz0.cells
    rwa [hz1] at this
  have hch : ∀ j, Chunks w (Fr 0 w O) (List.replicate j z) (List.replicate j z0) := fun j => by
    induction j with
    | zero => rfl
    | succ j ih => exact ⟨[z], List.replicate j z, rfl, hR, ih⟩
  have ho : Own w' w.heap.size (Fr 0 w O) e (.slice (some ⟨w.heap.size, 0, none⟩) m m) (List.replicate m z0) := Own.made hN ((hch m).agree (hN.ext.agree Fr.lt)) (by simp) (fun h => Nat.lt_irrefl _ h.1) h63
  have := h _ w' _ hS (by
    rw [List.length_replicate]
    exact ho.rw (hS.fr (fun h => h)) (fun g hg => by
      have : w.heap.size = g := by simpa [Value.ownBlock] using hg
      subst this
      exact upO_new (Nat.le_refl _)) hi)
  rwa [List.length_replicate] at this
theorem l_append {α : Type} [Rp α] {i : Nat} {O : Lab} {t e : TypeId} [TSlice P t e] {z : Value} {size bytes : Nat} [TInfo P e z size bytes] (hsize : size = Rp.size α) {x y : Operand} {v u : Value} {xs ys : List α} (hR : Rw i w O e v xs) (hu : Rd w (Fr 0 w O) u ys) (hx : opv l x = some v) (hy : opv l y = some u)
    (hz0 : 0 < size) (hb : (xs.length + ys.length) * bytes ≤ 140737488355328) (h63 : xs.length + ys.length ≤ 9223372036854775807) (hd : Nat.blt d n = true)
    (h : ∀ A c w' O', St (eT i) w O w' O' → Rw i w' O' e (.slice A (xs ++ ys).length c) (xs ++ ys) → owp P n ops Q rest ((d, .slice A (xs ++ ys).length c) :: l) w') :
    owp P n ops Q (⟨some d, .call { callee := .builtin .append, args := #[x, y], argTypes := #[t, t] }, ty, pos, aft, none⟩ :: rest) l w := by
  subst hsize
  obtain ⟨A, c, cells, rfl, h1, h2, h3, h4⟩ := hu
  refine owp_append hx hy hR.1 Fr.lt (Nat.zero_le _) h3 h4 hz0 hb h63 hd fun v' w' ho hg hat => ?_
  have hS : St (eT i) w O w' (upO O w.heap.size fun _ => i) := ⟨hg.os, hg.tape, hg.output, hg.size, fun k hk hT => ⟨hg.block k hk fun he => hT (hR.2.1 k he.symm), upO_old hk⟩⟩
  obtain ⟨A', c', _, rfl, _⟩ := ho.chunk
  refine h A' c' w' _ hS (ho.rw (fun k hk => ⟨Nat.lt_of_lt_of_le hk.1 hg.size, (upO_old hk.1).trans hk.2⟩) (fun g hg' => ?_) hR.2.2)
  rcases hat with hat | hat
  · exact (upO_old (hR.1.lt g (hat ▸ hg')).2).trans (hR.2.1 g (hat ▸ hg'))
  · rw [hat] at hg'
    injection hg' with hg'
    subst hg'
    exact upO_new (Nat.le_refl _)
/-- append of one element, made as a row of its own first. -/
theorem l_append1 {α : Type} [Rp α] {i : Nat} {O : Lab} {t e : TypeId} [TSlice P t e] {z : Value} {size bytes : Nat} [TInfo P e z size bytes] (hsize : size = Rp.size α) {x y : Operand} {v u : Value} {xs : List α} {a : α} (hR : Rw i w O e v xs) (hu : Vb w (Fr 0 w O) u a)
    (hx : ∀ g, opv ((d1, .slice (some ⟨g, 0, none⟩) 1 1) :: l) x = some v) (hy : opv l y = some u)
    (hz0 : 0 < size) (hz1 : size ≤ 1000) (hb : (xs.length + [a].length) * bytes ≤ 140737488355328) (h63 : xs.length + [a].length ≤ 9223372036854775807) (hd : Nat.blt d1 n = true ∧ Nat.blt d2 n = true)
    (h : ∀ g A c w' O', St (eT i) w O w' O' → Rw i w' O' e (.slice A (xs ++ [a]).length c) (xs ++ [a]) → owp P n ops Q rest ((d2, .slice A (xs ++ [a]).length c) :: (d1, .slice (some ⟨g, 0, none⟩) 1 1) :: l) w') :
    owp P n ops Q (⟨some d1, .buildSlice t 1 #[(0, y)], ty, pos, aft, none⟩ :: ⟨some d2, .call { callee := .builtin .append, args := #[x, .tmp d1], argTypes := #[t, t] }, ty2, pos2, aft2, none⟩ :: rest) l w := by
  subst hsize
  have hi := hR.2.2
  refine l_bslice (i + 1) (by omega) O (ps := [(0, y)]) (vs := [u]) (xs := [a]) rfl rfl (by simp [opvs, hy]) rfl ⟨hu, trivial⟩ (by omega) (by omega) hd.1 fun g w1 O1 hS1 h1 => ?_
  have hR1 := hR.st hS1 (fun h => h) (fun h => h)
  refine l_append rfl hR1 h1.rd (hx g) (by simp [opv, lk]) hz0 hb h63 hd.2 fun A c w2 O2 hS2 h2 => h g A c w2 O2 ?_ h2
  refine ⟨hS2.os.trans hS1.os, hS2.tape.trans hS1.tape, hS2.output.trans hS1.output, Nat.le_trans hS1.size hS2.size, fun k hk hT => ?_⟩
  obtain ⟨e1, e2⟩ := hS1.same k hk (fun h => h)
  obtain ⟨e3, e4⟩ := hS2.same k (Nat.lt_of_lt_of_le hk hS1.size) (by rw [e2]; exact hT)
  exact ⟨e3.trans e1, e4.trans e2⟩
theorem l_set {α : Type} [Rp α] {i : Nat} {O : Lab} {t e : TypeId} {z : Value} {size bytes : Nat} [TInfo P t z size bytes] (hsize : size = Rp.size α) {x y : Operand} {b o k m c : Nat} {u : Value} {a : α} {xs : List α} (hR : Rw i w O e (.slice (some ⟨b, o, none⟩) m c) xs) (hu : Vb w (Fr 0 w O) u a)
    (hx : opv l x = some (.pointer (some ⟨b, o + k * size, none⟩))) (hy : opv l y = some u) (hk : k < xs.length)
    (h : ∀ w', St (eT i) w O w' O → Rw i w' O e (.slice (some ⟨b, o, none⟩) m c) (xs.set k a) → owp P n ops Q rest l w') : owp P n ops Q (⟨none, .store t x y, ty, pos, aft, none⟩ :: rest) l w := by
  obtain ⟨g', cap, cells, sp, hv, _⟩ := hR.1.open (by omega)
  injection hv with hv1 hv2 hv3
  injection hv1 with hv1
  injection hv1 with hv1 hv4
  subst hv4
  refine owp_setElem hsize hx hy hR.1 hk hu fun w' ho hK hz => ?_
  have hS : St (eT i) w O w' O := ⟨hK.os, hK.tape, hK.output, hK.size, fun k hk hT => ⟨hK.block k hk fun he => hT (hR.2.1 k he), rfl⟩⟩
  exact h w' hS (ho.rw (hS.fr (fun h => hR.2.2 h.symm)) hR.2.1 hR.2.2)
theorem l_setE {α : Type} [Rp α] {i : Nat} {O : Lab} {t e : TypeId} {z : Value} {size bytes : Nat} [TInfo P t z size bytes] (hsize : size = Rp.size α) {x y : Operand} {b o k m c : Nat} {A : Option Addr} {u : Value} {a : α} {xs : List α} (hR : Rw i w O e (.slice A m c) xs) (hu : Vb w (Fr 0 w O) u a) (hA : A = some ⟨b, o, none⟩)
    (hx : opv l x = some (.pointer (some ⟨b, o + k * size, none⟩))) (hy : opv l y = some u) (hk : k < xs.length)
    (h : ∀ w', St (eT i) w O w' O → Rw i w' O e (.slice A m c) (xs.set k a) → owp P n ops Q rest l w') : owp P n ops Q (⟨none, .store t x y, ty, pos, aft, none⟩ :: rest) l w := by
  subst hA
  exact l_set hsize hR hu hx hy hk h
theorem setFrom_right : ∀ (vs c r : List Value) (k : Nat), setFrom (c ++ r) (c.length + k) vs = c ++ setFrom r k vs
  | [], _, _, _ => rfl
  | v :: vs, c, r, k => by
    simp only [setFrom]
    rw [List.set_append_right _ _ (by omega), show c.length + k - c.length = k from by omega, show c.length + k + 1 = c.length + (k + 1) from by omega, setFrom_right vs]
/-- A store into a part of an element. -/
theorem l_setPart {α : Type} [Rp α] {i : Nat} {O : Lab} {t e : TypeId} {z : Value} {size bytes : Nat} [TInfo P t z size bytes] {x y : Operand} {b o k off m c : Nat} {A : Option Addr} {u : Value} {a a' : α} {xs : List α} (hR : Rw i w O e (.slice A m c) xs) (hA : A = some ⟨b, o, none⟩) (hk : xs[k]? = some a)
    (hx : opv l x = some (.pointer (some ⟨b, o + k * Rp.size α + off, none⟩))) (hy : opv l y = some u) (hsz : u.cells.toList.length = size) (hoff : off + size ≤ Rp.size α) (h1 : ∀ v ∈ u.cells.toList, v.oneCell' = true)
    (hnew : ∀ ce, Rp.R w (Fr 0 w O) ce a → Rp.R w (Fr 0 w O) (setFrom ce off u.cells.toList) a')
    (h : ∀ w', St (eT i) w O w' O → Rw i w' O e (.slice A m c) (xs.set k a') → owp P n ops Q rest l w') : owp P n ops Q (⟨none, .store t x y, ty, pos, aft, none⟩ :: rest) l w := by
  subst hA
  have hkl : k < xs.length := (List.getElem?_eq_some_iff.1 hk).1
  obtain ⟨g', cap, cells, sp, hv, hg, hF, hb, hc, hl, hnc, hcm, hlen⟩ := hR.1.open (by omega)
  injection hv with hv1 hv2 hv3
  injection hv1 with hv1
  injection hv1 with hv1 hv4
  subst hv1; subst hv2; subst hv3; subst hv4
  obtain ⟨pre, cs, post, e1, e2, e3⟩ := hc.get hk
  have hcs := Rp.len e3
  have key : setFrom (cells ++ sp) (0 + k * Rp.size α + off) u.cells.toList = setFrom cells (k * Rp.size α) (setFrom cs off u.cells.toList) ++ sp := by
    have h4 : setFrom (pre ++ (cs ++ post)) pre.length (setFrom cs off u.cells.toList) = pre ++ (setFrom cs off u.cells.toList ++ post) := setFrom_mid _ _ _ _ (by rw [setFrom_length])
    rw [e1, ← e2, h4, Nat.zero_add, List.append_assoc, List.append_assoc, setFrom_right, setFrom_append_left _ _ _ _ (by omega)]
    simp
  refine owp_store hx hy hb hsz (by rw [List.length_append, e1, List.length_append, List.length_append]; omega) h1 fun w' hU => ?_
  rw [key] at hU
  have hag : Agree (Fr 0 w O) w w' := hU.agree hF
  have hS : St (eT i) w O w' O := hU.st (hR.2.1 b rfl)
  refine h w' hS (Own.rw (base := 0) (F := Fr 0 w O) ?_ (hS.fr (fun h => hR.2.2 h.symm)) hR.2.1 hR.2.2)
  have := Own.close (w := w') (cap := c) hg hF hU.blk ((hc.set hkl (hnew cs e3)).agree hag) (by simpa using hnc) hcm (by rw [List.length_append, setFrom_length, ← List.length_append]; exact hlen)
  rwa [List.length_set] at this
theorem l_call {f : FuncId} [Callable P f] {xs : List Operand} {vs : List Value} {ts : Array TypeId} {O : Lab} {R : World → (Nat → Prop) → Value → Prop} (hc : Fn P f vs w fun v w' => Ext w w' ∧ R w' (upA (Fr 0 w O) w w') v) (hx : opvs l xs = some vs) (hd : Nat.blt d n = true)
    (h : ∀ v w' O', St nT w O w' O' → R w' (Fr 0 w' O') v → owp P n ops Q rest ((d, v) :: l) w') : owp P n ops Q (⟨some d, .call { callee := .value (.func f), args := xs.toArray, argTypes := ts }, ty, pos, aft, none⟩ :: rest) l w :=
  owp_call hx hd hc fun v w' ⟨hE, hR⟩ => h v w' (upO O w.heap.size fun _ => 0) (hE.st O _) (by rwa [upA_fr hE] at hR)
theorem l_callA {f : FuncId} [Callable P f] {xs : List Operand} {vs : List Value} {ts : Array TypeId} {O : Lab} {A : Nat → Prop} {R : World → (Nat → Prop) → Value → Prop} (hc : Fn P f vs w fun v w' => Ext w w' ∧ R w' (upA A w w') v) (hx : opvs l xs = some vs) (hd : Nat.blt d n = true)
    (h : ∀ v w' O', St nT w O w' O' → R w' (upA A w w') v → owp P n ops Q rest ((d, v) :: l) w') : owp P n ops Q (⟨some d, .call { callee := .value (.func f), args := xs.toArray, argTypes := ts }, ty, pos, aft, none⟩ :: rest) l w :=
  owp_call hx hd hc fun v w' ⟨hE, hR⟩ => h v w' (upO O w.heap.size fun _ => 0) (hE.st O _) hR
theorem l_callAv {f : FuncId} [Callable P f] {y : Operand} {xs : List Operand} {vs : List Value} {ts : Array TypeId} {O : Lab} {A : Nat → Prop} {R : World → (Nat → Prop) → Value → Prop} (hc : Fn P f vs w fun v w' => Ext w w' ∧ R w' (upA A w w') v) (hy : opv l y = some (.func (.func f) #[] #[])) (hx : opvs l xs = some vs) (hd : Nat.blt d n = true)
    (h : ∀ v w' O', St nT w O w' O' → R w' (upA A w w') v → owp P n ops Q rest ((d, v) :: l) w') : owp P n ops Q (⟨some d, .call { callee := .value y, args := xs.toArray, argTypes := ts }, ty, pos, aft, none⟩ :: rest) l w :=
  owp_callv (caps := []) (R := fun v w' => Ext w w' ∧ R w' (upA A w w') v) hy hx hd (by rw [List.append_nil]; exact hc) fun v w' hh => h v w' (upO O w.heap.size fun _ => 0) (hh.1.st O _) hh.2
/-- A call that turns a row in its place. -/
theorem l_callMut {f : FuncId} [Callable P f] {xs : List Operand} {vs : List Value} {ts : Array TypeId} {O : Lab} {i : Nat} {R : World → Lab → Prop} (hc : Fn P f vs w fun _ w' => ∃ O', St (eT i) w O w' O' ∧ R w' O') (hx : opvs l xs = some vs) (hd : Nat.blt d n = true)
    (h : ∀ v w' O', St (eT i) w O w' O' → R w' O' → owp P n ops Q rest ((d, v) :: l) w') : owp P n ops Q (⟨some d, .call { callee := .value (.func f), args := xs.toArray, argTypes := ts }, ty, pos, aft, none⟩ :: rest) l w :=
  owp_call hx hd hc fun v w' ⟨O', hS, hR⟩ => h v w' O' hS hR
/-- A call whose result is a row of its own. -/
theorem l_callRow {α : Type} [Rp α] (i : Nat) (hi : i ≠ 0) {f : FuncId} [Callable P f] {xs : List Operand} {vs : List Value} {ts : Array TypeId} {O : Lab} {e : TypeId} {r : List α} (hc : Fn P f vs w fun v w' => Ext w w' ∧ RowR w w' (upA (Fr 0 w O) w w') e v r) (hx : opvs l xs = some vs) (hd : Nat.blt d n = true)
    (h : ∀ A c w' O', St nT w O w' O' → Rw i w' O' e (.slice A r.length c) r → owp P n ops Q rest ((d, .slice A r.length c) :: l) w') : owp P n ops Q (⟨some d, .call { callee := .value (.func f), args := xs.toArray, argTypes := ts }, ty, pos, aft, none⟩ :: rest) l w :=
  owp_call hx hd hc fun v w' ⟨hE, G, hG, ho⟩ => by
    obtain ⟨A, c, _, rfl, _⟩ := ho.chunk
    have hS := hE.st O fun k => if (Value.slice A r.length c).ownBlock = some k then i else 0
    refine h A c w' _ hS ⟨(ho.lower (Nat.zero_le _)).mono (fun k hk => ⟨(hG k hk).2, ?_⟩) (fun g hg hf => ?_), fun g hg => ?_, hi⟩
    · obtain ⟨_, _, _, hno⟩ := ho
      rcases (hG k hk).1 with h1 | h1
      · exact (upO_old h1.1).trans h1.2
      · rw [upO_new h1.1, if_neg fun he => hno k he hk]
    · have h1 := (ho.lt g hg).1
      have h2 := hf.2
      rw [upO_new h1, if_pos hg] at h2
      exact hi h2
    · rw [upO_new (ho.lt g hg).1, if_pos hg]
end
end Go.Proofs.Ytdhaelekmjgbmaa

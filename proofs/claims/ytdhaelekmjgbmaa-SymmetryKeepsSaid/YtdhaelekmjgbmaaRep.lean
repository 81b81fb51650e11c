/- Own text: plain data behind Go values: a class of representations by cells, rows that are owned and may grow, and how they stand when the world changes. It holds for every program. -/
import Derived.Test.YtdhaelekmjgbmaaOps
import Derived.Maps.AppendAt
import Derived.Laws.MakeOwn
namespace Go.Proofs.Ytdhaelekmjgbmaa
open Go Go.RowKit

def Agree (F : Nat → Prop) (w w' : World) : Prop := ∀ k, F k → w'.heap[k]? = w.heap[k]?
/-- All that was there is as it was. -/
abbrev Ext (w w' : World) : Prop := Below w.heap.size w w'
theorem Ext.agree {w w' : World} (h : Ext w w') {F : Nat → Prop} (hF : ∀ k, F k → k < w.heap.size) : Agree F w w' := fun k hk => h.block k (hF k hk)
theorem Ext.trans' {a b c : World} (h : Ext a b) (k : Ext b c) : Ext a c := h.trans (k.mono h.size)
theorem Agree.cell {F : Nat → Prop} {w w' : World} (h : Agree F w w') {a : Addr} (ha : F a.block) : w'.cell? a = w.cell? a := World.cell?_of_block (h _ ha)
theorem cellsAt_agree {F : Nat → Prop} {w w' : World} (h : Agree F w w') {b : Nat} (hb : F b) : ∀ {cs : List Value} {o : Nat}, cellsAt w b o cs → cellsAt w' b o cs
  | [], _, _ => trivial
  | _ :: _, _, hc => ⟨(h.cell hb).trans hc.1, cellsAt_agree h hb hc.2⟩
theorem cells_ext {w w' : World} {b o : Nat} {cs : List Value} (h : cellsAt w b o cs) (hb : b < w.heap.size) (hE : Ext w w') : cellsAt w' b o cs := cellsAt_agree (F := (· < w.heap.size)) (hE.agree fun _ h => h) hb h
theorem cellsAt_append {w : World} {b : Nat} : ∀ {xs ys : List Value} {o : Nat}, cellsAt w b o (xs ++ ys) ↔ cellsAt w b o xs ∧ cellsAt w b (o + xs.length) ys
  | [], ys, o => by simp [cellsAt]
  | x :: xs, ys, o => by
    simp only [List.cons_append, cellsAt, List.length_cons]
    rw [cellsAt_append, show o + 1 + xs.length = o + (xs.length + 1) from by omega, and_assoc]

/-- How a plain datum stands in memory: its cells, all that they lead to lies in blocks of F. -/
class Rp (α : Type) where
  isAgg : Bool
  size : Nat
  R : World → (Nat → Prop) → List Value → α → Prop
  len : ∀ {w F cs x}, R w F cs x → cs.length = size
  one : ∀ {w F cs x}, R w F cs x → ∀ u ∈ cs, u.oneCell' = true
  agree : ∀ {w w' F cs x}, R w F cs x → Agree F w w' → R w' F cs x
  mono : ∀ {w F G cs x}, R w F cs x → (∀ k, F k → G k) → R w G cs x

def Chunks {α : Type} [Rp α] (w : World) (F : Nat → Prop) : List Value → List α → Prop
  | cells, [] => cells = []
  | cells, x :: xs => ∃ cs rest, cells = cs ++ rest ∧ Rp.R w F cs x ∧ Chunks w F rest xs

section
variable {α : Type} [Rp α] {w w' : World} {F G : Nat → Prop}
theorem Chunks.length : ∀ {xs : List α} {cells : List Value}, Chunks w F cells xs → cells.length = xs.length * Rp.size α
  | [], cells, h => by have : cells = [] := h
                       simp [this]
  | x :: xs, cells, ⟨cs, rest, he, hr, hc⟩ => by
    rw [he, List.length_append, Rp.len hr, Chunks.length hc, List.length_cons, Nat.add_mul]; omega
theorem Chunks.one : ∀ {xs : List α} {cells : List Value}, Chunks w F cells xs → ∀ u ∈ cells, u.oneCell' = true
  | [], cells, h, u, hu => by have : cells = [] := h
                              simp [this] at hu
  | x :: xs, cells, ⟨cs, rest, he, hr, hc⟩, u, hu => by
    rw [he, List.mem_append] at hu
    rcases hu with hu | hu
    · exact Rp.one hr u hu
    · exact Chunks.one hc u hu
theorem Chunks.agree (h : Agree F w w') : ∀ {xs : List α} {cells : List Value}, Chunks w F cells xs → Chunks w' F cells xs
  | [], _, hc => hc
  | _ :: _, _, ⟨cs, rest, he, hr, hc⟩ => ⟨cs, rest, he, Rp.agree hr h, Chunks.agree h hc⟩
theorem Chunks.mono (h : ∀ k, F k → G k) : ∀ {xs : List α} {cells : List Value}, Chunks w F cells xs → Chunks w G cells xs
  | [], _, hc => hc
  | _ :: _, _, ⟨cs, rest, he, hr, hc⟩ => ⟨cs, rest, he, Rp.mono hr h, Chunks.mono h hc⟩
theorem Chunks.append : ∀ {xs ys : List α} {c d : List Value}, Chunks w F c xs → Chunks w F d ys → Chunks w F (c ++ d) (xs ++ ys)
  | [], ys, c, d, h, k => by have : c = [] := h
                             subst this; exact k
  | x :: xs, ys, c, d, ⟨cs, rest, he, hr, hc⟩, k => ⟨cs, rest ++ d, by rw [he, List.append_assoc], hr, Chunks.append hc k⟩
theorem Chunks.single {x : α} {cs : List Value} (h : Rp.R w F cs x) : Chunks w F cs [x] := ⟨cs, [], by simp, h, rfl⟩
theorem Chunks.get : ∀ {xs : List α} {cells : List Value}, Chunks w F cells xs → ∀ {i : Nat} {x : α}, xs[i]? = some x → ∃ pre cs post, cells = pre ++ (cs ++ post) ∧ pre.length = i * Rp.size α ∧ Rp.R w F cs x
  | [], _, _, i, x, h => by simp at h
  | y :: xs, cells, ⟨cs, rest, he, hr, hc⟩, 0, x, h => by
    have : y = x := by simpa using h
    subst this
    exact ⟨[], cs, rest, by simpa using he, by simp, hr⟩
  | y :: xs, cells, ⟨cs, rest, he, hr, hc⟩, i + 1, x, h => by
    obtain ⟨pre, c', post, h1, h2, h3⟩ := Chunks.get hc (i := i) (x := x) (by simpa using h)
    exact ⟨cs ++ pre, c', post, by rw [he, h1, List.append_assoc], by rw [List.length_append, h2, Rp.len hr, Nat.add_mul]; omega, h3⟩
theorem Chunks.take : ∀ {xs : List α} {cells : List Value} (k : Nat), Chunks w F cells xs → Chunks w F (cells.take (k * Rp.size α)) (xs.take k)
  | xs, cells, 0, h => by simp [Chunks]
  | [], cells, k + 1, h => by have : cells = [] := h
                              simp [this, Chunks]
  | x :: xs, cells, k + 1, ⟨cs, rest, he, hr, hc⟩ => by
    refine ⟨cs, rest.take (k * Rp.size α), ?_, hr, Chunks.take k hc⟩
    rw [he, List.take_append, Rp.len hr, show (k + 1) * Rp.size α - Rp.size α = k * Rp.size α from by rw [Nat.add_mul]; omega, List.take_of_length_le (by rw [Rp.len hr, Nat.add_mul]; omega)]
theorem Chunks.drop : ∀ {xs : List α} {cells : List Value} (k : Nat), Chunks w F cells xs → Chunks w F (cells.drop (k * Rp.size α)) (xs.drop k)
  | xs, cells, 0, h => by simpa using h
  | [], cells, k + 1, h => by have : cells = [] := h
                              simp [this, Chunks]
  | x :: xs, cells, k + 1, ⟨cs, rest, he, hr, hc⟩ => by
    have := Chunks.drop k hc
    rw [he, List.drop_append, Rp.len hr, show (k + 1) * Rp.size α - Rp.size α = k * Rp.size α from by rw [Nat.add_mul]; omega, List.drop_of_length_le (by rw [Rp.len hr, Nat.add_mul]; omega)]
    simpa using this
end

def SlR {α : Type} [Rp α] (w : World) (F : Nat → Prop) (v : Value) (xs : List α) : Prop :=
  ∃ A c cells, v = .slice A xs.length c ∧ xs.length ≤ c ∧ c ≤ 9223372036854775807 ∧ Chunks w F cells xs ∧ (0 < xs.length → ∃ b o, A = some ⟨b, o, none⟩ ∧ F b ∧ cellsAt w b o cells)
instance {α : Type} [Rp α] : Rp (List α) where
  isAgg := false
  size := 1
  R w F cs xs := ∃ v, cs = [v] ∧ SlR w F v xs
  len := by rintro w F cs x ⟨v, rfl, _⟩; rfl
  one := by
    rintro w F cs x ⟨v, rfl, A, c, cells, rfl, _⟩ u hu
    have : u = .slice A x.length c := by simpa using hu
    subst this; rfl
  agree := by
    rintro w w' F cs x ⟨v, rfl, A, c, cells, rfl, h1, h2, h3, h4⟩ h
    refine ⟨_, rfl, A, c, cells, rfl, h1, h2, h3.agree h, fun hn => ?_⟩
    obtain ⟨b, o, h5, h6, h7⟩ := h4 hn
    exact ⟨b, o, h5, h6, cellsAt_agree h h6 h7⟩
  mono := by
    rintro w F G cs x ⟨v, rfl, A, c, cells, rfl, h1, h2, h3, h4⟩ h
    refine ⟨_, rfl, A, c, cells, rfl, h1, h2, h3.mono h, fun hn => ?_⟩
    obtain ⟨b, o, h5, h6, h7⟩ := h4 hn
    exact ⟨b, o, h5, h _ h6, h7⟩

def inI64 (n : Int) : Prop := -9223372036854775808 ≤ n ∧ n ≤ 9223372036854775807
instance : Rp Int where
  isAgg := false
  size := 1
  R _ _ cs n := cs = [.int .i64 n] ∧ inI64 n
  len := by rintro w F cs x ⟨rfl, _⟩; rfl
  one := by
    rintro w F cs x ⟨rfl, _⟩ u hu
    have : u = .int .i64 x := by simpa using hu
    subst this; rfl
  agree := fun h _ => h
  mono := fun h _ => h
instance : Rp Bool where
  isAgg := false
  size := 1
  R _ _ cs b := cs = [.bool b]
  len := by rintro w F cs x rfl; rfl
  one := by
    rintro w F cs x rfl u hu
    have : u = .bool x := by simpa using hu
    subst this; rfl
  agree := fun h _ => h
  mono := fun h _ => h
instance : Rp ByteArray where
  isAgg := false
  size := 1
  R _ _ cs s := cs = [.string s] ∧ s.size ≤ 9223372036854775807
  len := by rintro w F cs x ⟨rfl, _⟩; rfl
  one := by
    rintro w F cs x ⟨rfl, _⟩ u hu
    have : u = .string x := by simpa using hu
    subst this; rfl
  agree := fun h _ => h
  mono := fun h _ => h

/-- A value in a slot. -/
def Vb {α : Type} [Rp α] (w : World) (F : Nat → Prop) (v : Value) (x : α) : Prop :=
  match Rp.isAgg α with
  | true => ∃ cs : List Value, v = .agg cs.toArray ∧ Rp.R w F cs x
  | false => Rp.R w F [v] x
abbrev All (w : World) : Nat → Prop := fun k => k < w.heap.size
abbrev V {α : Type} [Rp α] (w : World) (v : Value) (x : α) : Prop := Vb w (All w) v x
section
variable {α : Type} [Rp α] {w w' : World} {F G : Nat → Prop} {v : Value} {x : α} {xs : List α}
theorem Vb.agree (h : Vb w F v x) (ha : Agree F w w') : Vb w' F v x := by
  unfold Vb at *
  cases hb : Rp.isAgg α <;> simp only [hb] at h ⊢
  · exact Rp.agree h ha
  · obtain ⟨cs, h1, h2⟩ := h; exact ⟨cs, h1, Rp.agree h2 ha⟩
theorem Vb.mono (h : Vb w F v x) (hk : ∀ k, F k → G k) : Vb w G v x := by
  unfold Vb at *
  cases hb : Rp.isAgg α <;> simp only [hb] at h ⊢
  · exact Rp.mono h hk
  · obtain ⟨cs, h1, h2⟩ := h; exact ⟨cs, h1, Rp.mono h2 hk⟩
theorem Vb.ext (h : V w v x) (he : Ext w w') : V w' v x := (h.agree (he.agree fun _ h => h)).mono fun _ hk => Nat.lt_of_lt_of_le hk he.size
theorem Vb.below {B : Nat} (h : Vb w (· < B) v x) (he : Below B w w') : Vb w' (· < B) v x := h.agree fun k hk => he.block k hk
theorem Vb.all {B : Nat} (h : Vb w (· < B) v x) (hB : B ≤ w.heap.size) : V w v x := h.mono fun _ hk => Nat.lt_of_lt_of_le hk hB
/-- The value's cells. -/
theorem Vb.cells (h : Vb w F v x) : Rp.R w F v.cells.toList x := by
  unfold Vb at h
  cases hb : Rp.isAgg α <;> simp only [hb] at h
  · have h1 := Rp.one h v (by simp)
    have : v.cells.toList = [v] := by cases v <;> first | rfl | (simp [Value.oneCell'] at h1)
    rw [this]; exact h
  · obtain ⟨cs, rfl, h2⟩ := h; exact h2
/-- What a slice in a slot is. -/
theorem Vb.slice (h : Vb w F v xs) : SlR w F v xs := by
  obtain ⟨u, hu, h'⟩ := h
  have : v = u := by simpa using hu
  subst this; exact h'
theorem Vb.of_slice (h : SlR w F v xs) : Vb w F v xs := ⟨v, rfl, h⟩
theorem Vb.nil (w : World) (F : Nat → Prop) : Vb (α := List α) w F (.slice none 0 0) [] := .of_slice ⟨none, 0, [], rfl, Nat.le_refl _, by omega, rfl, fun h => by simp at h⟩
/-- A slice whose elements are asked for at k. -/
theorem Vb.elem {A : Option Addr} {m c : Nat} (h : Vb w F (.slice A m c) xs) {k : Nat} {x : α} (hx : xs[k]? = some x) :
    ∃ b o cs, A = some ⟨b, o, none⟩ ∧ F b ∧ k < m ∧ cellsAt w b (o + k * Rp.size α) cs ∧ Rp.R w F cs x := by
  obtain ⟨A', c', cells, he, h1, h2, h3, h4⟩ := h.slice
  injection he with e1 e2 e3
  subst e1; subst e2; subst e3
  have hk : k < xs.length := by
    rcases Nat.lt_or_ge k xs.length with h | h
    · exact h
    · rw [List.getElem?_eq_none h] at hx; cases hx
  obtain ⟨b, o, h5, h6, h7⟩ := h4 (by omega)
  obtain ⟨pre, cs, post, h8, h9, h10⟩ := h3.get hx
  rw [h8] at h7
  have h11 := (cellsAt_append.1 (cellsAt_append.1 h7).2).1
  rw [h9] at h11
  exact ⟨b, o, cs, h5, h6, hk, h11, h10⟩
theorem Vb.len {A : Option Addr} {m c : Nat} (h : Vb w F (.slice A m c) xs) : m = xs.length ∧ m ≤ c ∧ c ≤ 9223372036854775807 := by
  obtain ⟨A', c', cells, he, h1, h2, h3, h4⟩ := h.slice
  injection he with e1 e2 e3
  subst e2; subst e3; exact ⟨rfl, h1, h2⟩
theorem Vb.form (h : Vb w F v xs) : ∃ A c, v = .slice A xs.length c := by
  obtain ⟨A', c', cells, he, _⟩ := h.slice
  exact ⟨A', c', he⟩
end
/-- s[lo:hi] -/
theorem Vb.cut {α : Type} [Rp α] {w : World} {F : Nat → Prop} {A : Option Addr} {m c : Nat} {xs : List α} (h : Vb w F (.slice A m c) xs) {lo hi mx : Nat} (h1 : lo ≤ hi) (h2 : hi ≤ m) (h3 : hi ≤ mx) (h4 : mx ≤ c) :
    Vb w F (.slice (if mx = lo then A else A.map (·.add (lo * Rp.size α))) (hi - lo) (mx - lo)) ((xs.take hi).drop lo) := by
  obtain ⟨A', c', cells, he, g1, g2, g3, g4⟩ := h.slice
  injection he with e1 e2 e3
  subst e1; subst e2; subst e3
  have hl : ((xs.take hi).drop lo).length = hi - lo := by simp; omega
  refine .of_slice ⟨_, mx - lo, (cells.take (hi * Rp.size α)).drop (lo * Rp.size α), by rw [hl], by omega, by omega, (g3.take hi).drop lo, fun hp => ?_⟩
  obtain ⟨b, o, h5, h6, h7⟩ := g4 (by omega)
  subst h5
  refine ⟨b, o + lo * Rp.size α, ?_, h6, ?_⟩
  · rw [if_neg (by omega)]; simp [add_mk]
  · refine cellsAt_of fun j u hu => ?_
    have := cellsAt_get h7 (lo * Rp.size α + j) u (by
      rw [List.getElem?_drop] at hu
      rw [List.getElem?_take] at hu
      split at hu
      · exact hu
      · cases hu)
    rwa [show o + lo * Rp.size α + j = o + (lo * Rp.size α + j) from by omega]

def Blk (w : World) (g : Nat) (t : TypeId) (cs : List Value) : Prop := w.heap[g]? = some (.cells cs.toArray t (0, 0))
section
variable {w w' : World} {g : Nat} {t : TypeId} {cs : List Value}
theorem Blk.lt (h : Blk w g t cs) : g < w.heap.size := by
  rcases Nat.lt_or_ge g w.heap.size with hlt | hge
  · exact hlt
  · unfold Blk at h; rw [Array.getElem?_eq_none hge] at h; cases h
theorem Blk.cell (h : Blk w g t cs) {i : Nat} {v : Value} (hi : cs[i]? = some v) : w.cell? ⟨g, i, none⟩ = some v := by
  unfold Blk at h; simp [World.cell?, h, hi]
theorem Blk.cellsAt (h : Blk w g t cs) : cellsAt w g 0 cs := cellsAt_of fun j v hv => by rw [Nat.zero_add]; exact h.cell hv
theorem Blk.frozen (h : Blk w g t cs) (i : Nat) : w.frozen? ⟨g, i, none⟩ = false := by
  unfold Blk at h; simp [World.frozen?, h]
theorem Blk.keep (h : Blk w g t cs) (he : w'.heap[g]? = w.heap[g]?) : Blk w' g t cs := he.trans h
theorem Blk.ext (h : Blk w g t cs) (he : Ext w w') : Blk w' g t cs := h.keep (he.block g h.lt)
end
/-- A new block. -/
structure New (w w' : World) (t : TypeId) (cs : List Value) : Prop where
  ext : Ext w w'
  size : w'.heap.size = w.heap.size + 1
  blk : Blk w' w.heap.size t cs
/-- One block has turned. -/
structure Upd (w w' : World) (g : Nat) (t : TypeId) (cs : List Value) : Prop where
  os : w'.os = w.os
  tape : w'.tape = w.tape
  output : w'.output = w.output
  size : w'.heap.size = w.heap.size
  blk : Blk w' g t cs
  other : ∀ k, k ≠ g → w'.heap[k]? = w.heap[k]?
theorem Upd.below {w w' : World} {g : Nat} {t : TypeId} {cs : List Value} (h : Upd w w' g t cs) {B : Nat} (hB : B ≤ g) : Below B w w' :=
  ⟨h.os, h.tape, h.output, Nat.le_of_eq h.size.symm, fun k hk => h.other k (by omega)⟩
theorem Upd.agree {w w' : World} {g : Nat} {t : TypeId} {cs : List Value} (h : Upd w w' g t cs) {F : Nat → Prop} (hF : ¬ F g) : Agree F w w' := fun k hk => h.other k (fun e => hF (e ▸ hk))
theorem New.mk' (w : World) (t : TypeId) (cs : List Value) : New w (w.alloc (.cells cs.toArray t)) t cs :=
  ⟨(Below.refl _ _).alloc (Nat.le_refl _) _, by simp, by unfold Blk; show (w.heap.push _)[_]? = _; simp⟩

theorem New.upd {w w1 w2 : World} {t : TypeId} {cs cs' : List Value} (h : New w w1 t cs) (k : Upd w1 w2 w.heap.size t cs') : New w w2 t cs' :=
  ⟨h.ext.trans (k.below (Nat.le_refl _)), by rw [k.size, h.size], k.blk⟩

/-- A row that is owned and may grow: nil, or a whole block from base on; its elements lead to blocks of F alone, and F does not hold the row's own block. -/
def Own {α : Type} [Rp α] (w : World) (base : Nat) (F : Nat → Prop) (e : TypeId) (v : Value) (xs : List α) : Prop :=
  ∃ cells, w.ownsRow base e (Rp.size α) v xs.length cells ∧ Chunks w F cells xs ∧ ∀ g, v.ownBlock = some g → ¬ F g
section
variable {α : Type} [Rp α] {w w' : World} {F G : Nat → Prop} {base : Nat} {e : TypeId} {v : Value} {xs : List α}
theorem Own.nil (w : World) (base : Nat) (F : Nat → Prop) (e : TypeId) : Own (α := α) w base F e (.slice none 0 0) [] := ⟨[], ⟨by simp, .inl ⟨rfl, rfl⟩⟩, rfl, fun g h => by simp [Value.ownBlock] at h⟩
theorem Own.vb (h : Own w base F e v xs) : Vb w (fun k => F k ∨ v.ownBlock = some k) v xs := by
  obtain ⟨cells, h1, h2, h3⟩ := h
  rcases h1.2 with ⟨rfl, hn⟩ | ⟨g, cap, cur, rfl, hg, hh, hnc, hcm, hcs, hcur⟩
  · have : xs = [] := List.eq_nil_of_length_eq_zero hn
    subst this; exact .nil _ _
  · refine .of_slice ⟨_, cap, cells, rfl, hnc, by simpa [maxLen] using hcm, h2.mono fun k hk => .inl hk, fun hp => ⟨g, 0, rfl, .inr rfl, cellsAt_of fun j u hu => ?_⟩⟩
    have hj : j < xs.length * Rp.size α := by rw [← h2.length]; exact (List.getElem?_eq_some_iff.1 hu).1
    have : cur[j]? = some u := by
      rw [← hcur, List.getElem?_take, if_pos hj] at hu
      simpa using hu
    simp [World.cell?, hh, this]
theorem Own.agree (h : Own w base F e v xs) (ha : Agree F w w') (hv : ∀ g, v.ownBlock = some g → w'.heap[g]? = w.heap[g]?) : Own w' base F e v xs := by
  obtain ⟨cells, h1, h2, h3⟩ := h
  refine ⟨cells, ⟨h1.1, ?_⟩, h2.agree ha, h3⟩
  rcases h1.2 with h | ⟨g, cap, cur, rfl, hg, hh, r⟩
  · exact .inl h
  · exact .inr ⟨g, cap, cur, rfl, hg, (hv g rfl).trans hh, r⟩
theorem Own.lt (h : Own w base F e v xs) : ∀ g, v.ownBlock = some g → base ≤ g ∧ g < w.heap.size := by
  obtain ⟨cells, h1, h2, h3⟩ := h
  rcases h1.2 with ⟨rfl, hn⟩ | ⟨g, cap, cur, rfl, hg, hh, r⟩
  · intro g hg; simp [Value.ownBlock] at hg
  · intro g' hg'
    have : g = g' := by simpa [Value.ownBlock] using hg'
    subst this
    refine ⟨hg, ?_⟩
    rcases Nat.lt_or_ge g w.heap.size with h | h
    · exact h
    · rw [Array.getElem?_eq_none h] at hh; cases hh
theorem Own.ext (h : Own w base F e v xs) (he : Ext w w') (hF : ∀ k, F k → k < w.heap.size) : Own w' base F e v xs :=
  h.agree (he.agree hF) fun g hg => he.block g (h.lt g hg).2
theorem Own.mono (h : Own w base F e v xs) (hk : ∀ k, F k → G k) (hG : ∀ g, v.ownBlock = some g → ¬ G g) : Own w base G e v xs := by
  obtain ⟨cells, h1, h2, h3⟩ := h
  exact ⟨cells, h1, h2.mono hk, hG⟩
theorem Own.lower (h : Own w base F e v xs) {base' : Nat} (hb : base' ≤ base) : Own w base' F e v xs := by
  obtain ⟨cells, h1, h2, h3⟩ := h
  refine ⟨cells, ⟨h1.1, ?_⟩, h2, h3⟩
  rcases h1.2 with h | ⟨g, cap, cur, hv, hg, r⟩
  · exact .inl h
  · exact .inr ⟨g, cap, cur, hv, by omega, r⟩
end
end Go.Proofs.Ytdhaelekmjgbmaa

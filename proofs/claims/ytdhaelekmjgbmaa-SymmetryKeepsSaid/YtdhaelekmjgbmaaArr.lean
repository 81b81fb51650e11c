/- Own text: stores into owned rows, and a slice held against nil, for the calculus of XCore. It holds for every program. -/
import Derived.Test.YtdhaelekmjgbmaaApp
namespace Go.Proofs.Ytdhaelekmjgbmaa
open Go Go.RowKit
theorem Chunks.set {α : Type} [Rp α] {w : World} {F : Nat → Prop} : ∀ {xs : List α} {cells : List Value} {i : Nat} {x : α} {cs : List Value}, Chunks w F cells xs → i < xs.length → Rp.R w F cs x → Chunks w F (setFrom cells (i * Rp.size α) cs) (xs.set i x)
  | [], _, _, _, _, _, hi, _ => by simp at hi
  | y :: xs, cells, 0, x, cs, ⟨c, rest, he, hr, hc⟩, _, hx => by
    refine ⟨cs, rest, ?_, hx, hc⟩
    have := setFrom_mid cs [] c rest (by rw [Rp.len hr, Rp.len hx])
    simp only [List.nil_append, List.length_nil] at this
    rw [he, Nat.zero_mul, this]
  | y :: xs, cells, i + 1, x, cs, ⟨c, rest, he, hr, hc⟩, hi, hx => by
    have ih := Chunks.set (i := i) hc (by simpa using hi) hx
    refine ⟨c, setFrom rest (i * Rp.size α) cs, ?_, hr, ih⟩
    have key : ∀ (vs r : List Value) (k : Nat), setFrom (c ++ r) (c.length + k) vs = c ++ setFrom r k vs := by
      intro vs
      induction vs with
      | nil => intro r k; rfl
      | cons v vs ihv =>
        intro r k
        simp only [setFrom]
        rw [List.set_append_right _ _ (by omega), show c.length + k - c.length = k from by omega, show c.length + k + 1 = c.length + (k + 1) from by omega, ihv]
    rw [he, show (i + 1) * Rp.size α = c.length + i * Rp.size α from by rw [Rp.len hr, Nat.add_mul]; omega, key]
theorem setFrom_append_left : ∀ (vs a b : List Value) (o : Nat), o + vs.length ≤ a.length → setFrom (a ++ b) o vs = setFrom a o vs ++ b
  | [], _, _, _, _ => rfl
  | v :: vs, a, b, o, h => by
    simp only [setFrom, List.length_cons] at *
    rw [List.set_append_left _ _ (by omega), setFrom_append_left vs _ b (o + 1) (by simp; omega)]
/-- What an owned row with elements is. -/
theorem Own.open {α : Type} [Rp α] {w : World} {base : Nat} {F : Nat → Prop} {e : TypeId} {v : Value} {xs : List α} (h : Own w base F e v xs) (hp : 0 < xs.length) :
    ∃ g cap cells sp, v = .slice (some ⟨g, 0, none⟩) xs.length cap ∧ base ≤ g ∧ ¬ F g ∧ Blk w g e (cells ++ sp) ∧ Chunks w F cells xs ∧ cells.length = xs.length * Rp.size α ∧ xs.length ≤ cap ∧ cap ≤ 9223372036854775807 ∧ (cells ++ sp).length = cap * Rp.size α := by
  obtain ⟨cells, h1, h2, h3⟩ := h
  rcases h1.2 with ⟨rfl, hn⟩ | ⟨g, cap, cur, rfl, hg, hh, hnc, hcm, hcs, hcur⟩
  · omega
  · have hsplit : cur.toList = cells ++ cur.toList.drop (xs.length * Rp.size α) := by rw [← hcur]; exact (List.take_append_drop _ _).symm
    refine ⟨g, cap, cells, cur.toList.drop (xs.length * Rp.size α), rfl, hg, h3 g rfl, ?_, h2, h1.1, hnc, by simpa [maxLen] using hcm, ?_⟩
    · unfold Blk; rw [← hsplit]; simpa using hh
    · rw [← hsplit]; simpa using hcs
theorem Own.close {α : Type} [Rp α] {w : World} {base : Nat} {F : Nat → Prop} {e : TypeId} {xs : List α} {g cap : Nat} {cells sp : List Value} (hg : base ≤ g) (hF : ¬ F g) (hb : Blk w g e (cells ++ sp)) (hc : Chunks w F cells xs) (hn : xs.length ≤ cap) (hm : cap ≤ 9223372036854775807) (hl : (cells ++ sp).length = cap * Rp.size α) :
    Own w base F e (.slice (some ⟨g, 0, none⟩) xs.length cap) xs := by
  refine ⟨cells, ⟨hc.length, .inr ⟨g, cap, (cells ++ sp).toArray, rfl, hg, hb, hn, by simpa [maxLen] using hm, by simpa using hl, ?_⟩⟩, hc, fun g' hg' => ?_⟩
  · rw [← hc.length]; simp
  · have : g = g' := by simpa [Value.ownBlock] using hg'
    subst this; exact hF
section
variable {P : Program} {n : Nat} {ops : Array Oper} {Q : Post} {rest : List Oper} {l : Env} {w : World} {ty : TypeId} {pos : String} {aft : Array Edge}
theorem owp_setElem {α : Type} [Rp α] {t e : TypeId} {z : Value} {size bytes : Nat} [TInfo P t z size bytes] (hsize : size = Rp.size α) {x y : Operand} {g i m c : Nat} {u : Value} {a : α} {xs : List α} {base : Nat} {F : Nat → Prop}
    (hx : opv l x = some (.pointer (some ⟨g, 0 + i * size, none⟩))) (hy : opv l y = some u) (hown : Own w base F e (.slice (some ⟨g, 0, none⟩) m c) xs) (hi : i < xs.length) (hu : Vb w F u a)
    (h : ∀ w', Own w' base F e (.slice (some ⟨g, 0, none⟩) m c) (xs.set i a) → Kept w w' (.slice (some ⟨g, 0, none⟩) m c) → w'.heap.size = w.heap.size → owp P n ops Q rest l w') : owp P n ops Q (⟨none, .store t x y, ty, pos, aft, none⟩ :: rest) l w := by
  subst hsize
  obtain ⟨g', cap, cells, sp, hv, hg, hF, hb, hc, hl, hnc, hcm, hlen⟩ := hown.open (by omega)
  injection hv with hv1 hv2 hv3
  injection hv1 with hv1
  injection hv1 with hv1
  subst hv1; subst hv2; subst hv3
  have hcu := hu.cells
  have hle : i * Rp.size α + Rp.size α ≤ cells.length := by
    rw [hl]
    have : (i + 1) * Rp.size α ≤ xs.length * Rp.size α := Nat.mul_le_mul_right _ hi
    rw [Nat.add_mul] at this; omega
  refine owp_store hx hy hb (Rp.len hcu) (by rw [List.length_append]; omega) (Rp.one hcu) fun w' hU => ?_
  rw [Nat.zero_add, setFrom_append_left _ _ _ _ (by rw [Rp.len hcu]; omega)] at hU
  have hag : Agree F w w' := hU.agree hF
  refine h w' ?_ ⟨hU.os, hU.tape, hU.output, Nat.le_of_eq hU.size.symm, fun k _ hne => hU.other k fun he => hne (by simp [Value.ownBlock, he])⟩ hU.size
  have := Own.close (w := w') (cap := c) hg hF hU.blk ((hc.set hi hcu).agree hag) (by simpa using hnc) hcm (by rw [List.length_append, setFrom_length, ← List.length_append]; exact hlen)
  rwa [List.length_set] at this
theorem run_equal_slnil {t e : TypeId} [h : TSlice P t e] (A : Option Addr) (m c : Nat) (w : World) : (Op.equal t (.slice A m c) (.slice none 0 0)).run P w = .ok A.isNone w := by
  have hd : ∀ d : Nat, (Op.equalIn (d + 1) t (.slice A m c) (.slice none 0 0)).run P w = .ok A.isNone w := fun d => by
    cases A <;> simp [Op.equalIn, run_underlying h.eq]
  exact hd 9999
theorem ev_slnil {dst : Option Tmp} {t e u : TypeId} [TSlice P t e] {x : Operand} {A : Option Addr} {m c : Nat} (hx : opv l x = some (.slice A m c)) : Ev P ⟨dst, .binOp .eql t x (.const (.slice none 0 0)) u, ty, pos, aft, none⟩ l w (.bool A.isNone) := fun _ a d ha => by
  have hy := ha.eval (x := .const (.slice none 0 0)) (v := .slice none 0 0) rfl
  simp [execOp, ha.eval hx, hy, eqGuard, binOp, run_equal_slnil (P := P) (t := t)]
theorem ev_slnnil {dst : Option Tmp} {t e u : TypeId} [TSlice P t e] {x : Operand} {A : Option Addr} {m c : Nat} (hx : opv l x = some (.slice A m c)) : Ev P ⟨dst, .binOp .neq t x (.const (.slice none 0 0)) u, ty, pos, aft, none⟩ l w (.bool (!A.isNone)) := fun _ a d ha => by
  have hy := ha.eval (x := .const (.slice none 0 0)) (v := .slice none 0 0) rfl
  simp [execOp, ha.eval hx, hy, eqGuard, binOp, run_equal_slnil (P := P) (t := t)]
end
end Go.Proofs.Ytdhaelekmjgbmaa

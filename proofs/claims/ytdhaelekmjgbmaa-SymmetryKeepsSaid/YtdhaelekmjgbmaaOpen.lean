/- Own text: from a row's reading of an argument to the plain data, and back: an argument whose memory is kept reads as before. -/
import Derived.Test.YtdhaelekmjgbmaaData
import Derived.Deep.Slices
import Derived.ChangeSame
import Derived.Below
namespace Go.Proofs.Ytdhaelekmjgbmaa
open Go Go.RowKit Go.ChangeShapes Go.WideShapes Go.Deep
section
variable {H : Type} {enc : TypeId × Value → H} {P : Program} {w : World}
/-- The plain data that a type's cells stand for. -/
class Reads (P : Program) (t : TypeId) (α : Type) [Rp α] : Prop where
  of : ∀ {H : Type} {enc : TypeId × Value → H} {w : World} {n : Nat} {cs : List Value} {x : DataW H × List MemPlace}, DataW.trod enc P w 0 (fun _ => true) true n t cs = some x → ∃ a : α, Rp.R w (All w) cs a
theorem wf64 {z : Int} (h : (Lit.int .i64 z).wf = true) : inI64 z := by
  simpa [Lit.wf, IntKind.min, IntKind.max, IntKind.signed, IntKind.bits, inI64] using h
theorem readsInt {t : TypeId} (ht : P.underlying t = some (.int .i64)) : Reads P t Int := ⟨fun h => by
  obtain ⟨z, rfl, _, hw⟩ := DataW.trod_int ht h
  exact ⟨z, rfl, wf64 hw⟩⟩
theorem cell_lt {a : Addr} {v : Value} (h : w.cell? a = some v) : a.block < w.heap.size ∧ a.spot = none := by
  unfold World.cell? at h
  split at h
  · next hb =>
    refine ⟨(Array.getElem?_eq_some_iff.1 hb).1, ?_⟩
    cases hs : a.spot with
    | none => rfl
    | some k => rw [hs] at h; simp at h
  · cases h
theorem readsSlice {t e : TypeId} {α : Type} [Rp α] [hr : Reads P e α] (ht : P.underlying t = some (.slice e)) (hc : P.cellsOf e = Rp.size α) (hp : 0 < Rp.size α) : Reads P t (List α) := ⟨fun {H enc w n cs x} h => by
  rcases open_slice ht h with ⟨rfl, _⟩ | ⟨a, len, cap, m, n', D, Pl, rfl, _, hl, hm, hmm, _, hi⟩
  · exact ⟨[], _, rfl, none, 0, [], rfl, Nat.le_refl _, by omega, rfl, fun h => by simp at h⟩
  · have hlm : len ≤ m := by rw [hmm]; simpa using hl
    have key : ∀ k, k ≤ len → ∃ (xs : List α) (cells : List Value), xs.length = k ∧ Chunks w (All w) cells xs ∧ (0 < k → a.spot = none ∧ a.block < w.heap.size) ∧ ∀ (j : Nat) v, cells[j]? = some v → w.cell? ⟨a.block, a.off + j, none⟩ = some v := by
      intro k
      induction k with
      | zero => intro _; exact ⟨[], [], rfl, rfl, fun h => by omega, fun j v h => by simp at h⟩
      | succ k ih =>
        intro hk
        obtain ⟨xs, cells, h1, h2, h3, h4⟩ := ih (by omega)
        obtain ⟨cs', hcs, hel⟩ := hi k (by omega)
        obtain ⟨y, hy⟩ := hr.of hel
        obtain ⟨_, hlen, hat⟩ := World.cells?_some hcs
        rw [hc] at hlen hat
        have hcl := h2.length
        have hadd : ∀ j, j < Rp.size α → ((a.add (k * Rp.size α)).add j).block = a.block ∧ ((a.add (k * Rp.size α)).add j).off = a.off + (cells.length + j) := fun j hj => by
          rw [hcl, h1]
          unfold Addr.add
          by_cases e1 : k * Rp.size α = 0
          · by_cases e2 : j = 0
            · simp [e1, e2]
            · simp [e1, e2]
          · by_cases e2 : j = 0
            · simp [e1, e2]
            · simp [e1, e2]; omega
        have hcell : ∀ (j : Nat) v, cs'[j]? = some v → w.cell? ⟨a.block, a.off + (cells.length + j), none⟩ = some v ∧ a.block < w.heap.size ∧ ((a.add (k * Rp.size α)).add j).spot = none := fun j v hv => by
          have hj : j < Rp.size α := by rw [← hlen]; exact (List.getElem?_eq_some_iff.1 hv).1
          have hw := hat j hj
          rw [hv] at hw
          obtain ⟨q1, q2⟩ := cell_lt hw
          obtain ⟨e1, e2⟩ := hadd j hj
          have : (a.add (k * Rp.size α)).add j = ⟨a.block, a.off + (cells.length + j), none⟩ := by
            cases hx : (a.add (k * Rp.size α)).add j with
            | mk b o s => rw [hx] at e1 e2 q2; simp only at e1 e2 q2; subst e1; subst e2; subst q2; rfl
          rw [this] at hw q1
          exact ⟨hw, q1, q2⟩
        obtain ⟨v0, hv0⟩ : ∃ v, cs'[0]? = some v := ⟨cs'[0]'(by omega), List.getElem?_eq_getElem (by omega)⟩
        refine ⟨xs ++ [y], cells ++ cs', by simp [h1], h2.append (.single hy), fun _ => ⟨?_, (hcell 0 v0 hv0).2.1⟩, fun j v hv => ?_⟩
        · by_cases hk0 : k = 0
          · subst hk0
            have := (hcell 0 v0 hv0).2.2
            simpa [Addr.add] using this
          · exact (h3 (by omega)).1
        · by_cases hj : j < cells.length
          · rw [List.getElem?_append_left hj] at hv; exact h4 j v hv
          · rw [List.getElem?_append_right (by omega)] at hv
            have := (hcell _ v hv).1
            rwa [show cells.length + (j - cells.length) = j from by omega] at this
    obtain ⟨xs, cells, h1, h2, h3, h4⟩ := key len (Nat.le_refl _)
    refine ⟨xs, _, rfl, some a, cap, cells, by rw [h1], by omega, by simpa [maxLen] using hm, h2, fun hpos => ?_⟩
    obtain ⟨q1, q2⟩ := h3 (by omega)
    refine ⟨a.block, a.off, ?_, q2, cellsAt_of h4⟩
    cases a; simp only at q1; subst q1; rfl⟩
end
end Go.Proofs.Ytdhaelekmjgbmaa

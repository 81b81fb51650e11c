/- Own text: slices.Sort at []int over an owned row, out of the library's contract. -/
import Derived.Test.YtfbcjknlihopcaaTree
import Derived.Test.YtfbcjknlihopcaaShelf
namespace Go.Proofs.Ytfbcjknlihopcaa
open Go Go.RowKit
def sortL (xs : List Int) : List Int := xs.mergeSort fun x y => decide (x ≤ y)
theorem sortL_length (xs : List Int) : (sortL xs).length = xs.length := List.length_mergeSort xs
theorem chunks_int_eq {w : World} {F : Nat → Prop} : ∀ {xs : List Int} {cells : List Value}, Chunks w F cells xs → cells = xs.map (Value.int .i64) ∧ ∀ x ∈ xs, inI64 x
  | [], _, h => ⟨h, fun _ hx => by simp at hx⟩
  | x :: xs, cells, ⟨cs, rest, he, hr, hc⟩ => by
    obtain ⟨h1, h2⟩ := chunks_int_eq hc
    obtain ⟨h3, h4⟩ := hr
    refine ⟨by rw [he, h3, h1]; rfl, fun y hy => ?_⟩
    rcases List.mem_cons.1 hy with rfl | hy
    · exact h4
    · exact h2 y hy
theorem chunks_int_mk {w : World} {F : Nat → Prop} : ∀ {xs : List Int}, (∀ x ∈ xs, inI64 x) → Chunks w F (xs.map (Value.int .i64)) xs
  | [], _ => rfl
  | x :: xs, h => ⟨[.int .i64 x], xs.map (Value.int .i64), rfl, ⟨rfl, h x (by simp)⟩, chunks_int_mk fun y hy => h y (by simp [hy])⟩
theorem sortInts {w : World} {base : Nat} {F : Nat → Prop} {v : Value} {xs : List Int} (h : Own w base F 3 v xs) (hl : xs.length ≤ 1000000) :
    Fn Try.prog 48 [v] w fun r w' => r = .tuple #[] ∧ Own w' base F 3 v (sortL xs) ∧ Kept w w' v := by
  intro d
  rcases Nat.eq_zero_or_pos xs.length with h0 | h0
  · have hx : xs = [] := List.eq_nil_of_length_eq_zero h0
    subst hx
    have hv : ∃ p c, v = .slice p 0 c := by
      obtain ⟨cells, h1, _⟩ := h
      rcases h1.2 with ⟨rfl, _⟩ | ⟨g, cap, cur, rfl, _⟩
      · exact ⟨_, _, rfl⟩
      · exact ⟨_, _, rfl⟩
    obtain ⟨p, c, rfl⟩ := hv
    refine (Try.slices_Sort_int_none p c (dr w d)).mono fun e w' ⟨he, hw⟩ => ⟨_, w, d, he, hw, rfl, by simpa [sortL] using h, ⟨rfl, rfl, rfl, Nat.le_refl _, fun _ _ _ => rfl⟩⟩
  · obtain ⟨g, cap, cells, sp, rfl, hg, hFg, hb, hc, hlen, hnc, hcm, htot⟩ := h.open h0
    obtain ⟨rfl, hin⟩ := chunks_int_eq hc
    have hH : Go.Sort.Holds (Value.int .i64) (dr w d) g 0 xs.toArray := fun j hj => by
      have hj' : j < xs.length := by simpa using hj
      refine ⟨?_, by rw [Nat.zero_add]; exact hb.frozen j⟩
      rw [Nat.zero_add]
      refine hb.cell ?_
      rw [List.getElem?_append_left (by simpa using hj'), List.getElem?_map, List.getElem?_eq_getElem hj']
      simp [hj']
    refine (Try.slices_Sort_int g 0 cap xs (dr w d) hH hb.lt (by omega)).mono fun e w' ⟨he, n, os, hw⟩ => ⟨_, w', w'.drawn, he, rfl, rfl, ?_, ?_⟩
    · have hblk : Blk w' g 3 ((sortL xs).map (Value.int .i64) ++ sp) := by
        subst hw
        unfold Blk at hb ⊢
        have hsz : g < w.heap.size := Blk.lt hb
        show ((w.heap.modify g _) ++ os)[g]? = _
        rw [Array.getElem?_append_left (by simpa using hsz), Array.getElem?_modify, if_pos rfl, hb]
        simp only [Option.map_some, Go.Sort.onCells]
        congr 2
        apply Array.ext
        · simp [Go.Sort.putCells, sortL_length]
        · intro i h1 h2
          simp only [Go.Sort.putCells, Array.getElem_mapIdx, Nat.zero_add, Nat.sub_zero, Nat.zero_le, true_and]
          have e1 : (List.mergeSort xs fun x y => decide (x ≤ y)).length = xs.length := List.length_mergeSort xs
          by_cases hi : i < xs.length
          · rw [if_pos (by simpa [e1] using hi)]
            simp only [List.getElem_toArray]
            rw [List.getElem_append_left (by simpa [sortL_length] using hi), List.getElem_map]
            congr 1
            rw [getElem!_pos _ _ (by simpa [e1] using hi)]
            simp [sortL]
          · rw [if_neg (by simpa [e1] using hi)]
            simp only [List.getElem_toArray]
            rw [List.getElem_append_right (by simp; omega), List.getElem_append_right (by simp [sortL_length]; omega)]
            simp [sortL_length]
      have := Own.close (w := w') (base := base) (cap := cap) hg hFg hblk (chunks_int_mk (F := F) (w := w') fun x hx => hin x (by
        have := (List.mergeSort_perm xs fun x y => decide (x ≤ y)).mem_iff.1 hx
        exact this)) (by rw [sortL_length]; exact hnc) hcm (by simpa [sortL_length] using htot)
      rwa [sortL_length] at this
    · subst hw
      refine ⟨rfl, rfl, rfl, ?_, fun k hk hne => ?_⟩
      · show w.heap.size ≤ ((w.heap.modify g _) ++ os).size
        simp
      · have hkg : g ≠ k := fun e => hne (by simp [Value.ownBlock, e])
        show ((w.heap.modify g _) ++ os)[k]? = _
        rw [Array.getElem?_append_left (by simpa using hk), Array.getElem?_modify, if_neg hkg]
end Go.Proofs.Ytfbcjknlihopcaa

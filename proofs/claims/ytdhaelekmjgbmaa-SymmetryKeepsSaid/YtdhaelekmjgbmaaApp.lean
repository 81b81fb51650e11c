/- Own text: append of one element to an owned row, rows that were just made, and which blocks stay, for the calculus of XCore. It holds for every program. -/
import Derived.Test.YtdhaelekmjgbmaaLoop
namespace Go.Proofs.Ytdhaelekmjgbmaa
open Go Go.RowKit
/-- What was there and is not the row's block stays. -/
structure Kept (w w' : World) (v : Value) : Prop where
  os : w'.os = w.os
  tape : w'.tape = w.tape
  output : w'.output = w.output
  size : w.heap.size ≤ w'.heap.size
  block : ∀ k, k < w.heap.size → v.ownBlock ≠ some k → w'.heap[k]? = w.heap[k]?
theorem Kept.below {w w' : World} {v : Value} (h : Kept w w' v) {B : Nat} (hB : B ≤ w.heap.size) (hv : ∀ g, v.ownBlock = some g → B ≤ g) : Below B w w' :=
  ⟨h.os, h.tape, h.output, h.size, fun k hk => h.block k (by omega) fun e => by have := hv k e; omega⟩
theorem Kept.blk {w w' : World} {v : Value} (h : Kept w w' v) {g : Nat} {t : TypeId} {cs : List Value} (hb : Blk w g t cs) (hne : v.ownBlock ≠ some g) : Blk w' g t cs := hb.keep (h.block g hb.lt hne)
theorem Own.blk_ne {α : Type} [Rp α] {w : World} {base : Nat} {F : Nat → Prop} {e : TypeId} {v : Value} {xs : List α} (h : Own w base F e v xs) {g : Nat} {t : TypeId} {cs : List Value} (hb : Blk w g t cs) (hne : t ≠ e) : v.ownBlock ≠ some g := by
  obtain ⟨cells, h1, _⟩ := h
  rcases h1.2 with ⟨rfl, _⟩ | ⟨g', cap, cur, rfl, _, hh, _⟩
  · simp [Value.ownBlock]
  · intro he
    have : g' = g := by simpa [Value.ownBlock] using he
    subst this
    unfold Blk at hb
    rw [hb] at hh
    injection hh with hh
    injection hh with _ ht
    exact hne ht
theorem Own.fits {α : Type} [Rp α] {w w' : World} {base : Nat} {F : Nat → Prop} {e : TypeId} {v : Value} {xs : List α} (h : Own w base F e v xs) {B : Nat} (hB : B ≤ base) (hb : B ≤ w.heap.size) (k : Kept w w' v) : Below B w w' := k.below hb fun g hg => by have := (h.lt g hg).1; omega
/-- A row that was just made. -/
theorem Own.made {α : Type} [Rp α] {w w' : World} {F : Nat → Prop} {e : TypeId} {cells : List Value} {xs : List α} {n : Nat} (h : New w w' e cells) (hc : Chunks w' F cells xs) (hn : n = xs.length) (hF : ¬ F w.heap.size) (hm : n ≤ 9223372036854775807) : Own w' w.heap.size F e (.slice (some ⟨w.heap.size, 0, none⟩) n n) xs := by
  subst hn
  refine ⟨cells, ⟨hc.length, .inr ⟨w.heap.size, xs.length, cells.toArray, rfl, Nat.le_refl _, h.blk, Nat.le_refl _, by simpa [maxLen] using hm, by simp [hc.length], ?_⟩⟩, hc, fun g hg => ?_⟩
  · rw [← hc.length]; simp
  · have : w.heap.size = g := by simpa [Value.ownBlock] using hg
    subst this; exact hF
/-- A row that was just made, to be read. -/
theorem Vb.made {α : Type} [Rp α] {w w' : World} {F : Nat → Prop} {e : TypeId} {cells : List Value} {xs : List α} {n : Nat} (h : New w w' e cells) (hc : Chunks w' F cells xs) (hn : n = xs.length) (hF : F w.heap.size) (hm : n ≤ 9223372036854775807) : Vb w' F (.slice (some ⟨w.heap.size, 0, none⟩) n n) xs := by
  subst hn
  exact .of_slice ⟨_, _, cells, rfl, Nat.le_refl _, hm, hc, fun _ => ⟨_, _, rfl, hF, h.blk.cellsAt⟩⟩
section
variable {P : Program} {n : Nat} {ops : Array Oper} {Q : Post} {rest : List Oper} {l : Env} {w : World} {d d1 d2 : Tmp} {ty ty2 : TypeId} {pos pos2 : String} {aft aft2 : Array Edge}
/-- append of a slice's elements to an owned row. -/
theorem owp_appendS {α : Type} [Rp α] {t e : TypeId} [TSlice P t e] {z : Value} {size bytes : Nat} [TInfo P e z size bytes] (hsize : size = Rp.size α) {x y : Operand} {v u : Value} {xs ys : List α} {base : Nat} {F : Nat → Prop}
    (hx : opv l x = some v) (hy : opv l y = some u) (hown : Own w base F e v xs) (hF : ∀ k, F k → k < w.heap.size) (hbase : base ≤ w.heap.size) (hu : Vb w F u ys)
    (hz0 : 0 < size) (hb : (xs.length + ys.length) * bytes ≤ 140737488355328) (h63 : xs.length + ys.length ≤ 9223372036854775807) (hd : Nat.blt d n = true)
    (h : ∀ v' w', Own w' base F e v' (xs ++ ys) → Kept w w' v → owp P n ops Q rest ((d, v') :: l) w') :
    owp P n ops Q (⟨some d, .call { callee := .builtin .append, args := #[x, y], argTypes := #[t, t] }, ty, pos, aft, none⟩ :: rest) l w := by
  subst hsize
  obtain ⟨A, c, cells, rfl, h1, h2, h3, h4⟩ := hu.slice
  exact owp_append hx hy hown hF hbase h3 (fun hp => by obtain ⟨b, o, h5, _, h6⟩ := h4 hp; exact ⟨b, o, h5, h6⟩) hz0 hb h63 hd fun v' w' ho hg _ =>
    h v' w' ho ⟨hg.os, hg.tape, hg.output, hg.size, fun k hk hne => hg.block k hk (fun he => hne he.symm)⟩
/-- append of one element to an owned row. -/
theorem owp_append1 {α : Type} [Rp α] {t e : TypeId} [TSlice P t e] {z : Value} {size bytes : Nat} [TInfo P e z size bytes] (hsize : size = Rp.size α) {x y : Operand} {v u : Value} {xs : List α} {a : α} {base : Nat} {F : Nat → Prop}
    (hx : opv ((d1, .slice (some ⟨w.heap.size, 0, none⟩) 1 1) :: l) x = some v) (hy : opv l y = some u) (hown : Own w base F e v xs) (hF : ∀ k, F k → k < w.heap.size) (hbase : base ≤ w.heap.size) (hu : Vb w F u a)
    (hz0 : 0 < size) (hz1 : size ≤ 1000) (hb : (xs.length + 1) * bytes ≤ 140737488355328) (h63 : xs.length + 1 ≤ 9223372036854775807) (hd : Nat.blt d1 n = true ∧ Nat.blt d2 n = true)
    (h : ∀ v' w', Own w' base F e v' (xs ++ [a]) → Kept w w' v → owp P n ops Q rest ((d2, v') :: (d1, .slice (some ⟨w.heap.size, 0, none⟩) 1 1) :: l) w') :
    owp P n ops Q (⟨some d1, .buildSlice t 1 #[(0, y)], ty, pos, aft, none⟩ :: ⟨some d2, .call { callee := .builtin .append, args := #[x, .tmp d1], argTypes := #[t, t] }, ty2, pos2, aft2, none⟩ :: rest) l w := by
  subst hsize
  have hc := hu.cells
  refine owp_slice (ps := [(0, y)]) (vs := [u]) rfl (by simp [opvs, hy]) rfl (fun v hv => by simp at hv; subst hv; exact Rp.len hc) (by omega) hd.1 fun w1 hN => ?_
  have hcells : ([u].flatMap fun v => v.cells.toList) = u.cells.toList := by simp
  rw [hcells] at hN
  have hagree : Agree F w w1 := hN.ext.agree hF
  refine owp_append (A := some ⟨w.heap.size, 0, none⟩) (c := 1) (ys := [a]) (cells := u.cells.toList) hx (by simp [opv, lk]) (hown.ext hN.ext hF) (fun k hk => Nat.lt_of_lt_of_le (hF k hk) hN.ext.size) (Nat.le_trans hbase hN.ext.size) (.single (Rp.agree hc hagree)) (fun _ => ⟨_, _, rfl, hN.blk.cellsAt⟩) hz0 hb h63 hd.2 fun v' w' ho hg _ => ?_
  refine h v' w' ho ⟨hg.os.trans hN.ext.os, hg.tape.trans hN.ext.tape, hg.output.trans hN.ext.output, Nat.le_trans hN.ext.size hg.size, fun k hk hne => ?_⟩
  rw [hg.block k (Nat.lt_of_lt_of_le hk hN.ext.size) (fun he => hne he.symm), hN.ext.block k hk]
/-- append of one element to an owned row; where the new row lies. -/
theorem owp_append1x {α : Type} [Rp α] {t e : TypeId} [TSlice P t e] {z : Value} {size bytes : Nat} [TInfo P e z size bytes] (hsize : size = Rp.size α) {x y : Operand} {v u : Value} {xs : List α} {a : α} {base : Nat} {F : Nat → Prop}
    (hx : opv ((d1, .slice (some ⟨w.heap.size, 0, none⟩) 1 1) :: l) x = some v) (hy : opv l y = some u) (hown : Own w base F e v xs) (hF : ∀ k, F k → k < w.heap.size) (hbase : base ≤ w.heap.size) (hu : Vb w F u a)
    (hz0 : 0 < size) (hz1 : size ≤ 1000) (hb : (xs.length + 1) * bytes ≤ 140737488355328) (h63 : xs.length + 1 ≤ 9223372036854775807) (hd : Nat.blt d1 n = true ∧ Nat.blt d2 n = true)
    (h : ∀ v' w', Own w' base F e v' (xs ++ [a]) → Kept w w' v → (v'.ownBlock = v.ownBlock ∨ ∃ g, v'.ownBlock = some g ∧ w.heap.size ≤ g) → owp P n ops Q rest ((d2, v') :: (d1, .slice (some ⟨w.heap.size, 0, none⟩) 1 1) :: l) w') :
    owp P n ops Q (⟨some d1, .buildSlice t 1 #[(0, y)], ty, pos, aft, none⟩ :: ⟨some d2, .call { callee := .builtin .append, args := #[x, .tmp d1], argTypes := #[t, t] }, ty2, pos2, aft2, none⟩ :: rest) l w := by
  subst hsize
  have hc := hu.cells
  refine owp_slice (ps := [(0, y)]) (vs := [u]) rfl (by simp [opvs, hy]) rfl (fun v hv => by simp at hv; subst hv; exact Rp.len hc) (by omega) hd.1 fun w1 hN => ?_
  have hcells : ([u].flatMap fun v => v.cells.toList) = u.cells.toList := by simp
  rw [hcells] at hN
  have hagree : Agree F w w1 := hN.ext.agree hF
  refine owp_append (A := some ⟨w.heap.size, 0, none⟩) (c := 1) (ys := [a]) (cells := u.cells.toList) hx (by simp [opv, lk]) (hown.ext hN.ext hF) (fun k hk => Nat.lt_of_lt_of_le (hF k hk) hN.ext.size) (Nat.le_trans hbase hN.ext.size) (.single (Rp.agree hc hagree)) (fun _ => ⟨_, _, rfl, hN.blk.cellsAt⟩) hz0 hb h63 hd.2 fun v' w' ho hg hat => ?_
  refine h v' w' ho ⟨hg.os.trans hN.ext.os, hg.tape.trans hN.ext.tape, hg.output.trans hN.ext.output, Nat.le_trans hN.ext.size hg.size, fun k hk hne => ?_⟩ ?_
  · rw [hg.block k (Nat.lt_of_lt_of_le hk hN.ext.size) (fun he => hne he.symm), hN.ext.block k hk]
  · rcases hat with hat | hat
    · exact .inl hat
    · exact .inr ⟨_, hat, hN.ext.size⟩
end
end Go.Proofs.Ytdhaelekmjgbmaa

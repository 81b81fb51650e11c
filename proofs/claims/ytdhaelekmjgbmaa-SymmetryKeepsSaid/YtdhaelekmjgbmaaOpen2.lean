/- Own text: the program's types read as plain data; reading again behind a call. -/
import Derived.Test.YtdhaelekmjgbmaaOpen
import Derived.Test.YtdhaelekmjgbmaaTypes
namespace Go.Proofs.Ytdhaelekmjgbmaa
open Go Go.RowKit Go.ChangeShapes Go.WideShapes Go.Deep
theorem len2 {cs : List Value} (h : cs.length = 2) : ∃ a b, cs = [a, b] := by
  match cs, h with
  | [a, b], _ => exact ⟨a, b, rfl⟩
theorem len3 {cs : List Value} (h : cs.length = 3) : ∃ a b c, cs = [a, b, c] := by
  match cs, h with
  | [a, b, c], _ => exact ⟨a, b, c, rfl⟩
theorem len4 {cs : List Value} (h : cs.length = 4) : ∃ a b c d, cs = [a, b, c, d] := by
  match cs, h with
  | [a, b, c, d], _ => exact ⟨a, b, c, d, rfl⟩
theorem c_int : Try.prog.cellsOf 3 = 1 := by kernel_rfl
theorem c_str : Try.prog.cellsOf 9 = 1 := by kernel_rfl
theorem c_ints : Try.prog.cellsOf 22 = 1 := by kernel_rfl
theorem c_facts : Try.prog.cellsOf 23 = 1 := by kernel_rfl
theorem c_effs : Try.prog.cellsOf 75 = 1 := by kernel_rfl
theorem c_ops : Try.prog.cellsOf 24 = 1 := by kernel_rfl
theorem c_fact : Try.prog.cellsOf 103 = 2 := by kernel_rfl
theorem c_eff : Try.prog.cellsOf 74 = 3 := by kernel_rfl
theorem c_op : Try.prog.cellsOf 77 = 4 := by kernel_rfl
theorem c_task : Try.prog.cellsOf 26 = 4 := by kernel_rfl
theorem readsField {H : Type} {enc : TypeId × Value → H} {P : Program} {w : World} {t : TypeId} {fs : Array Field} {n : Nat} {cs : List Value} {x : DataW H × List MemPlace} (ht : P.underlying t = some (.struct fs)) (h : DataW.trod enc P w 0 (fun _ => true) true n t cs = some x) :
    cs.length = P.cellsOf t ∧ ∃ m, ∀ (j ty off c : Nat), (fs[j]?).map (fun f => (f.type, f.offset)) = some (ty, off) → P.cellsOf ty = c → ∃ y, DataW.trod enc P w 0 (fun _ => true) true m ty ((cs.drop off).take c) = some y := by
  obtain ⟨xs, m, _, _, hl, hx, hf⟩ := DataW.trod_struct ht h
  refine ⟨hl, m, fun j ty off c hj hc => ?_⟩
  obtain ⟨fd, h1, h2⟩ := Option.map_eq_some_iff.1 hj
  injection h2 with h3 h4
  subst h3; subst h4; subst hc
  have hj' : j < xs.length := by rw [hx]; exact (Array.getElem?_eq_some_iff.1 h1).1
  exact ⟨xs[j], (hf j fd h1).trans (List.getElem?_eq_getElem hj')⟩
theorem some_at {β : Type} {xs : List β} {i : Nat} (h : i < xs.length) : ∃ x, xs[i]? = some x := ⟨xs[i], List.getElem?_eq_getElem h⟩
theorem R_list {α : Type} [Rp α] {w : World} {F : Nat → Prop} {v : Value} {xs : List α} (h : Rp.R w F [v] xs) : Vb w F v xs := h
instance : Reads Try.prog 3 Int := readsInt Try.underlying3
instance : Reads Try.prog 22 (List Int) := readsSlice Try.underlying22 c_int (by decide)
instance : Reads Try.prog 103 Fct := ⟨fun {H enc w n cs x} h => by
  obtain ⟨hl, m, hf⟩ := readsField Try.underlying103 h
  obtain ⟨v0, v1, rfl⟩ := len2 (hl.trans c_fact)
  obtain ⟨x0, g0⟩ := hf 0 3 0 1 rfl c_int
  replace g0 : DataW.trod enc Try.prog w 0 (fun _ => true) true m 3 [v0] = some x0 := g0
  obtain ⟨x1, g1⟩ := hf 1 3 1 1 rfl c_int
  replace g1 : DataW.trod enc Try.prog w 0 (fun _ => true) true m 3 [v1] = some x1 := g1
  obtain ⟨z0, e0, q0⟩ := (inferInstance : Reads Try.prog 3 Int).of g0
  obtain rfl : v0 = .int .i64 z0 := by simpa using e0
  obtain ⟨z1, e1, q1⟩ := (inferInstance : Reads Try.prog 3 Int).of g1
  obtain rfl : v1 = .int .i64 z1 := by simpa using e1
  exact ⟨⟨z0, z1⟩, rfl, q0, q1⟩⟩
instance : Reads Try.prog 23 (List Fct) := readsSlice Try.underlying23 c_fact (by decide)
instance : Reads Try.prog 74 Eff := ⟨fun {H enc w n cs x} h => by
  obtain ⟨hl, m, hf⟩ := readsField Try.underlying74 h
  obtain ⟨v0, v1, v2, rfl⟩ := len3 (hl.trans c_eff)
  obtain ⟨x0, g0⟩ := hf 0 23 0 1 rfl c_facts
  replace g0 : DataW.trod enc Try.prog w 0 (fun _ => true) true m 23 [v0] = some x0 := g0
  obtain ⟨x1, g1⟩ := hf 1 3 1 1 rfl c_int
  replace g1 : DataW.trod enc Try.prog w 0 (fun _ => true) true m 3 [v1] = some x1 := g1
  obtain ⟨x2, g2⟩ := hf 2 3 2 1 rfl c_int
  replace g2 : DataW.trod enc Try.prog w 0 (fun _ => true) true m 3 [v2] = some x2 := g2
  obtain ⟨z0, q0⟩ := (inferInstance : Reads Try.prog 23 (List Fct)).of g0
  obtain ⟨z1, e1, q1⟩ := (inferInstance : Reads Try.prog 3 Int).of g1
  obtain rfl : v1 = .int .i64 z1 := by simpa using e1
  obtain ⟨z2, e2, q2⟩ := (inferInstance : Reads Try.prog 3 Int).of g2
  obtain rfl : v2 = .int .i64 z2 := by simpa using e2
  exact ⟨⟨z0, z1, z2⟩, v0, rfl, q0, q1, q2⟩⟩
instance : Reads Try.prog 75 (List Eff) := readsSlice Try.underlying75 c_eff (by decide)
instance : Reads Try.prog 77 Opr := ⟨fun {H enc w n cs x} h => by
  obtain ⟨hl, m, hf⟩ := readsField Try.underlying77 h
  obtain ⟨v0, v1, v2, v3, rfl⟩ := len4 (hl.trans c_op)
  obtain ⟨x0, g0⟩ := hf 0 9 0 1 rfl c_str
  replace g0 : DataW.trod enc Try.prog w 0 (fun _ => true) true m 9 [v0] = some x0 := g0
  obtain ⟨x1, g1⟩ := hf 1 3 1 1 rfl c_int
  replace g1 : DataW.trod enc Try.prog w 0 (fun _ => true) true m 3 [v1] = some x1 := g1
  obtain ⟨x2, g2⟩ := hf 2 23 2 1 rfl c_facts
  replace g2 : DataW.trod enc Try.prog w 0 (fun _ => true) true m 23 [v2] = some x2 := g2
  obtain ⟨x3, g3⟩ := hf 3 75 3 1 rfl c_effs
  replace g3 : DataW.trod enc Try.prog w 0 (fun _ => true) true m 75 [v3] = some x3 := g3
  obtain ⟨z0, e0, _, q0⟩ := DataW.trod_string Try.underlying9 g0
  obtain rfl : v0 = .string z0 := by simpa using e0
  obtain ⟨z1, e1, q1⟩ := (inferInstance : Reads Try.prog 3 Int).of g1
  obtain rfl : v1 = .int .i64 z1 := by simpa using e1
  obtain ⟨z2, q2⟩ := (inferInstance : Reads Try.prog 23 (List Fct)).of g2
  obtain ⟨z3, q3⟩ := (inferInstance : Reads Try.prog 75 (List Eff)).of g3
  exact ⟨⟨z0, z1, z2, z3⟩, v2, v3, rfl, q2, q3, q1, by simpa [maxLen] using q0⟩⟩
instance : Reads Try.prog 24 (List Opr) := readsSlice Try.underlying24 c_op (by decide)
instance : Reads Try.prog 26 Tsk := ⟨fun {H enc w n cs x} h => by
  obtain ⟨hl, m, hf⟩ := readsField Try.underlying26 h
  obtain ⟨v0, v1, v2, v3, rfl⟩ := len4 (hl.trans c_task)
  obtain ⟨x0, g0⟩ := hf 0 22 0 1 rfl c_ints
  replace g0 : DataW.trod enc Try.prog w 0 (fun _ => true) true m 22 [v0] = some x0 := g0
  obtain ⟨x1, g1⟩ := hf 1 22 1 1 rfl c_ints
  replace g1 : DataW.trod enc Try.prog w 0 (fun _ => true) true m 22 [v1] = some x1 := g1
  obtain ⟨x2, g2⟩ := hf 2 23 2 1 rfl c_facts
  replace g2 : DataW.trod enc Try.prog w 0 (fun _ => true) true m 23 [v2] = some x2 := g2
  obtain ⟨x3, g3⟩ := hf 3 24 3 1 rfl c_ops
  replace g3 : DataW.trod enc Try.prog w 0 (fun _ => true) true m 24 [v3] = some x3 := g3
  obtain ⟨z0, q0⟩ := (inferInstance : Reads Try.prog 22 (List Int)).of g0
  obtain ⟨z1, q1⟩ := (inferInstance : Reads Try.prog 22 (List Int)).of g1
  obtain ⟨z2, q2⟩ := (inferInstance : Reads Try.prog 23 (List Fct)).of g2
  obtain ⟨z3, q3⟩ := (inferInstance : Reads Try.prog 24 (List Opr)).of g3
  exact ⟨⟨z0, z1, z2, z3⟩, v0, v1, v2, v3, rfl, q0, q1, q2, q3⟩⟩
/-- An argument is plain data. -/
theorem openV {H : Type} {enc : TypeId × Value → H} {P : Program} {w : World} {t : TypeId} {α : Type} [Rp α] [hr : Reads P t α] {v : Value} {d : DataW H} {p : List MemPlace} (hag : Rp.isAgg α = true → ∃ cs, v = .agg cs) (hne : Rp.isAgg α = false → v.cells.toList = [v])
    (h : DataW.Trod enc P w 0 (fun _ => true) true t v d p) : ∃ a : α, V w v a := by
  obtain ⟨n, h⟩ := h
  obtain ⟨a, ha⟩ := hr.of h
  refine ⟨a, ?_⟩
  unfold V Vb
  cases hb : Rp.isAgg α with
  | true =>
    obtain ⟨cs, rfl⟩ := hag hb
    exact ⟨cs.toList, by simp, ha⟩
  | false =>
    rw [hne hb] at ha
    exact ha
end Go.Proofs.Ytdhaelekmjgbmaa

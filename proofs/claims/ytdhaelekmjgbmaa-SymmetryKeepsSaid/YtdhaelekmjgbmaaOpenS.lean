/- Own text: symmetries read as plain data. -/
import Derived.Test.YtdhaelekmjgbmaaJoin
import Derived.Test.YtdhaelekmjgbmaaSym1
namespace Go.Proofs.Ytdhaelekmjgbmaa
open Go Go.RowKit Go.ChangeShapes Go.WideShapes Go.Deep
instance : Reads Try.prog 27 (List (List Int)) := readsSlice Try.underlying27 c_ints (by decide)
instance : Reads Try.prog 29 Swp := ⟨fun {H enc w n cs x} h => by
  obtain ⟨hl, m, hf⟩ := readsField Try.underlying29 h
  obtain ⟨v0, v1, v2, rfl⟩ := len3 (hl.trans (by kernel_rfl : Try.prog.cellsOf 29 = 3))
  obtain ⟨x0, g0⟩ := hf 0 22 0 1 rfl (by kernel_rfl)
  replace g0 : DataW.trod enc Try.prog w 0 (fun _ => true) true m 22 [v0] = some x0 := g0
  obtain ⟨x1, g1⟩ := hf 1 27 1 1 rfl (by kernel_rfl)
  replace g1 : DataW.trod enc Try.prog w 0 (fun _ => true) true m 27 [v1] = some x1 := g1
  obtain ⟨x2, g2⟩ := hf 2 22 2 1 rfl (by kernel_rfl)
  replace g2 : DataW.trod enc Try.prog w 0 (fun _ => true) true m 22 [v2] = some x2 := g2
  obtain ⟨z0, q0⟩ := (inferInstance : Reads Try.prog 22 (List Int)).of g0
  obtain ⟨z1, q1⟩ := (inferInstance : Reads Try.prog 27 (List (List Int))).of g1
  obtain ⟨z2, q2⟩ := (inferInstance : Reads Try.prog 22 (List Int)).of g2
  exact ⟨⟨z0, z1, z2⟩, v0, v1, v2, rfl, q0, q1, q2⟩⟩
end Go.Proofs.Ytdhaelekmjgbmaa

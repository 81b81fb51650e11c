/- Own text: bytes read as plain data. -/
import Derived.Test.YtfbcjknlihopcaaJoin
import Derived.Test.YtfbcjknlihopcaaMod
namespace Go.Proofs.Ytfbcjknlihopcaa
open Go Go.RowKit Go.ChangeShapes Go.WideShapes Go.Deep
theorem wf8 {z : Int} (h : (Lit.int .u8 z).wf = true) : 0 ≤ z ∧ z ≤ 255 := by
  simpa [Lit.wf, IntKind.min, IntKind.max, IntKind.signed, IntKind.bits] using h
theorem readsByte {P : Program} {t : TypeId} (ht : P.underlying t = some (.int .u8)) : Reads P t Byt := ⟨fun h => by
  obtain ⟨z, rfl, _, hw⟩ := DataW.trod_int ht h
  exact ⟨⟨z, (wf8 hw).1, (wf8 hw).2⟩, rfl⟩⟩
instance : Reads Try.prog 5 Byt := readsByte Try.underlying5
theorem V_byte {w : World} {v : Value} {x : Byt} (h : V w v x) : v = .int .u8 x.n := Vb.byte h
end Go.Proofs.Ytfbcjknlihopcaa

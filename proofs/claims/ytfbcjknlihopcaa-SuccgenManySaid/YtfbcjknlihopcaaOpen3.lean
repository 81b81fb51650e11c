/- Own text: bytes read as plain data. -/
import Derived.Test.YtfbcjknlihopcaaJoin
import Derived.Test.YtfbcjknlihopcaaMod
import Derived.OpenShut
namespace Go.Proofs.Ytfbcjknlihopcaa
open Go Go.RowKit Go.ChangeShapes Go.WideShapes Go.Deep
theorem wf8 {z : Int} (h : (Lit.int .u8 z).wf = true) : 0 ≤ z ∧ z ≤ 255 := by
  simpa [Lit.wf, IntKind.min, IntKind.max, IntKind.signed, IntKind.bits] using h
theorem readsByte {P : Program} {t : TypeId} (ht : P.underlying t = some (.int .u8)) : Reads P t Byt := ⟨fun h => by
  obtain ⟨z, rfl, _, hw⟩ := DataW.trod_int ht h
  exact ⟨⟨z, (wf8 hw).1, (wf8 hw).2⟩, rfl⟩⟩
instance : Reads Try.prog 5 Byt := readsByte Try.underlying5
theorem V_byte {w : World} {v : Value} {x : Byt} (h : V w v x) : v = .int .u8 x.n := Vb.byte h
theorem V_arr {α : Type} [Rp α] {w : World} {F : Nat → Prop} {v : Value} {x : α} (hb : Rp.isAgg α = false) (h : Rp.R w F [v] x) : Vb w F v x := by unfold Vb; rw [hb]; exact h
theorem readsArr3 {P : Program} {t e : TypeId} {α : Type} [Rp α] [One1 α] [hr : Reads P e α] (ht : P.underlying t = some (.array 3 e)) (hc : P.cellsOf e = 1) (hc3 : P.cellsOf t = 3) : Reads P t (α × α × α) := ⟨fun {H enc w n cs x} h => by
  obtain ⟨xs, m, _, _, hl, hx, hi⟩ := DataW.trod_array ht h
  rw [hc3] at hl
  obtain ⟨a, b, c, rfl⟩ := len3 hl
  rw [hc] at hi
  have g : ∀ i (hlt : i < 3), ∃ y, DataW.trod enc P w 0 (fun _ => true) true m e (([a, b, c].drop (i * 1)).take 1) = some y := fun i hlt => ⟨xs[i], (hi i hlt).trans (List.getElem?_eq_getElem (by omega))⟩
  obtain ⟨y0, g0⟩ := g 0 (by decide)
  obtain ⟨y1, g1⟩ := g 1 (by decide)
  obtain ⟨y2, g2⟩ := g 2 (by decide)
  obtain ⟨z0, q0⟩ := hr.of g0
  obtain ⟨z1, q1⟩ := hr.of g1
  obtain ⟨z2, q2⟩ := hr.of g2
  exact ⟨(z0, z1, z2), a, b, c, rfl, V_arr One1.ag q0, V_arr One1.ag q1, V_arr One1.ag q2⟩⟩
theorem readsArr2 {P : Program} {t e : TypeId} {α : Type} [Rp α] [One1 α] [hr : Reads P e α] (ht : P.underlying t = some (.array 2 e)) (hc : P.cellsOf e = 1) (hc2 : P.cellsOf t = 2) : Reads P t (α × α) := ⟨fun {H enc w n cs x} h => by
  obtain ⟨xs, m, _, _, hl, hx, hi⟩ := DataW.trod_array ht h
  rw [hc2] at hl
  obtain ⟨a, b, rfl⟩ := len2 hl
  rw [hc] at hi
  have g : ∀ i (hlt : i < 2), ∃ y, DataW.trod enc P w 0 (fun _ => true) true m e (([a, b].drop (i * 1)).take 1) = some y := fun i hlt => ⟨xs[i], (hi i hlt).trans (List.getElem?_eq_getElem (by omega))⟩
  obtain ⟨y0, g0⟩ := g 0 (by decide)
  obtain ⟨y1, g1⟩ := g 1 (by decide)
  obtain ⟨z0, q0⟩ := hr.of g0
  obtain ⟨z1, q1⟩ := hr.of g1
  exact ⟨(z0, z1), a, b, rfl, V_arr One1.ag q0, V_arr One1.ag q1⟩⟩
theorem c_byte : Try.prog.cellsOf 5 = 1 := by kernel_rfl
end Go.Proofs.Ytfbcjknlihopcaa

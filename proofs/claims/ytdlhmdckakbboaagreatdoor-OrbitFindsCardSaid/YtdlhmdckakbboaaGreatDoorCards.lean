/-
  DERIVED. GIVEN WITH THE SEED: THE CARDS: each row of YtdlhmdckakbboaaGreatDoorRows.lean that lists a variable, with what it lists TIED to the program's text (the seventh form; the later family's looks); each row that meets fmt, with fmt's text TOLD by the authors' own Lean function (tested against real Go, not proved from fmt's source: count such statements apart). THE CARD IS WHAT COUNTS. Prove the row's statement (the work); the ties are given (YtdlhmdckakbboaaGreatDoorTie.lean); close each card by the builder's one call (the guide's Derived/Test/ToyasCard.lean, 'card_holds'). Laid BY PROGRAM, IN A SANDBOX (cutbox-door.mjs). By AI agents, Wed Nov 11 2026. No macro, syntax, notation, axiom, sorry.
-/
import Derived.Test.YtdlhmdckakbboaaGreatDoorRows
import GoSem.ClaimSeven
namespace Go.Proofs.YtdlhmdckakbboaaGreatDoor
namespace Rows

/-- THE TIED CARD OF 'stratagemlaw52.OrbitFinds'. -/
def orbitFindsCard : Claim7 := { stood := { row := orbitFindsRow, standIns := [], harness := (true, "d5c25815a62dae6ca9a212f7db7607e7936f25f23d4b7ca4f65630193e6e0b81"), looks := true }, kinds := [], alts := [], laidByText := true, laidKinds := [.data, .data, .data], laidTests := true, laidLooks := .later }
def OrbitFindsCardSaid : Prop := Claim7.holds Tryz.pinned (.plain (OpenSpec.ofChange orbitFindsSpec)) orbitFindsCard

/-- THE SECOND FORM's CARD OF 'stratagemlaw52.OrbitFinds'. -/
def orbitFindsUptoCard : Claim7 := { stood := { row := orbitFindsUptoRow, standIns := [], harness := (true, "d5c25815a62dae6ca9a212f7db7607e7936f25f23d4b7ca4f65630193e6e0b81"), looks := true }, kinds := [], alts := [], laidByText := true, laidKinds := [.data, .data, .data], laidTests := true, laidLooks := .later }
def OrbitFindsUptoCardSaid : Prop := Claim7.holds Tryz.pinned (.plain (OpenSpec.upto orbitFindsSpec)) orbitFindsUptoCard
end Rows
end Go.Proofs.YtdlhmdckakbboaaGreatDoor

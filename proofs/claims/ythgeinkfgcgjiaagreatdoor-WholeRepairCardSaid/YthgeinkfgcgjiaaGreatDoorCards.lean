/-
  DERIVED. GIVEN WITH THE SEED: THE CARDS: each row of YthgeinkfgcgjiaaGreatDoorRows.lean that lists a variable, with what it lists TIED to the program's text (the seventh form; the later family's looks); each row that meets fmt, with fmt's text TOLD by the authors' own Lean function (tested against real Go, not proved from fmt's source: count such statements apart). THE CARD IS WHAT COUNTS. Prove the row's statement (the work); the ties are given (YthgeinkfgcgjiaaGreatDoorTie.lean); close each card by the builder's one call (the guide's Derived/Test/ToyasCard.lean, 'card_holds'). Laid BY PROGRAM, IN A SANDBOX (cutbox-door.mjs). By AI agents, Wed Nov 11 2026. No macro, syntax, notation, axiom, sorry.
-/
import Derived.Test.YthgeinkfgcgjiaaGreatDoorRows
import GoSem.ClaimSeven
namespace Go.Proofs.YthgeinkfgcgjiaaGreatDoor
namespace Rows

/-- THE TIED CARD OF 'stratagemtop.WholeRepair'. -/
def wholeRepairCard : Claim7 := { stood := { row := wholeRepairRow, standIns := [], harness := (true, "d76095d490c0cf12c793efbfa1d0fc24dcc4d93f2c954a9ddb51d3bed8d1988a"), looks := true }, kinds := [], alts := [], laidByText := true, laidKinds := [.data, .data, .data], laidTests := true, laidLooks := .later }
def WholeRepairCardSaid : Prop := Claim7.holds Tryz.pinned (.plain (OpenSpec.ofChange wholeRepairSpec)) wholeRepairCard

/-- THE SECOND FORM's CARD OF 'stratagemtop.WholeRepair'. -/
def wholeRepairUptoCard : Claim7 := { stood := { row := wholeRepairUptoRow, standIns := [], harness := (true, "d76095d490c0cf12c793efbfa1d0fc24dcc4d93f2c954a9ddb51d3bed8d1988a"), looks := true }, kinds := [], alts := [], laidByText := true, laidKinds := [.data, .data, .data], laidTests := true, laidLooks := .later }
def WholeRepairUptoCardSaid : Prop := Claim7.holds Tryz.pinned (.plain (OpenSpec.upto wholeRepairSpec)) wholeRepairUptoCard
end Rows
end Go.Proofs.YthgeinkfgcgjiaaGreatDoor

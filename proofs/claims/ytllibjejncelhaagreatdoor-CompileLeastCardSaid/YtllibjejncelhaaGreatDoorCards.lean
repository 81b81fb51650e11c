/-
  DERIVED. GIVEN WITH THE SEED: THE CARDS: each row of YtllibjejncelhaaGreatDoorRows.lean that lists a variable, with what it lists TIED to the program's text (the seventh form; the later family's looks); each row that meets fmt, with fmt's text TOLD by the authors' own Lean function (tested against real Go, not proved from fmt's source: count such statements apart). THE CARD IS WHAT COUNTS. Prove the row's statement (the work); the ties are given (YtllibjejncelhaaGreatDoorTie.lean); close each card by the builder's one call (the guide's Derived/Test/ToyasCard.lean, 'card_holds'). Laid BY PROGRAM, IN A SANDBOX (cutbox-door.mjs). By AI agents, Wed Nov 11 2026. No macro, syntax, notation, axiom, sorry.
-/
import Derived.Test.YtllibjejncelhaaGreatDoorRows
import GoSem.ClaimSeven
namespace Go.Proofs.YtllibjejncelhaaGreatDoor
namespace Rows

/-- THE TIED CARD OF 'stratagemlaw56.CompileLeast'. -/
def compileLeastCard : Claim7 := { stood := { row := compileLeastRow, standIns := [], harness := (true, "4dab322006757d6dc0d2e3c1e15fbec76c61a14017c6d8220edf9cd3f6eb2c0e"), looks := true }, kinds := [], alts := [], laidByText := true, laidKinds := [.data, .data, .data], laidTests := true, laidLooks := .later }
def CompileLeastCardSaid : Prop := Claim7.holds Tryz.pinned (.plain (OpenSpec.ofChange compileLeastSpec)) compileLeastCard

/-- THE SECOND FORM's CARD OF 'stratagemlaw56.CompileLeast'. -/
def compileLeastUptoCard : Claim7 := { stood := { row := compileLeastUptoRow, standIns := [], harness := (true, "4dab322006757d6dc0d2e3c1e15fbec76c61a14017c6d8220edf9cd3f6eb2c0e"), looks := true }, kinds := [], alts := [], laidByText := true, laidKinds := [.data, .data, .data], laidTests := true, laidLooks := .later }
def CompileLeastUptoCardSaid : Prop := Claim7.holds Tryz.pinned (.plain (OpenSpec.upto compileLeastSpec)) compileLeastUptoCard
end Rows
end Go.Proofs.YtllibjejncelhaaGreatDoor

/-
  DERIVED. GIVEN WITH THE SEED: THE CARDS: each row of YtdhaelekmjgbmaaGreatDoorRows.lean that lists a variable, with what it lists TIED to the program's text (the seventh form; the later family's looks); each row that meets fmt, with fmt's text TOLD by the authors' own Lean function (tested against real Go, not proved from fmt's source: count such statements apart). THE CARD IS WHAT COUNTS. Prove the row's statement (the work); the ties are given (YtdhaelekmjgbmaaGreatDoorTie.lean); close each card by the builder's one call (the guide's Derived/Test/ToyasCard.lean, 'card_holds'). Laid BY PROGRAM, IN A SANDBOX (cutbox-door.mjs). By AI agents, Wed Nov 11 2026. No macro, syntax, notation, axiom, sorry.
-/
import Derived.Test.YtdhaelekmjgbmaaGreatDoorRows
import GoSem.ClaimSeven
namespace Go.Proofs.YtdhaelekmjgbmaaGreatDoor
namespace Rows

/-- THE TIED CARD OF 'stratagemlaw51.SymmetryLimits'. -/
def symmetryLimitsCard : Claim7 := { stood := { row := symmetryLimitsRow, standIns := [], harness := (true, "03a333c742d1981ef5aacd3994ddfe60e77a6392c9885136920c7b5b57ec2ebe"), looks := true }, kinds := [], alts := [], laidByText := true, laidKinds := [.data, .data, .data], laidTests := true, laidLooks := .later }
def SymmetryLimitsCardSaid : Prop := Claim7.holds Tryz.pinned (.plain (OpenSpec.ofChange symmetryLimitsSpec)) symmetryLimitsCard

/-- THE TIED CARD OF 'stratagemlaw51.SymmetryFinds'. -/
def symmetryFindsCard : Claim7 := { stood := { row := symmetryFindsRow, standIns := [], harness := (true, "03a333c742d1981ef5aacd3994ddfe60e77a6392c9885136920c7b5b57ec2ebe"), looks := true }, kinds := [], alts := [], laidByText := true, laidKinds := [.data, .data, .data], laidTests := true, laidLooks := .later }
def SymmetryFindsCardSaid : Prop := Claim7.holds Tryz.pinned (.plain (OpenSpec.ofChange symmetryFindsSpec)) symmetryFindsCard

/-- THE SECOND FORM's CARD OF 'stratagemlaw51.SymmetryLimits'. -/
def symmetryLimitsUptoCard : Claim7 := { stood := { row := symmetryLimitsUptoRow, standIns := [], harness := (true, "03a333c742d1981ef5aacd3994ddfe60e77a6392c9885136920c7b5b57ec2ebe"), looks := true }, kinds := [], alts := [], laidByText := true, laidKinds := [.data, .data, .data], laidTests := true, laidLooks := .later }
def SymmetryLimitsUptoCardSaid : Prop := Claim7.holds Tryz.pinned (.plain (OpenSpec.upto symmetryLimitsSpec)) symmetryLimitsUptoCard

/-- THE SECOND FORM's CARD OF 'stratagemlaw51.SymmetryFinds'. -/
def symmetryFindsUptoCard : Claim7 := { stood := { row := symmetryFindsUptoRow, standIns := [], harness := (true, "03a333c742d1981ef5aacd3994ddfe60e77a6392c9885136920c7b5b57ec2ebe"), looks := true }, kinds := [], alts := [], laidByText := true, laidKinds := [.data, .data, .data], laidTests := true, laidLooks := .later }
def SymmetryFindsUptoCardSaid : Prop := Claim7.holds Tryz.pinned (.plain (OpenSpec.upto symmetryFindsSpec)) symmetryFindsUptoCard
end Rows
end Go.Proofs.YtdhaelekmjgbmaaGreatDoor

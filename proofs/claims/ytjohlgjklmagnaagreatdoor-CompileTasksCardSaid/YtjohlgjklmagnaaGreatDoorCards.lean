/-
  DERIVED. GIVEN WITH THE SEED: THE CARDS: each row of YtjohlgjklmagnaaGreatDoorRows.lean that lists a variable, with what it lists TIED to the program's text (the seventh form; the later family's looks); each row that meets fmt, with fmt's text TOLD by the authors' own Lean function (tested against real Go, not proved from fmt's source: count such statements apart). THE CARD IS WHAT COUNTS. Prove the row's statement (the work); the ties are given (YtjohlgjklmagnaaGreatDoorTie.lean); close each card by the builder's one call (the guide's Derived/Test/ToyasCard.lean, 'card_holds'). Laid BY PROGRAM, IN A SANDBOX (cutbox-door.mjs). By AI agents, Wed Nov 11 2026. No macro, syntax, notation, axiom, sorry.
-/
import Derived.Test.YtjohlgjklmagnaaGreatDoorRows
import GoSem.ClaimSeven
namespace Go.Proofs.YtjohlgjklmagnaaGreatDoor
namespace Rows

/-- THE TIED CARD OF 'stratagemlaw56.CompileTasks'. -/
def compileTasksCard : Claim7 := { stood := { row := compileTasksRow, standIns := [], harness := (true, "34bf7b83ccd1ea9b6c8ba645e64f1db955c21e4cca4b8b45735daa4898591402"), looks := true }, kinds := [], alts := [], laidByText := true, laidKinds := [.data, .data, .data], laidTests := true, laidLooks := .later }
def CompileTasksCardSaid : Prop := Claim7.holds Tryz.pinned (.plain (OpenSpec.ofChange compileTasksSpec)) compileTasksCard

/-- THE TIED CARD OF 'stratagemlaw56.CompileEmpty'. -/
def compileEmptyCard : Claim7 := { stood := { row := compileEmptyRow, standIns := [], harness := (true, "34bf7b83ccd1ea9b6c8ba645e64f1db955c21e4cca4b8b45735daa4898591402"), looks := true }, kinds := [], alts := [], laidByText := true, laidKinds := [.data, .data, .data], laidTests := true, laidLooks := .later }
def CompileEmptyCardSaid : Prop := Claim7.holds Tryz.pinned (.plain (OpenSpec.ofChange compileEmptySpec)) compileEmptyCard

/-- THE TIED CARD OF 'stratagemlaw56.CompilePlans'. -/
def compilePlansCard : Claim7 := { stood := { row := compilePlansRow, standIns := [], harness := (true, "34bf7b83ccd1ea9b6c8ba645e64f1db955c21e4cca4b8b45735daa4898591402"), looks := true }, kinds := [], alts := [], laidByText := true, laidKinds := [.data, .data, .data], laidTests := true, laidLooks := .later }
def CompilePlansCardSaid : Prop := Claim7.holds Tryz.pinned (.plain (OpenSpec.ofChange compilePlansSpec)) compilePlansCard

/-- THE TIED CARD OF 'stratagemlaw56.CompileLaunches'. -/
def compileLaunchesCard : Claim7 := { stood := { row := compileLaunchesRow, standIns := [], harness := (true, "34bf7b83ccd1ea9b6c8ba645e64f1db955c21e4cca4b8b45735daa4898591402"), looks := true }, kinds := [], alts := [], laidByText := true, laidKinds := [.data, .data, .data], laidTests := true, laidLooks := .later }
def CompileLaunchesCardSaid : Prop := Claim7.holds Tryz.pinned (.plain (OpenSpec.ofChange compileLaunchesSpec)) compileLaunchesCard

/-- THE TIED CARD OF 'stratagemlaw56.CompileOrder'. -/
def compileOrderCard : Claim7 := { stood := { row := compileOrderRow, standIns := [], harness := (true, "34bf7b83ccd1ea9b6c8ba645e64f1db955c21e4cca4b8b45735daa4898591402"), looks := true }, kinds := [], alts := [], laidByText := true, laidKinds := [.data, .data, .data], laidTests := true, laidLooks := .later }
def CompileOrderCardSaid : Prop := Claim7.holds Tryz.pinned (.plain (OpenSpec.ofChange compileOrderSpec)) compileOrderCard

/-- THE TIED CARD OF 'stratagemlaw56.CompileWaits'. -/
def compileWaitsCard : Claim7 := { stood := { row := compileWaitsRow, standIns := [], harness := (true, "34bf7b83ccd1ea9b6c8ba645e64f1db955c21e4cca4b8b45735daa4898591402"), looks := true }, kinds := [], alts := [], laidByText := true, laidKinds := [.data, .data, .data], laidTests := true, laidLooks := .later }
def CompileWaitsCardSaid : Prop := Claim7.holds Tryz.pinned (.plain (OpenSpec.ofChange compileWaitsSpec)) compileWaitsCard

/-- THE TIED CARD OF 'stratagemlaw56.CompileLeast'. -/
def compileLeastCard : Claim7 := { stood := { row := compileLeastRow, standIns := [], harness := (true, "34bf7b83ccd1ea9b6c8ba645e64f1db955c21e4cca4b8b45735daa4898591402"), looks := true }, kinds := [], alts := [], laidByText := true, laidKinds := [.data, .data, .data], laidTests := true, laidLooks := .later }
def CompileLeastCardSaid : Prop := Claim7.holds Tryz.pinned (.plain (OpenSpec.ofChange compileLeastSpec)) compileLeastCard

/-- THE SECOND FORM's CARD OF 'stratagemlaw56.CompileTasks'. -/
def compileTasksUptoCard : Claim7 := { stood := { row := compileTasksUptoRow, standIns := [], harness := (true, "34bf7b83ccd1ea9b6c8ba645e64f1db955c21e4cca4b8b45735daa4898591402"), looks := true }, kinds := [], alts := [], laidByText := true, laidKinds := [.data, .data, .data], laidTests := true, laidLooks := .later }
def CompileTasksUptoCardSaid : Prop := Claim7.holds Tryz.pinned (.plain (OpenSpec.upto compileTasksSpec)) compileTasksUptoCard

/-- THE SECOND FORM's CARD OF 'stratagemlaw56.CompileEmpty'. -/
def compileEmptyUptoCard : Claim7 := { stood := { row := compileEmptyUptoRow, standIns := [], harness := (true, "34bf7b83ccd1ea9b6c8ba645e64f1db955c21e4cca4b8b45735daa4898591402"), looks := true }, kinds := [], alts := [], laidByText := true, laidKinds := [.data, .data, .data], laidTests := true, laidLooks := .later }
def CompileEmptyUptoCardSaid : Prop := Claim7.holds Tryz.pinned (.plain (OpenSpec.upto compileEmptySpec)) compileEmptyUptoCard

/-- THE SECOND FORM's CARD OF 'stratagemlaw56.CompilePlans'. -/
def compilePlansUptoCard : Claim7 := { stood := { row := compilePlansUptoRow, standIns := [], harness := (true, "34bf7b83ccd1ea9b6c8ba645e64f1db955c21e4cca4b8b45735daa4898591402"), looks := true }, kinds := [], alts := [], laidByText := true, laidKinds := [.data, .data, .data], laidTests := true, laidLooks := .later }
def CompilePlansUptoCardSaid : Prop := Claim7.holds Tryz.pinned (.plain (OpenSpec.upto compilePlansSpec)) compilePlansUptoCard

/-- THE SECOND FORM's CARD OF 'stratagemlaw56.CompileLaunches'. -/
def compileLaunchesUptoCard : Claim7 := { stood := { row := compileLaunchesUptoRow, standIns := [], harness := (true, "34bf7b83ccd1ea9b6c8ba645e64f1db955c21e4cca4b8b45735daa4898591402"), looks := true }, kinds := [], alts := [], laidByText := true, laidKinds := [.data, .data, .data], laidTests := true, laidLooks := .later }
def CompileLaunchesUptoCardSaid : Prop := Claim7.holds Tryz.pinned (.plain (OpenSpec.upto compileLaunchesSpec)) compileLaunchesUptoCard

/-- THE SECOND FORM's CARD OF 'stratagemlaw56.CompileOrder'. -/
def compileOrderUptoCard : Claim7 := { stood := { row := compileOrderUptoRow, standIns := [], harness := (true, "34bf7b83ccd1ea9b6c8ba645e64f1db955c21e4cca4b8b45735daa4898591402"), looks := true }, kinds := [], alts := [], laidByText := true, laidKinds := [.data, .data, .data], laidTests := true, laidLooks := .later }
def CompileOrderUptoCardSaid : Prop := Claim7.holds Tryz.pinned (.plain (OpenSpec.upto compileOrderSpec)) compileOrderUptoCard

/-- THE SECOND FORM's CARD OF 'stratagemlaw56.CompileWaits'. -/
def compileWaitsUptoCard : Claim7 := { stood := { row := compileWaitsUptoRow, standIns := [], harness := (true, "34bf7b83ccd1ea9b6c8ba645e64f1db955c21e4cca4b8b45735daa4898591402"), looks := true }, kinds := [], alts := [], laidByText := true, laidKinds := [.data, .data, .data], laidTests := true, laidLooks := .later }
def CompileWaitsUptoCardSaid : Prop := Claim7.holds Tryz.pinned (.plain (OpenSpec.upto compileWaitsSpec)) compileWaitsUptoCard

/-- THE SECOND FORM's CARD OF 'stratagemlaw56.CompileLeast'. -/
def compileLeastUptoCard : Claim7 := { stood := { row := compileLeastUptoRow, standIns := [], harness := (true, "34bf7b83ccd1ea9b6c8ba645e64f1db955c21e4cca4b8b45735daa4898591402"), looks := true }, kinds := [], alts := [], laidByText := true, laidKinds := [.data, .data, .data], laidTests := true, laidLooks := .later }
def CompileLeastUptoCardSaid : Prop := Claim7.holds Tryz.pinned (.plain (OpenSpec.upto compileLeastSpec)) compileLeastUptoCard
end Rows
end Go.Proofs.YtjohlgjklmagnaaGreatDoor

/-
  No cell of these rows narrows 'for every input' (looked for: loops, veiled, ifaces, maps, wideKeys, modest, calm, conditions, laid).
  DERIVED. THE GIVEN ROWS OF THIS SEAT. 7 by the template 'for every input the law returns true; each argument reads behind the call as it read before'; 0 by the template 'total and deterministic' (their statements: YtkbmbcblgdgjlaaGreatTotals.lean).
  GIVEN WITH THE SEED: the statements are not yours to turn. If you find one false, say at which input.
  Laid BY PROGRAM, IN A SANDBOX (cutbox-rows.mjs): the forced cells as the released guide's own fill.sh prints them over the translation 631d92e82acb1394… (all of the seat's roots in one cut). By AI agents, Wed Nov 11 2026. No macro, syntax, notation, axiom, sorry.
-/
import Derived.Test.YtkbmbcblgdgjlaaGreatChecked
import GoSem.Claim
import GoSem.ClaimJoined
import GoSem.ClaimMapViews
import Derived.JoinedTies
import Derived.KernelRfl
namespace Go.Proofs.YtkbmbcblgdgjlaaGreat
/- THE CELL 'sum', in the pinned program and in every row, IS THE sha256 OF THE DUMP (.gsa) THAT YtkbmbcblgdgjlaaGreatProg.lean LOADS. Nothing in Lean hashes anything: it is a label: what it is worth is what the hold of that sum in a sandbox is worth. -/
noncomputable def Tryz.pinned : Pinned := { name := "ytkbmbcblgdgjlaagreat", sum := "631d92e82acb1394c0df336ec3574aca2ec70265c64fe88dc2f0998843e53d94", checked := Tryz.checked }
namespace Rows
def none {H : Type} : Left H := { results := [], args := [] }

/-- 'stratagemlaw25.ExploreCosts': WHATEVER THE INPUT: true; the input reads as it did. -/
def exploreCostsSpec : ChangeSpec := { name := "exploreCosts", fn := fun _ => fun
  | [d] => { results := [.lit (.bool true)], args := [d] }
  | _ => none }
def exploreCostsRow : OpenClaim := { program := "ytkbmbcblgdgjlaagreat", sum := "631d92e82acb1394c0df336ec3574aca2ec70265c64fe88dc2f0998843e53d94", func := "stratagem/stratagemlaw25.ExploreCosts", spec := "exploreCosts", inPlace := ["internal/reflectlite.TypeOf"], unfollowed := true, recurses := true, apart := false }
def ExploreCostsSaid : Prop := exploreCostsRow.holds Tryz.pinned (OpenSpec.ofChange exploreCostsSpec)

/-- ITS FALSE NEIGHBOUR: 'it returns false'. Refute it at one input. -/
def exploreCostsWrong : ChangeSpec := { name := "exploreCosts", fn := fun _ => fun
  | [d] => { results := [.lit (.bool false)], args := [d] }
  | _ => none }
def ExploreCostsWrongFalsely : Prop := exploreCostsRow.holds Tryz.pinned (OpenSpec.ofChange exploreCostsWrong)

/-- 'stratagemlaw25.ExploreStates': WHATEVER THE INPUT: true; the input reads as it did. -/
def exploreStatesSpec : ChangeSpec := { name := "exploreStates", fn := fun _ => fun
  | [d1, d2] => { results := [.lit (.bool true)], args := [d1, d2] }
  | _ => none }
def exploreStatesRow : OpenClaim := { program := "ytkbmbcblgdgjlaagreat", sum := "631d92e82acb1394c0df336ec3574aca2ec70265c64fe88dc2f0998843e53d94", func := "stratagem/stratagemlaw25.ExploreStates", spec := "exploreStates", inPlace := ["internal/reflectlite.TypeOf"], unfollowed := true, recurses := true, apart := false }
def ExploreStatesSaid : Prop := exploreStatesRow.holds Tryz.pinned (OpenSpec.ofChange exploreStatesSpec)

/-- ITS FALSE NEIGHBOUR: 'it returns false'. Refute it at one input. -/
def exploreStatesWrong : ChangeSpec := { name := "exploreStates", fn := fun _ => fun
  | [d1, d2] => { results := [.lit (.bool false)], args := [d1, d2] }
  | _ => none }
def ExploreStatesWrongFalsely : Prop := exploreStatesRow.holds Tryz.pinned (OpenSpec.ofChange exploreStatesWrong)

/-- 'stratagemlaw25.ExplorePlans': WHATEVER THE INPUT: true; the input reads as it did. -/
def explorePlansSpec : ChangeSpec := { name := "explorePlans", fn := fun _ => fun
  | [d] => { results := [.lit (.bool true)], args := [d] }
  | _ => none }
def explorePlansRow : OpenClaim := { program := "ytkbmbcblgdgjlaagreat", sum := "631d92e82acb1394c0df336ec3574aca2ec70265c64fe88dc2f0998843e53d94", func := "stratagem/stratagemlaw25.ExplorePlans", spec := "explorePlans", inPlace := ["internal/reflectlite.TypeOf"], unfollowed := true, recurses := true, apart := false }
def ExplorePlansSaid : Prop := explorePlansRow.holds Tryz.pinned (OpenSpec.ofChange explorePlansSpec)

/-- ITS FALSE NEIGHBOUR: 'it returns false'. Refute it at one input. -/
def explorePlansWrong : ChangeSpec := { name := "explorePlans", fn := fun _ => fun
  | [d] => { results := [.lit (.bool false)], args := [d] }
  | _ => none }
def ExplorePlansWrongFalsely : Prop := explorePlansRow.holds Tryz.pinned (OpenSpec.ofChange explorePlansWrong)

/-- 'stratagemlaw25.ExplorePerfect': WHATEVER THE INPUT: true; the input reads as it did. -/
def explorePerfectSpec : ChangeSpec := { name := "explorePerfect", fn := fun _ => fun
  | [d] => { results := [.lit (.bool true)], args := [d] }
  | _ => none }
def explorePerfectRow : OpenClaim := { program := "ytkbmbcblgdgjlaagreat", sum := "631d92e82acb1394c0df336ec3574aca2ec70265c64fe88dc2f0998843e53d94", func := "stratagem/stratagemlaw25.ExplorePerfect", spec := "explorePerfect", inPlace := ["internal/reflectlite.TypeOf"], unfollowed := true, recurses := true, apart := false }
def ExplorePerfectSaid : Prop := explorePerfectRow.holds Tryz.pinned (OpenSpec.ofChange explorePerfectSpec)

/-- ITS FALSE NEIGHBOUR: 'it returns false'. Refute it at one input. -/
def explorePerfectWrong : ChangeSpec := { name := "explorePerfect", fn := fun _ => fun
  | [d] => { results := [.lit (.bool false)], args := [d] }
  | _ => none }
def ExplorePerfectWrongFalsely : Prop := explorePerfectRow.holds Tryz.pinned (OpenSpec.ofChange explorePerfectWrong)

/-- 'stratagemlaw25.ExploreSolves': WHATEVER THE INPUT: true; the input reads as it did. -/
def exploreSolvesSpec : ChangeSpec := { name := "exploreSolves", fn := fun _ => fun
  | [d] => { results := [.lit (.bool true)], args := [d] }
  | _ => none }
def exploreSolvesRow : OpenClaim := { program := "ytkbmbcblgdgjlaagreat", sum := "631d92e82acb1394c0df336ec3574aca2ec70265c64fe88dc2f0998843e53d94", func := "stratagem/stratagemlaw25.ExploreSolves", spec := "exploreSolves", inPlace := ["internal/reflectlite.TypeOf"], unfollowed := true, recurses := true, apart := false }
def ExploreSolvesSaid : Prop := exploreSolvesRow.holds Tryz.pinned (OpenSpec.ofChange exploreSolvesSpec)

/-- ITS FALSE NEIGHBOUR: 'it returns false'. Refute it at one input. -/
def exploreSolvesWrong : ChangeSpec := { name := "exploreSolves", fn := fun _ => fun
  | [d] => { results := [.lit (.bool false)], args := [d] }
  | _ => none }
def ExploreSolvesWrongFalsely : Prop := exploreSolvesRow.holds Tryz.pinned (OpenSpec.ofChange exploreSolvesWrong)

/-- 'stratagemlaw25.ExploreEdges': WHATEVER THE INPUT: true; the input reads as it did. -/
def exploreEdgesSpec : ChangeSpec := { name := "exploreEdges", fn := fun _ => fun
  | [d] => { results := [.lit (.bool true)], args := [d] }
  | _ => none }
def exploreEdgesRow : OpenClaim := { program := "ytkbmbcblgdgjlaagreat", sum := "631d92e82acb1394c0df336ec3574aca2ec70265c64fe88dc2f0998843e53d94", func := "stratagem/stratagemlaw25.ExploreEdges", spec := "exploreEdges", inPlace := ["internal/reflectlite.TypeOf"], unfollowed := true, recurses := true, apart := false }
def ExploreEdgesSaid : Prop := exploreEdgesRow.holds Tryz.pinned (OpenSpec.ofChange exploreEdgesSpec)

/-- ITS FALSE NEIGHBOUR: 'it returns false'. Refute it at one input. -/
def exploreEdgesWrong : ChangeSpec := { name := "exploreEdges", fn := fun _ => fun
  | [d] => { results := [.lit (.bool false)], args := [d] }
  | _ => none }
def ExploreEdgesWrongFalsely : Prop := exploreEdgesRow.holds Tryz.pinned (OpenSpec.ofChange exploreEdgesWrong)

/-- 'stratagemlaw25.ExploreErrors': WHATEVER THE INPUT: true; the input reads as it did. -/
def exploreErrorsSpec : ChangeSpec := { name := "exploreErrors", fn := fun _ => fun
  | [d1, d2] => { results := [.lit (.bool true)], args := [d1, d2] }
  | _ => none }
def exploreErrorsRow : OpenClaim := { program := "ytkbmbcblgdgjlaagreat", sum := "631d92e82acb1394c0df336ec3574aca2ec70265c64fe88dc2f0998843e53d94", func := "stratagem/stratagemlaw25.ExploreErrors", spec := "exploreErrors", inPlace := ["internal/reflectlite.TypeOf"], unfollowed := true, recurses := true, apart := false }
def ExploreErrorsSaid : Prop := exploreErrorsRow.holds Tryz.pinned (OpenSpec.ofChange exploreErrorsSpec)

/-- ITS FALSE NEIGHBOUR: 'it returns false'. Refute it at one input. -/
def exploreErrorsWrong : ChangeSpec := { name := "exploreErrors", fn := fun _ => fun
  | [d1, d2] => { results := [.lit (.bool false)], args := [d1, d2] }
  | _ => none }
def ExploreErrorsWrongFalsely : Prop := exploreErrorsRow.holds Tryz.pinned (OpenSpec.ofChange exploreErrorsWrong)

/- THE SECOND FORM. 'bulk': how many values and letters a reading holds, each counted each time it is reached (what is shared counts as often as it is met; a slice's spare places count too). A statement '..UptoSaid' is the law's where the arguments, and the package variables that the reading takes, are together of bulk at most 1048576: NARROWER than '..Said'. Prove '..Said' where nothing that the law and all that it calls make is longer than what came in: it says more and counts as full. Else prove '..UptoSaid'. A law counts once. -/
mutual
def uptoBulk {H : Type} : DataW H → Nat
  | .lit (.string bytes) => bytes.length + 1
  | .lit _ => 1
  | .nil => 1
  | .ptr d => uptoBulk d + 1
  | .slice elems spare => uptoBulkAll elems + uptoBulkAll spare + 1
  | .agg parts => uptoBulkAll parts + 1
  | .iface _ d => uptoBulk d + 1
  | .map entries => uptoBulkEntries entries + 1
  | .held _ => 1
def uptoBulkAll {H : Type} : List (DataW H) → Nat
  | [] => 0
  | d :: r => uptoBulk d + uptoBulkAll r
def uptoBulkEntries {H : Type} : List (Lit × DataW H) → Nat
  | [] => 0
  | x :: r => uptoBulkEntry x + uptoBulkEntries r
def uptoBulkEntry {H : Type} : Lit × DataW H → Nat
  | (.string bytes, d) => bytes.length + uptoBulk d + 1
  | (_, d) => uptoBulk d + 1
 end
def uptoSmall : (H : Type) → List (DataW H) → Bool := fun _ ds => decide (uptoBulkAll ds ≤ 1048576)
def OpenSpec.upto (s : _root_.Go.ChangeSpec) : _root_.Go.OpenSpec := { _root_.Go.OpenSpec.ofChange s with cond := some uptoSmall }

/-- 'stratagemlaw25.ExploreCosts', WHERE WHAT IT READS IS OF BULK AT MOST 1048576: true; the input reads as it did. -/
def exploreCostsUptoRow : OpenClaim := { program := "ytkbmbcblgdgjlaagreat", sum := "631d92e82acb1394c0df336ec3574aca2ec70265c64fe88dc2f0998843e53d94", func := "stratagem/stratagemlaw25.ExploreCosts", spec := "exploreCosts", inPlace := ["internal/reflectlite.TypeOf"], unfollowed := true, recurses := true, apart := false, narrowed := true }
def ExploreCostsUptoSaid : Prop := exploreCostsUptoRow.holds Tryz.pinned (OpenSpec.upto exploreCostsSpec)

/-- 'stratagemlaw25.ExploreStates', WHERE WHAT IT READS IS OF BULK AT MOST 1048576: true; the input reads as it did. -/
def exploreStatesUptoRow : OpenClaim := { program := "ytkbmbcblgdgjlaagreat", sum := "631d92e82acb1394c0df336ec3574aca2ec70265c64fe88dc2f0998843e53d94", func := "stratagem/stratagemlaw25.ExploreStates", spec := "exploreStates", inPlace := ["internal/reflectlite.TypeOf"], unfollowed := true, recurses := true, apart := false, narrowed := true }
def ExploreStatesUptoSaid : Prop := exploreStatesUptoRow.holds Tryz.pinned (OpenSpec.upto exploreStatesSpec)

/-- 'stratagemlaw25.ExplorePlans', WHERE WHAT IT READS IS OF BULK AT MOST 1048576: true; the input reads as it did. -/
def explorePlansUptoRow : OpenClaim := { program := "ytkbmbcblgdgjlaagreat", sum := "631d92e82acb1394c0df336ec3574aca2ec70265c64fe88dc2f0998843e53d94", func := "stratagem/stratagemlaw25.ExplorePlans", spec := "explorePlans", inPlace := ["internal/reflectlite.TypeOf"], unfollowed := true, recurses := true, apart := false, narrowed := true }
def ExplorePlansUptoSaid : Prop := explorePlansUptoRow.holds Tryz.pinned (OpenSpec.upto explorePlansSpec)

/-- 'stratagemlaw25.ExplorePerfect', WHERE WHAT IT READS IS OF BULK AT MOST 1048576: true; the input reads as it did. -/
def explorePerfectUptoRow : OpenClaim := { program := "ytkbmbcblgdgjlaagreat", sum := "631d92e82acb1394c0df336ec3574aca2ec70265c64fe88dc2f0998843e53d94", func := "stratagem/stratagemlaw25.ExplorePerfect", spec := "explorePerfect", inPlace := ["internal/reflectlite.TypeOf"], unfollowed := true, recurses := true, apart := false, narrowed := true }
def ExplorePerfectUptoSaid : Prop := explorePerfectUptoRow.holds Tryz.pinned (OpenSpec.upto explorePerfectSpec)

/-- 'stratagemlaw25.ExploreSolves', WHERE WHAT IT READS IS OF BULK AT MOST 1048576: true; the input reads as it did. -/
def exploreSolvesUptoRow : OpenClaim := { program := "ytkbmbcblgdgjlaagreat", sum := "631d92e82acb1394c0df336ec3574aca2ec70265c64fe88dc2f0998843e53d94", func := "stratagem/stratagemlaw25.ExploreSolves", spec := "exploreSolves", inPlace := ["internal/reflectlite.TypeOf"], unfollowed := true, recurses := true, apart := false, narrowed := true }
def ExploreSolvesUptoSaid : Prop := exploreSolvesUptoRow.holds Tryz.pinned (OpenSpec.upto exploreSolvesSpec)

/-- 'stratagemlaw25.ExploreEdges', WHERE WHAT IT READS IS OF BULK AT MOST 1048576: true; the input reads as it did. -/
def exploreEdgesUptoRow : OpenClaim := { program := "ytkbmbcblgdgjlaagreat", sum := "631d92e82acb1394c0df336ec3574aca2ec70265c64fe88dc2f0998843e53d94", func := "stratagem/stratagemlaw25.ExploreEdges", spec := "exploreEdges", inPlace := ["internal/reflectlite.TypeOf"], unfollowed := true, recurses := true, apart := false, narrowed := true }
def ExploreEdgesUptoSaid : Prop := exploreEdgesUptoRow.holds Tryz.pinned (OpenSpec.upto exploreEdgesSpec)

/-- 'stratagemlaw25.ExploreErrors', WHERE WHAT IT READS IS OF BULK AT MOST 1048576: true; the input reads as it did. -/
def exploreErrorsUptoRow : OpenClaim := { program := "ytkbmbcblgdgjlaagreat", sum := "631d92e82acb1394c0df336ec3574aca2ec70265c64fe88dc2f0998843e53d94", func := "stratagem/stratagemlaw25.ExploreErrors", spec := "exploreErrors", inPlace := ["internal/reflectlite.TypeOf"], unfollowed := true, recurses := true, apart := false, narrowed := true }
def ExploreErrorsUptoSaid : Prop := exploreErrorsUptoRow.holds Tryz.pinned (OpenSpec.upto exploreErrorsSpec)

end Rows
end Go.Proofs.YtkbmbcblgdgjlaaGreat

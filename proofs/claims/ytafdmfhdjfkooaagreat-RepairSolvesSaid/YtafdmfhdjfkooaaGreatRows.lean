/-
  No cell of these rows narrows 'for every input' (looked for: loops, veiled, ifaces, maps, wideKeys, modest, calm, conditions, laid).
  DERIVED. THE GIVEN ROWS OF THIS SEAT. 5 by the template 'for every input the law returns true; each argument reads behind the call as it read before'; 0 by the template 'total and deterministic' (their statements: YtafdmfhdjfkooaaGreatTotals.lean).
  GIVEN WITH THE SEED: the statements are not yours to turn. If you find one false, say at which input.
  Laid BY PROGRAM, IN A SANDBOX (cutbox-rows.mjs): the forced cells as the released guide's own fill.sh prints them over the translation b06f2b232bb4fa9e… (all of the seat's roots in one cut). By AI agents, Wed Nov 11 2026. No macro, syntax, notation, axiom, sorry.
-/
import Derived.Test.YtafdmfhdjfkooaaGreatChecked
import GoSem.Claim
import GoSem.ClaimJoined
import GoSem.ClaimMapViews
import Derived.JoinedTies
import Derived.KernelRfl
namespace Go.Proofs.YtafdmfhdjfkooaaGreat
/- THE CELL 'sum', in the pinned program and in every row, IS THE sha256 OF THE DUMP (.gsa) THAT YtafdmfhdjfkooaaGreatProg.lean LOADS. Nothing in Lean hashes anything: it is a label: what it is worth is what the hold of that sum in a sandbox is worth. -/
noncomputable def Tryz.pinned : Pinned := { name := "ytafdmfhdjfkooaagreat", sum := "b06f2b232bb4fa9eb599ee911ecd75e2522d7052694545334e66827b4765da14", checked := Tryz.checked }
namespace Rows
def none {H : Type} : Left H := { results := [], args := [] }

/-- 'stratagemlaw60.RepairSolves': WHATEVER THE INPUT: true; the input reads as it did. -/
def repairSolvesSpec : ChangeSpec := { name := "repairSolves", fn := fun _ => fun
  | [d1, d2, d3] => { results := [.lit (.bool true)], args := [d1, d2, d3] }
  | _ => none }
def repairSolvesRow : OpenClaim := { program := "ytafdmfhdjfkooaagreat", sum := "b06f2b232bb4fa9eb599ee911ecd75e2522d7052694545334e66827b4765da14", func := "stratagem/stratagemlaw60.RepairSolves", spec := "repairSolves", unfollowed := true, recurses := true, apart := false }
def RepairSolvesSaid : Prop := repairSolvesRow.holds Tryz.pinned (OpenSpec.ofChange repairSolvesSpec)

/-- ITS FALSE NEIGHBOUR: 'it returns false'. Refute it at one input. -/
def repairSolvesWrong : ChangeSpec := { name := "repairSolves", fn := fun _ => fun
  | [d1, d2, d3] => { results := [.lit (.bool false)], args := [d1, d2, d3] }
  | _ => none }
def RepairSolvesWrongFalsely : Prop := repairSolvesRow.holds Tryz.pinned (OpenSpec.ofChange repairSolvesWrong)

/-- 'stratagemlaw60.RepairFree': WHATEVER THE INPUT: true; the input reads as it did. -/
def repairFreeSpec : ChangeSpec := { name := "repairFree", fn := fun _ => fun
  | [d1, d2, d3] => { results := [.lit (.bool true)], args := [d1, d2, d3] }
  | _ => none }
def repairFreeRow : OpenClaim := { program := "ytafdmfhdjfkooaagreat", sum := "b06f2b232bb4fa9eb599ee911ecd75e2522d7052694545334e66827b4765da14", func := "stratagem/stratagemlaw60.RepairFree", spec := "repairFree", unfollowed := true, recurses := true, apart := false }
def RepairFreeSaid : Prop := repairFreeRow.holds Tryz.pinned (OpenSpec.ofChange repairFreeSpec)

/-- ITS FALSE NEIGHBOUR: 'it returns false'. Refute it at one input. -/
def repairFreeWrong : ChangeSpec := { name := "repairFree", fn := fun _ => fun
  | [d1, d2, d3] => { results := [.lit (.bool false)], args := [d1, d2, d3] }
  | _ => none }
def RepairFreeWrongFalsely : Prop := repairFreeRow.holds Tryz.pinned (OpenSpec.ofChange repairFreeWrong)

/-- 'stratagemlaw60.RepairKeeps': WHATEVER THE INPUT: true; the input reads as it did. -/
def repairKeepsSpec : ChangeSpec := { name := "repairKeeps", fn := fun _ => fun
  | [d1, d2, d3] => { results := [.lit (.bool true)], args := [d1, d2, d3] }
  | _ => none }
def repairKeepsRow : OpenClaim := { program := "ytafdmfhdjfkooaagreat", sum := "b06f2b232bb4fa9eb599ee911ecd75e2522d7052694545334e66827b4765da14", func := "stratagem/stratagemlaw60.RepairKeeps", spec := "repairKeeps", unfollowed := true, recurses := true, apart := false }
def RepairKeepsSaid : Prop := repairKeepsRow.holds Tryz.pinned (OpenSpec.ofChange repairKeepsSpec)

/-- ITS FALSE NEIGHBOUR: 'it returns false'. Refute it at one input. -/
def repairKeepsWrong : ChangeSpec := { name := "repairKeeps", fn := fun _ => fun
  | [d1, d2, d3] => { results := [.lit (.bool false)], args := [d1, d2, d3] }
  | _ => none }
def RepairKeepsWrongFalsely : Prop := repairKeepsRow.holds Tryz.pinned (OpenSpec.ofChange repairKeepsWrong)

/-- 'stratagemlaw60.RepairCompiles': WHATEVER THE INPUT: true; the input reads as it did. -/
def repairCompilesSpec : ChangeSpec := { name := "repairCompiles", fn := fun _ => fun
  | [d1, d2, d3] => { results := [.lit (.bool true)], args := [d1, d2, d3] }
  | _ => none }
def repairCompilesRow : OpenClaim := { program := "ytafdmfhdjfkooaagreat", sum := "b06f2b232bb4fa9eb599ee911ecd75e2522d7052694545334e66827b4765da14", func := "stratagem/stratagemlaw60.RepairCompiles", spec := "repairCompiles", unfollowed := true, recurses := true, apart := false }
def RepairCompilesSaid : Prop := repairCompilesRow.holds Tryz.pinned (OpenSpec.ofChange repairCompilesSpec)

/-- ITS FALSE NEIGHBOUR: 'it returns false'. Refute it at one input. -/
def repairCompilesWrong : ChangeSpec := { name := "repairCompiles", fn := fun _ => fun
  | [d1, d2, d3] => { results := [.lit (.bool false)], args := [d1, d2, d3] }
  | _ => none }
def RepairCompilesWrongFalsely : Prop := repairCompilesRow.holds Tryz.pinned (OpenSpec.ofChange repairCompilesWrong)

/-- 'stratagemlaw60.RepairReplays': WHATEVER THE INPUT: true; the input reads as it did. -/
def repairReplaysSpec : ChangeSpec := { name := "repairReplays", fn := fun _ => fun
  | [d1, d2] => { results := [.lit (.bool true)], args := [d1, d2] }
  | _ => none }
def repairReplaysRow : OpenClaim := { program := "ytafdmfhdjfkooaagreat", sum := "b06f2b232bb4fa9eb599ee911ecd75e2522d7052694545334e66827b4765da14", func := "stratagem/stratagemlaw60.RepairReplays", spec := "repairReplays", unfollowed := true, recurses := true, apart := false }
def RepairReplaysSaid : Prop := repairReplaysRow.holds Tryz.pinned (OpenSpec.ofChange repairReplaysSpec)

/-- ITS FALSE NEIGHBOUR: 'it returns false'. Refute it at one input. -/
def repairReplaysWrong : ChangeSpec := { name := "repairReplays", fn := fun _ => fun
  | [d1, d2] => { results := [.lit (.bool false)], args := [d1, d2] }
  | _ => none }
def RepairReplaysWrongFalsely : Prop := repairReplaysRow.holds Tryz.pinned (OpenSpec.ofChange repairReplaysWrong)

/- THE SECOND FORM. 'bulk': how many values and letters a reading holds, each counted each time it is reached (what is shared counts as often as it is met; a slice's spare places count too). A statement '..UptoSaid' is the law's where the arguments, and the package variables that the reading takes, are together of bulk at most 1048576: NARROWER than '..Said'. Prove '..Said' where nothing that the law and all that it calls make is longer than what came in: it says more and counts as full. Else prove '..UptoSaid'. A law counts once. -/
mutual
def uptoBulk {H : Type} : DataW H → Nat
  | .lit (.string bytes) => bytes.length + 1
  | .lit _ => 1
  | .nil => 1
  | .ptr d => uptoBulk d + 1
  | .slice elems spare => uptoBulkAll elems + uptoBulkAll spare + 1
  | .agg parts => uptoBulkAll parts + 1
  | .iface _ d => uptoBulk d + 1
  | .map entries => uptoBulkEntries entries + 1
  | .held _ => 1
def uptoBulkAll {H : Type} : List (DataW H) → Nat
  | [] => 0
  | d :: r => uptoBulk d + uptoBulkAll r
def uptoBulkEntries {H : Type} : List (Lit × DataW H) → Nat
  | [] => 0
  | x :: r => uptoBulkEntry x + uptoBulkEntries r
def uptoBulkEntry {H : Type} : Lit × DataW H → Nat
  | (.string bytes, d) => bytes.length + uptoBulk d + 1
  | (_, d) => uptoBulk d + 1
 end
def uptoSmall : (H : Type) → List (DataW H) → Bool := fun _ ds => decide (uptoBulkAll ds ≤ 1048576)
def OpenSpec.upto (s : _root_.Go.ChangeSpec) : _root_.Go.OpenSpec := { _root_.Go.OpenSpec.ofChange s with cond := some uptoSmall }

/-- 'stratagemlaw60.RepairSolves', WHERE WHAT IT READS IS OF BULK AT MOST 1048576: true; the input reads as it did. -/
def repairSolvesUptoRow : OpenClaim := { program := "ytafdmfhdjfkooaagreat", sum := "b06f2b232bb4fa9eb599ee911ecd75e2522d7052694545334e66827b4765da14", func := "stratagem/stratagemlaw60.RepairSolves", spec := "repairSolves", unfollowed := true, recurses := true, apart := false, narrowed := true }
def RepairSolvesUptoSaid : Prop := repairSolvesUptoRow.holds Tryz.pinned (OpenSpec.upto repairSolvesSpec)

/-- 'stratagemlaw60.RepairFree', WHERE WHAT IT READS IS OF BULK AT MOST 1048576: true; the input reads as it did. -/
def repairFreeUptoRow : OpenClaim := { program := "ytafdmfhdjfkooaagreat", sum := "b06f2b232bb4fa9eb599ee911ecd75e2522d7052694545334e66827b4765da14", func := "stratagem/stratagemlaw60.RepairFree", spec := "repairFree", unfollowed := true, recurses := true, apart := false, narrowed := true }
def RepairFreeUptoSaid : Prop := repairFreeUptoRow.holds Tryz.pinned (OpenSpec.upto repairFreeSpec)

/-- 'stratagemlaw60.RepairKeeps', WHERE WHAT IT READS IS OF BULK AT MOST 1048576: true; the input reads as it did. -/
def repairKeepsUptoRow : OpenClaim := { program := "ytafdmfhdjfkooaagreat", sum := "b06f2b232bb4fa9eb599ee911ecd75e2522d7052694545334e66827b4765da14", func := "stratagem/stratagemlaw60.RepairKeeps", spec := "repairKeeps", unfollowed := true, recurses := true, apart := false, narrowed := true }
def RepairKeepsUptoSaid : Prop := repairKeepsUptoRow.holds Tryz.pinned (OpenSpec.upto repairKeepsSpec)

/-- 'stratagemlaw60.RepairCompiles', WHERE WHAT IT READS IS OF BULK AT MOST 1048576: true; the input reads as it did. -/
def repairCompilesUptoRow : OpenClaim := { program := "ytafdmfhdjfkooaagreat", sum := "b06f2b232bb4fa9eb599ee911ecd75e2522d7052694545334e66827b4765da14", func := "stratagem/stratagemlaw60.RepairCompiles", spec := "repairCompiles", unfollowed := true, recurses := true, apart := false, narrowed := true }
def RepairCompilesUptoSaid : Prop := repairCompilesUptoRow.holds Tryz.pinned (OpenSpec.upto repairCompilesSpec)

/-- 'stratagemlaw60.RepairReplays', WHERE WHAT IT READS IS OF BULK AT MOST 1048576: true; the input reads as it did. -/
def repairReplaysUptoRow : OpenClaim := { program := "ytafdmfhdjfkooaagreat", sum := "b06f2b232bb4fa9eb599ee911ecd75e2522d7052694545334e66827b4765da14", func := "stratagem/stratagemlaw60.RepairReplays", spec := "repairReplays", unfollowed := true, recurses := true, apart := false, narrowed := true }
def RepairReplaysUptoSaid : Prop := repairReplaysUptoRow.holds Tryz.pinned (OpenSpec.upto repairReplaysSpec)

end Rows
end Go.Proofs.YtafdmfhdjfkooaaGreat

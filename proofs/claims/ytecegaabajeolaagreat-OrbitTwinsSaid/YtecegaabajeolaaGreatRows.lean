/-
  No cell of these rows narrows 'for every input' (looked for: loops, veiled, ifaces, maps, wideKeys, modest, calm, conditions, laid).
  DERIVED. THE GIVEN ROWS OF THIS SEAT. 6 by the template 'for every input the law returns true; each argument reads behind the call as it read before'; 0 by the template 'total and deterministic' (their statements: YtecegaabajeolaaGreatTotals.lean).
  GIVEN WITH THE SEED: the statements are not yours to turn. If you find one false, say at which input.
  Laid BY PROGRAM, IN A SANDBOX (cutbox-rows.mjs): the forced cells as the released guide's own fill.sh prints them over the translation ae1a6e0045435477… (all of the seat's roots in one cut). By AI agents, Wed Nov 11 2026. No macro, syntax, notation, axiom, sorry.
-/
import Derived.Test.YtecegaabajeolaaGreatChecked
import GoSem.Claim
import GoSem.ClaimJoined
import GoSem.ClaimMapViews
import Derived.JoinedTies
import Derived.KernelRfl
namespace Go.Proofs.YtecegaabajeolaaGreat
/- THE CELL 'sum', in the pinned program and in every row, IS THE sha256 OF THE DUMP (.gsa) THAT YtecegaabajeolaaGreatProg.lean LOADS. Nothing in Lean hashes anything: it is a label: what it is worth is what the hold of that sum in a sandbox is worth. -/
noncomputable def Tryz.pinned : Pinned := { name := "ytecegaabajeolaagreat", sum := "ae1a6e00454354777750798780a9e6a4c2c3fdbed1ef49127169a9636ae28508", checked := Tryz.checked }
namespace Rows
def none {H : Type} : Left H := { results := [], args := [] }

/-- 'stratagemlaw52.OrbitSolves': WHATEVER THE INPUT: true; the input reads as it did. -/
def orbitSolvesSpec : ChangeSpec := { name := "orbitSolves", fn := fun _ => fun
  | [d1, d2] => { results := [.lit (.bool true)], args := [d1, d2] }
  | _ => none }
def orbitSolvesRow : OpenClaim := { program := "ytecegaabajeolaagreat", sum := "ae1a6e00454354777750798780a9e6a4c2c3fdbed1ef49127169a9636ae28508", func := "stratagem/stratagemlaw52.OrbitSolves", spec := "orbitSolves", unfollowed := true, recurses := true, apart := false }
def OrbitSolvesSaid : Prop := orbitSolvesRow.holds Tryz.pinned (OpenSpec.ofChange orbitSolvesSpec)

/-- ITS FALSE NEIGHBOUR: 'it returns false'. Refute it at one input. -/
def orbitSolvesWrong : ChangeSpec := { name := "orbitSolves", fn := fun _ => fun
  | [d1, d2] => { results := [.lit (.bool false)], args := [d1, d2] }
  | _ => none }
def OrbitSolvesWrongFalsely : Prop := orbitSolvesRow.holds Tryz.pinned (OpenSpec.ofChange orbitSolvesWrong)

/-- 'stratagemlaw52.OrbitExpands': WHATEVER THE INPUT: true; the input reads as it did. -/
def orbitExpandsSpec : ChangeSpec := { name := "orbitExpands", fn := fun _ => fun
  | [d1, d2] => { results := [.lit (.bool true)], args := [d1, d2] }
  | _ => none }
def orbitExpandsRow : OpenClaim := { program := "ytecegaabajeolaagreat", sum := "ae1a6e00454354777750798780a9e6a4c2c3fdbed1ef49127169a9636ae28508", func := "stratagem/stratagemlaw52.OrbitExpands", spec := "orbitExpands", unfollowed := true, recurses := true, apart := false }
def OrbitExpandsSaid : Prop := orbitExpandsRow.holds Tryz.pinned (OpenSpec.ofChange orbitExpandsSpec)

/-- ITS FALSE NEIGHBOUR: 'it returns false'. Refute it at one input. -/
def orbitExpandsWrong : ChangeSpec := { name := "orbitExpands", fn := fun _ => fun
  | [d1, d2] => { results := [.lit (.bool false)], args := [d1, d2] }
  | _ => none }
def OrbitExpandsWrongFalsely : Prop := orbitExpandsRow.holds Tryz.pinned (OpenSpec.ofChange orbitExpandsWrong)

/-- 'stratagemlaw52.OrbitLimits': WHATEVER THE INPUT: true; the input reads as it did. -/
def orbitLimitsSpec : ChangeSpec := { name := "orbitLimits", fn := fun _ => fun
  | [d1, d2, d3] => { results := [.lit (.bool true)], args := [d1, d2, d3] }
  | _ => none }
def orbitLimitsRow : OpenClaim := { program := "ytecegaabajeolaagreat", sum := "ae1a6e00454354777750798780a9e6a4c2c3fdbed1ef49127169a9636ae28508", func := "stratagem/stratagemlaw52.OrbitLimits", spec := "orbitLimits", unfollowed := true, recurses := true, apart := false }
def OrbitLimitsSaid : Prop := orbitLimitsRow.holds Tryz.pinned (OpenSpec.ofChange orbitLimitsSpec)

/-- ITS FALSE NEIGHBOUR: 'it returns false'. Refute it at one input. -/
def orbitLimitsWrong : ChangeSpec := { name := "orbitLimits", fn := fun _ => fun
  | [d1, d2, d3] => { results := [.lit (.bool false)], args := [d1, d2, d3] }
  | _ => none }
def OrbitLimitsWrongFalsely : Prop := orbitLimitsRow.holds Tryz.pinned (OpenSpec.ofChange orbitLimitsWrong)

/-- 'stratagemlaw52.OrbitTwins': WHATEVER THE INPUT: true; the input reads as it did. -/
def orbitTwinsSpec : ChangeSpec := { name := "orbitTwins", fn := fun _ => fun
  | [d1, d2] => { results := [.lit (.bool true)], args := [d1, d2] }
  | _ => none }
def orbitTwinsRow : OpenClaim := { program := "ytecegaabajeolaagreat", sum := "ae1a6e00454354777750798780a9e6a4c2c3fdbed1ef49127169a9636ae28508", func := "stratagem/stratagemlaw52.OrbitTwins", spec := "orbitTwins", unfollowed := true, recurses := true, apart := false }
def OrbitTwinsSaid : Prop := orbitTwinsRow.holds Tryz.pinned (OpenSpec.ofChange orbitTwinsSpec)

/-- ITS FALSE NEIGHBOUR: 'it returns false'. Refute it at one input. -/
def orbitTwinsWrong : ChangeSpec := { name := "orbitTwins", fn := fun _ => fun
  | [d1, d2] => { results := [.lit (.bool false)], args := [d1, d2] }
  | _ => none }
def OrbitTwinsWrongFalsely : Prop := orbitTwinsRow.holds Tryz.pinned (OpenSpec.ofChange orbitTwinsWrong)

/-- 'stratagemlaw52.OrbitSame': WHATEVER THE INPUT: true; the input reads as it did. -/
def orbitSameSpec : ChangeSpec := { name := "orbitSame", fn := fun _ => fun
  | [d1, d2, d3] => { results := [.lit (.bool true)], args := [d1, d2, d3] }
  | _ => none }
def orbitSameRow : OpenClaim := { program := "ytecegaabajeolaagreat", sum := "ae1a6e00454354777750798780a9e6a4c2c3fdbed1ef49127169a9636ae28508", func := "stratagem/stratagemlaw52.OrbitSame", spec := "orbitSame", unfollowed := true, recurses := true, apart := false }
def OrbitSameSaid : Prop := orbitSameRow.holds Tryz.pinned (OpenSpec.ofChange orbitSameSpec)

/-- ITS FALSE NEIGHBOUR: 'it returns false'. Refute it at one input. -/
def orbitSameWrong : ChangeSpec := { name := "orbitSame", fn := fun _ => fun
  | [d1, d2, d3] => { results := [.lit (.bool false)], args := [d1, d2, d3] }
  | _ => none }
def OrbitSameWrongFalsely : Prop := orbitSameRow.holds Tryz.pinned (OpenSpec.ofChange orbitSameWrong)

/-- 'stratagemlaw52.OrbitErrors': WHATEVER THE INPUT: true; the input reads as it did. -/
def orbitErrorsSpec : ChangeSpec := { name := "orbitErrors", fn := fun _ => fun
  | [d1, d2] => { results := [.lit (.bool true)], args := [d1, d2] }
  | _ => none }
def orbitErrorsRow : OpenClaim := { program := "ytecegaabajeolaagreat", sum := "ae1a6e00454354777750798780a9e6a4c2c3fdbed1ef49127169a9636ae28508", func := "stratagem/stratagemlaw52.OrbitErrors", spec := "orbitErrors", unfollowed := true, recurses := true, apart := false }
def OrbitErrorsSaid : Prop := orbitErrorsRow.holds Tryz.pinned (OpenSpec.ofChange orbitErrorsSpec)

/-- ITS FALSE NEIGHBOUR: 'it returns false'. Refute it at one input. -/
def orbitErrorsWrong : ChangeSpec := { name := "orbitErrors", fn := fun _ => fun
  | [d1, d2] => { results := [.lit (.bool false)], args := [d1, d2] }
  | _ => none }
def OrbitErrorsWrongFalsely : Prop := orbitErrorsRow.holds Tryz.pinned (OpenSpec.ofChange orbitErrorsWrong)

/- THE SECOND FORM. 'bulk': how many values and letters a reading holds, each counted each time it is reached (what is shared counts as often as it is met; a slice's spare places count too). A statement '..UptoSaid' is the law's where the arguments, and the package variables that the reading takes, are together of bulk at most 1048576: NARROWER than '..Said'. Prove '..Said' where nothing that the law and all that it calls make is longer than what came in: it says more and counts as full. Else prove '..UptoSaid'. A law counts once. -/
mutual
def uptoBulk {H : Type} : DataW H → Nat
  | .lit (.string bytes) => bytes.length + 1
  | .lit _ => 1
  | .nil => 1
  | .ptr d => uptoBulk d + 1
  | .slice elems spare => uptoBulkAll elems + uptoBulkAll spare + 1
  | .agg parts => uptoBulkAll parts + 1
  | .iface _ d => uptoBulk d + 1
  | .map entries => uptoBulkEntries entries + 1
  | .held _ => 1
def uptoBulkAll {H : Type} : List (DataW H) → Nat
  | [] => 0
  | d :: r => uptoBulk d + uptoBulkAll r
def uptoBulkEntries {H : Type} : List (Lit × DataW H) → Nat
  | [] => 0
  | x :: r => uptoBulkEntry x + uptoBulkEntries r
def uptoBulkEntry {H : Type} : Lit × DataW H → Nat
  | (.string bytes, d) => bytes.length + uptoBulk d + 1
  | (_, d) => uptoBulk d + 1
 end
def uptoSmall : (H : Type) → List (DataW H) → Bool := fun _ ds => decide (uptoBulkAll ds ≤ 1048576)
def OpenSpec.upto (s : _root_.Go.ChangeSpec) : _root_.Go.OpenSpec := { _root_.Go.OpenSpec.ofChange s with cond := some uptoSmall }

/-- 'stratagemlaw52.OrbitSolves', WHERE WHAT IT READS IS OF BULK AT MOST 1048576: true; the input reads as it did. -/
def orbitSolvesUptoRow : OpenClaim := { program := "ytecegaabajeolaagreat", sum := "ae1a6e00454354777750798780a9e6a4c2c3fdbed1ef49127169a9636ae28508", func := "stratagem/stratagemlaw52.OrbitSolves", spec := "orbitSolves", unfollowed := true, recurses := true, apart := false, narrowed := true }
def OrbitSolvesUptoSaid : Prop := orbitSolvesUptoRow.holds Tryz.pinned (OpenSpec.upto orbitSolvesSpec)

/-- 'stratagemlaw52.OrbitExpands', WHERE WHAT IT READS IS OF BULK AT MOST 1048576: true; the input reads as it did. -/
def orbitExpandsUptoRow : OpenClaim := { program := "ytecegaabajeolaagreat", sum := "ae1a6e00454354777750798780a9e6a4c2c3fdbed1ef49127169a9636ae28508", func := "stratagem/stratagemlaw52.OrbitExpands", spec := "orbitExpands", unfollowed := true, recurses := true, apart := false, narrowed := true }
def OrbitExpandsUptoSaid : Prop := orbitExpandsUptoRow.holds Tryz.pinned (OpenSpec.upto orbitExpandsSpec)

/-- 'stratagemlaw52.OrbitLimits', WHERE WHAT IT READS IS OF BULK AT MOST 1048576: true; the input reads as it did. -/
def orbitLimitsUptoRow : OpenClaim := { program := "ytecegaabajeolaagreat", sum := "ae1a6e00454354777750798780a9e6a4c2c3fdbed1ef49127169a9636ae28508", func := "stratagem/stratagemlaw52.OrbitLimits", spec := "orbitLimits", unfollowed := true, recurses := true, apart := false, narrowed := true }
def OrbitLimitsUptoSaid : Prop := orbitLimitsUptoRow.holds Tryz.pinned (OpenSpec.upto orbitLimitsSpec)

/-- 'stratagemlaw52.OrbitTwins', WHERE WHAT IT READS IS OF BULK AT MOST 1048576: true; the input reads as it did. -/
def orbitTwinsUptoRow : OpenClaim := { program := "ytecegaabajeolaagreat", sum := "ae1a6e00454354777750798780a9e6a4c2c3fdbed1ef49127169a9636ae28508", func := "stratagem/stratagemlaw52.OrbitTwins", spec := "orbitTwins", unfollowed := true, recurses := true, apart := false, narrowed := true }
def OrbitTwinsUptoSaid : Prop := orbitTwinsUptoRow.holds Tryz.pinned (OpenSpec.upto orbitTwinsSpec)

/-- 'stratagemlaw52.OrbitSame', WHERE WHAT IT READS IS OF BULK AT MOST 1048576: true; the input reads as it did. -/
def orbitSameUptoRow : OpenClaim := { program := "ytecegaabajeolaagreat", sum := "ae1a6e00454354777750798780a9e6a4c2c3fdbed1ef49127169a9636ae28508", func := "stratagem/stratagemlaw52.OrbitSame", spec := "orbitSame", unfollowed := true, recurses := true, apart := false, narrowed := true }
def OrbitSameUptoSaid : Prop := orbitSameUptoRow.holds Tryz.pinned (OpenSpec.upto orbitSameSpec)

/-- 'stratagemlaw52.OrbitErrors', WHERE WHAT IT READS IS OF BULK AT MOST 1048576: true; the input reads as it did. -/
def orbitErrorsUptoRow : OpenClaim := { program := "ytecegaabajeolaagreat", sum := "ae1a6e00454354777750798780a9e6a4c2c3fdbed1ef49127169a9636ae28508", func := "stratagem/stratagemlaw52.OrbitErrors", spec := "orbitErrors", unfollowed := true, recurses := true, apart := false, narrowed := true }
def OrbitErrorsUptoSaid : Prop := orbitErrorsUptoRow.holds Tryz.pinned (OpenSpec.upto orbitErrorsSpec)

end Rows
end Go.Proofs.YtecegaabajeolaaGreat

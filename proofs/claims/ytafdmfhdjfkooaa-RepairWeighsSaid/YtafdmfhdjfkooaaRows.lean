/-
  No cell of these rows narrows 'for every input' (looked for: loops, veiled, ifaces, maps, wideKeys, modest, calm, conditions, laid).
  DERIVED. THE GIVEN ROWS OF THIS SEAT. 4 by the template 'for every input the law returns true; each argument reads behind the call as it read before'; 0 by the template 'total and deterministic' (their statements: YtafdmfhdjfkooaaTotals.lean).
  GIVEN WITH THE SEED: the statements are not yours to turn. If you find one false, say at which input.
  Laid BY PROGRAM, IN A SANDBOX (cutbox-rows.mjs): the forced cells as the released guide's own fill.sh prints them over the translation bc96cdf0c12491da… (all of the seat's roots in one cut). By AI agents, Wed Nov 11 2026. No macro, syntax, notation, axiom, sorry.
-/
import Derived.Test.YtafdmfhdjfkooaaChecked
import GoSem.Claim
import GoSem.ClaimJoined
import GoSem.ClaimMapViews
import Derived.JoinedTies
import Derived.KernelRfl
namespace Go.Proofs.Ytafdmfhdjfkooaa
/- THE CELL 'sum', in the pinned program and in every row, IS THE sha256 OF THE DUMP (.gsa) THAT YtafdmfhdjfkooaaProg.lean LOADS. Nothing in Lean hashes anything: it is a label: what it is worth is what the hold of that sum in a sandbox is worth. -/
noncomputable def Try.pinned : Pinned := { name := "ytafdmfhdjfkooaa", sum := "bc96cdf0c12491da17544f9b2b970236c5b468eed6c50f37abe09e4ccaef9662", checked := Try.checked }
namespace Rows
def none {H : Type} : Left H := { results := [], args := [] }

/-- 'stratagemlaw60.RepairDistances': WHATEVER THE INPUT: true; the input reads as it did. -/
def repairDistancesSpec : ChangeSpec := { name := "repairDistances", fn := fun _ => fun
  | [d1, d2] => { results := [.lit (.bool true)], args := [d1, d2] }
  | _ => none }
def repairDistancesRow : OpenClaim := { program := "ytafdmfhdjfkooaa", sum := "bc96cdf0c12491da17544f9b2b970236c5b468eed6c50f37abe09e4ccaef9662", func := "stratagem/stratagemlaw60.RepairDistances", spec := "repairDistances", unfollowed := true, recurses := true, apart := false }
def RepairDistancesSaid : Prop := repairDistancesRow.holds Try.pinned (OpenSpec.ofChange repairDistancesSpec)

/-- ITS FALSE NEIGHBOUR: 'it returns false'. Refute it at one input. -/
def repairDistancesWrong : ChangeSpec := { name := "repairDistances", fn := fun _ => fun
  | [d1, d2] => { results := [.lit (.bool false)], args := [d1, d2] }
  | _ => none }
def RepairDistancesWrongFalsely : Prop := repairDistancesRow.holds Try.pinned (OpenSpec.ofChange repairDistancesWrong)

/-- 'stratagemlaw60.RepairMetric': WHATEVER THE INPUT: true; the input reads as it did. -/
def repairMetricSpec : ChangeSpec := { name := "repairMetric", fn := fun _ => fun
  | [d1, d2, d3] => { results := [.lit (.bool true)], args := [d1, d2, d3] }
  | _ => none }
def repairMetricRow : OpenClaim := { program := "ytafdmfhdjfkooaa", sum := "bc96cdf0c12491da17544f9b2b970236c5b468eed6c50f37abe09e4ccaef9662", func := "stratagem/stratagemlaw60.RepairMetric", spec := "repairMetric", unfollowed := true, recurses := true, apart := false }
def RepairMetricSaid : Prop := repairMetricRow.holds Try.pinned (OpenSpec.ofChange repairMetricSpec)

/-- ITS FALSE NEIGHBOUR: 'it returns false'. Refute it at one input. -/
def repairMetricWrong : ChangeSpec := { name := "repairMetric", fn := fun _ => fun
  | [d1, d2, d3] => { results := [.lit (.bool false)], args := [d1, d2, d3] }
  | _ => none }
def RepairMetricWrongFalsely : Prop := repairMetricRow.holds Try.pinned (OpenSpec.ofChange repairMetricWrong)

/-- 'stratagemlaw60.RepairWeighs': WHATEVER THE INPUT: true; the input reads as it did. -/
def repairWeighsSpec : ChangeSpec := { name := "repairWeighs", fn := fun _ => fun
  | [d1, d2, d3] => { results := [.lit (.bool true)], args := [d1, d2, d3] }
  | _ => none }
def repairWeighsRow : OpenClaim := { program := "ytafdmfhdjfkooaa", sum := "bc96cdf0c12491da17544f9b2b970236c5b468eed6c50f37abe09e4ccaef9662", func := "stratagem/stratagemlaw60.RepairWeighs", spec := "repairWeighs", unfollowed := true, recurses := true, apart := false }
def RepairWeighsSaid : Prop := repairWeighsRow.holds Try.pinned (OpenSpec.ofChange repairWeighsSpec)

/-- ITS FALSE NEIGHBOUR: 'it returns false'. Refute it at one input. -/
def repairWeighsWrong : ChangeSpec := { name := "repairWeighs", fn := fun _ => fun
  | [d1, d2, d3] => { results := [.lit (.bool false)], args := [d1, d2, d3] }
  | _ => none }
def RepairWeighsWrongFalsely : Prop := repairWeighsRow.holds Try.pinned (OpenSpec.ofChange repairWeighsWrong)

/-- 'stratagemlaw60.RepairLimits': WHATEVER THE INPUT: true; the input reads as it did. -/
def repairLimitsSpec : ChangeSpec := { name := "repairLimits", fn := fun _ => fun
  | [d1, d2, d3] => { results := [.lit (.bool true)], args := [d1, d2, d3] }
  | _ => none }
def repairLimitsRow : OpenClaim := { program := "ytafdmfhdjfkooaa", sum := "bc96cdf0c12491da17544f9b2b970236c5b468eed6c50f37abe09e4ccaef9662", func := "stratagem/stratagemlaw60.RepairLimits", spec := "repairLimits", unfollowed := true, recurses := true, apart := false }
def RepairLimitsSaid : Prop := repairLimitsRow.holds Try.pinned (OpenSpec.ofChange repairLimitsSpec)

/-- ITS FALSE NEIGHBOUR: 'it returns false'. Refute it at one input. -/
def repairLimitsWrong : ChangeSpec := { name := "repairLimits", fn := fun _ => fun
  | [d1, d2, d3] => { results := [.lit (.bool false)], args := [d1, d2, d3] }
  | _ => none }
def RepairLimitsWrongFalsely : Prop := repairLimitsRow.holds Try.pinned (OpenSpec.ofChange repairLimitsWrong)

/- THE SECOND FORM. 'bulk': how many values and letters a reading holds, each counted each time it is reached (what is shared counts as often as it is met; a slice's spare places count too). A statement '..UptoSaid' is the law's where the arguments, and the package variables that the reading takes, are together of bulk at most 1048576: NARROWER than '..Said'. Prove '..Said' where nothing that the law and all that it calls make is longer than what came in: it says more and counts as full. Else prove '..UptoSaid'. A law counts once. -/
mutual
def uptoBulk {H : Type} : DataW H → Nat
  | .lit (.string bytes) => bytes.length + 1
  | .lit _ => 1
  | .nil => 1
  | .ptr d => uptoBulk d + 1
  | .slice elems spare => uptoBulkAll elems + uptoBulkAll spare + 1
  | .agg parts => uptoBulkAll parts + 1
  | .iface _ d => uptoBulk d + 1
  | .map entries => uptoBulkEntries entries + 1
  | .held _ => 1
def uptoBulkAll {H : Type} : List (DataW H) → Nat
  | [] => 0
  | d :: r => uptoBulk d + uptoBulkAll r
def uptoBulkEntries {H : Type} : List (Lit × DataW H) → Nat
  | [] => 0
  | x :: r => uptoBulkEntry x + uptoBulkEntries r
def uptoBulkEntry {H : Type} : Lit × DataW H → Nat
  | (.string bytes, d) => bytes.length + uptoBulk d + 1
  | (_, d) => uptoBulk d + 1
 end
def uptoSmall : (H : Type) → List (DataW H) → Bool := fun _ ds => decide (uptoBulkAll ds ≤ 1048576)
def OpenSpec.upto (s : _root_.Go.ChangeSpec) : _root_.Go.OpenSpec := { _root_.Go.OpenSpec.ofChange s with cond := some uptoSmall }

/-- 'stratagemlaw60.RepairDistances', WHERE WHAT IT READS IS OF BULK AT MOST 1048576: true; the input reads as it did. -/
def repairDistancesUptoRow : OpenClaim := { program := "ytafdmfhdjfkooaa", sum := "bc96cdf0c12491da17544f9b2b970236c5b468eed6c50f37abe09e4ccaef9662", func := "stratagem/stratagemlaw60.RepairDistances", spec := "repairDistances", unfollowed := true, recurses := true, apart := false, narrowed := true }
def RepairDistancesUptoSaid : Prop := repairDistancesUptoRow.holds Try.pinned (OpenSpec.upto repairDistancesSpec)

/-- 'stratagemlaw60.RepairMetric', WHERE WHAT IT READS IS OF BULK AT MOST 1048576: true; the input reads as it did. -/
def repairMetricUptoRow : OpenClaim := { program := "ytafdmfhdjfkooaa", sum := "bc96cdf0c12491da17544f9b2b970236c5b468eed6c50f37abe09e4ccaef9662", func := "stratagem/stratagemlaw60.RepairMetric", spec := "repairMetric", unfollowed := true, recurses := true, apart := false, narrowed := true }
def RepairMetricUptoSaid : Prop := repairMetricUptoRow.holds Try.pinned (OpenSpec.upto repairMetricSpec)

/-- 'stratagemlaw60.RepairWeighs', WHERE WHAT IT READS IS OF BULK AT MOST 1048576: true; the input reads as it did. -/
def repairWeighsUptoRow : OpenClaim := { program := "ytafdmfhdjfkooaa", sum := "bc96cdf0c12491da17544f9b2b970236c5b468eed6c50f37abe09e4ccaef9662", func := "stratagem/stratagemlaw60.RepairWeighs", spec := "repairWeighs", unfollowed := true, recurses := true, apart := false, narrowed := true }
def RepairWeighsUptoSaid : Prop := repairWeighsUptoRow.holds Try.pinned (OpenSpec.upto repairWeighsSpec)

/-- 'stratagemlaw60.RepairLimits', WHERE WHAT IT READS IS OF BULK AT MOST 1048576: true; the input reads as it did. -/
def repairLimitsUptoRow : OpenClaim := { program := "ytafdmfhdjfkooaa", sum := "bc96cdf0c12491da17544f9b2b970236c5b468eed6c50f37abe09e4ccaef9662", func := "stratagem/stratagemlaw60.RepairLimits", spec := "repairLimits", unfollowed := true, recurses := true, apart := false, narrowed := true }
def RepairLimitsUptoSaid : Prop := repairLimitsUptoRow.holds Try.pinned (OpenSpec.upto repairLimitsSpec)

end Rows
end Go.Proofs.Ytafdmfhdjfkooaa

/-
  No cell of these rows narrows 'for every input' (looked for: loops, veiled, ifaces, maps, wideKeys, modest, calm, conditions, laid).
  DERIVED. THE GIVEN ROWS OF THIS SEAT. 8 by the template 'for every input the law returns true; each argument reads behind the call as it read before'; 0 by the template 'total and deterministic' (their statements: YthomfnkaicjmbaaTotals.lean).
  GIVEN WITH THE SEED: the statements are not yours to turn. If you find one false, say at which input.
  Laid BY PROGRAM, IN A SANDBOX (cutbox-rows.mjs): the forced cells as the released guide's own fill.sh prints them over the translation 5532dac544863757… (all of the seat's roots in one cut). By AI agents, Wed Nov 11 2026. No macro, syntax, notation, axiom, sorry.
-/
import Derived.Test.YthomfnkaicjmbaaChecked
import GoSem.Claim
import GoSem.ClaimJoined
import GoSem.ClaimMapViews
import Derived.JoinedTies
import Derived.KernelRfl
namespace Go.Proofs.Ythomfnkaicjmbaa
/- THE CELL 'sum', in the pinned program and in every row, IS THE sha256 OF THE DUMP (.gsa) THAT YthomfnkaicjmbaaProg.lean LOADS. Nothing in Lean hashes anything: it is a label: what it is worth is what the hold of that sum in a sandbox is worth. -/
noncomputable def Try.pinned : Pinned := { name := "ythomfnkaicjmbaa", sum := "5532dac544863757ae661302985819e73823f448f511864dc917773e78a808d1", checked := Try.checked }
namespace Rows
def none {H : Type} : Left H := { results := [], args := [] }

/-- 'stratagemlaw48.BreadthSearches': WHATEVER THE INPUT: true; the input reads as it did. -/
def breadthSearchesSpec : ChangeSpec := { name := "breadthSearches", fn := fun _ => fun
  | [d1, d2] => { results := [.lit (.bool true)], args := [d1, d2] }
  | _ => none }
def breadthSearchesRow : OpenClaim := { program := "ythomfnkaicjmbaa", sum := "5532dac544863757ae661302985819e73823f448f511864dc917773e78a808d1", func := "stratagem/stratagemlaw48.BreadthSearches", spec := "breadthSearches", unfollowed := true, recurses := true, apart := false }
def BreadthSearchesSaid : Prop := breadthSearchesRow.holds Try.pinned (OpenSpec.ofChange breadthSearchesSpec)

/-- ITS FALSE NEIGHBOUR: 'it returns false'. Refute it at one input. -/
def breadthSearchesWrong : ChangeSpec := { name := "breadthSearches", fn := fun _ => fun
  | [d1, d2] => { results := [.lit (.bool false)], args := [d1, d2] }
  | _ => none }
def BreadthSearchesWrongFalsely : Prop := breadthSearchesRow.holds Try.pinned (OpenSpec.ofChange breadthSearchesWrong)

/-- 'stratagemlaw48.BreadthShortest': WHATEVER THE INPUT: true; the input reads as it did. -/
def breadthShortestSpec : ChangeSpec := { name := "breadthShortest", fn := fun _ => fun
  | [d] => { results := [.lit (.bool true)], args := [d] }
  | _ => none }
def breadthShortestRow : OpenClaim := { program := "ythomfnkaicjmbaa", sum := "5532dac544863757ae661302985819e73823f448f511864dc917773e78a808d1", func := "stratagem/stratagemlaw48.BreadthShortest", spec := "breadthShortest", unfollowed := true, recurses := true, apart := false }
def BreadthShortestSaid : Prop := breadthShortestRow.holds Try.pinned (OpenSpec.ofChange breadthShortestSpec)

/-- ITS FALSE NEIGHBOUR: 'it returns false'. Refute it at one input. -/
def breadthShortestWrong : ChangeSpec := { name := "breadthShortest", fn := fun _ => fun
  | [d] => { results := [.lit (.bool false)], args := [d] }
  | _ => none }
def BreadthShortestWrongFalsely : Prop := breadthShortestRow.holds Try.pinned (OpenSpec.ofChange breadthShortestWrong)

/-- 'stratagemlaw48.BreadthUniform': WHATEVER THE INPUT: true; the input reads as it did. -/
def breadthUniformSpec : ChangeSpec := { name := "breadthUniform", fn := fun _ => fun
  | [d] => { results := [.lit (.bool true)], args := [d] }
  | _ => none }
def breadthUniformRow : OpenClaim := { program := "ythomfnkaicjmbaa", sum := "5532dac544863757ae661302985819e73823f448f511864dc917773e78a808d1", func := "stratagem/stratagemlaw48.BreadthUniform", spec := "breadthUniform", unfollowed := true, recurses := true, apart := false }
def BreadthUniformSaid : Prop := breadthUniformRow.holds Try.pinned (OpenSpec.ofChange breadthUniformSpec)

/-- ITS FALSE NEIGHBOUR: 'it returns false'. Refute it at one input. -/
def breadthUniformWrong : ChangeSpec := { name := "breadthUniform", fn := fun _ => fun
  | [d] => { results := [.lit (.bool false)], args := [d] }
  | _ => none }
def BreadthUniformWrongFalsely : Prop := breadthUniformRow.holds Try.pinned (OpenSpec.ofChange breadthUniformWrong)

/-- 'stratagemlaw48.BreadthLimits': WHATEVER THE INPUT: true; the input reads as it did. -/
def breadthLimitsSpec : ChangeSpec := { name := "breadthLimits", fn := fun _ => fun
  | [d1, d2] => { results := [.lit (.bool true)], args := [d1, d2] }
  | _ => none }
def breadthLimitsRow : OpenClaim := { program := "ythomfnkaicjmbaa", sum := "5532dac544863757ae661302985819e73823f448f511864dc917773e78a808d1", func := "stratagem/stratagemlaw48.BreadthLimits", spec := "breadthLimits", unfollowed := true, recurses := true, apart := false }
def BreadthLimitsSaid : Prop := breadthLimitsRow.holds Try.pinned (OpenSpec.ofChange breadthLimitsSpec)

/-- ITS FALSE NEIGHBOUR: 'it returns false'. Refute it at one input. -/
def breadthLimitsWrong : ChangeSpec := { name := "breadthLimits", fn := fun _ => fun
  | [d1, d2] => { results := [.lit (.bool false)], args := [d1, d2] }
  | _ => none }
def BreadthLimitsWrongFalsely : Prop := breadthLimitsRow.holds Try.pinned (OpenSpec.ofChange breadthLimitsWrong)

/-- 'stratagemlaw48.BreadthReachable': WHATEVER THE INPUT: true; the input reads as it did. -/
def breadthReachableSpec : ChangeSpec := { name := "breadthReachable", fn := fun _ => fun
  | [d1, d2] => { results := [.lit (.bool true)], args := [d1, d2] }
  | _ => none }
def breadthReachableRow : OpenClaim := { program := "ythomfnkaicjmbaa", sum := "5532dac544863757ae661302985819e73823f448f511864dc917773e78a808d1", func := "stratagem/stratagemlaw48.BreadthReachable", spec := "breadthReachable", unfollowed := true, recurses := true, apart := false }
def BreadthReachableSaid : Prop := breadthReachableRow.holds Try.pinned (OpenSpec.ofChange breadthReachableSpec)

/-- ITS FALSE NEIGHBOUR: 'it returns false'. Refute it at one input. -/
def breadthReachableWrong : ChangeSpec := { name := "breadthReachable", fn := fun _ => fun
  | [d1, d2] => { results := [.lit (.bool false)], args := [d1, d2] }
  | _ => none }
def BreadthReachableWrongFalsely : Prop := breadthReachableRow.holds Try.pinned (OpenSpec.ofChange breadthReachableWrong)

/-- 'stratagemlaw48.BreadthCounters': WHATEVER THE INPUT: true; the input reads as it did. -/
def breadthCountersSpec : ChangeSpec := { name := "breadthCounters", fn := fun _ => fun
  | [d1, d2] => { results := [.lit (.bool true)], args := [d1, d2] }
  | _ => none }
def breadthCountersRow : OpenClaim := { program := "ythomfnkaicjmbaa", sum := "5532dac544863757ae661302985819e73823f448f511864dc917773e78a808d1", func := "stratagem/stratagemlaw48.BreadthCounters", spec := "breadthCounters", unfollowed := true, recurses := true, apart := false }
def BreadthCountersSaid : Prop := breadthCountersRow.holds Try.pinned (OpenSpec.ofChange breadthCountersSpec)

/-- ITS FALSE NEIGHBOUR: 'it returns false'. Refute it at one input. -/
def breadthCountersWrong : ChangeSpec := { name := "breadthCounters", fn := fun _ => fun
  | [d1, d2] => { results := [.lit (.bool false)], args := [d1, d2] }
  | _ => none }
def BreadthCountersWrongFalsely : Prop := breadthCountersRow.holds Try.pinned (OpenSpec.ofChange breadthCountersWrong)

/-- 'stratagemlaw48.BreadthErrors': WHATEVER THE INPUT: true; the input reads as it did. -/
def breadthErrorsSpec : ChangeSpec := { name := "breadthErrors", fn := fun _ => fun
  | [d1, d2] => { results := [.lit (.bool true)], args := [d1, d2] }
  | _ => none }
def breadthErrorsRow : OpenClaim := { program := "ythomfnkaicjmbaa", sum := "5532dac544863757ae661302985819e73823f448f511864dc917773e78a808d1", func := "stratagem/stratagemlaw48.BreadthErrors", spec := "breadthErrors", unfollowed := true, recurses := true, apart := false }
def BreadthErrorsSaid : Prop := breadthErrorsRow.holds Try.pinned (OpenSpec.ofChange breadthErrorsSpec)

/-- ITS FALSE NEIGHBOUR: 'it returns false'. Refute it at one input. -/
def breadthErrorsWrong : ChangeSpec := { name := "breadthErrors", fn := fun _ => fun
  | [d1, d2] => { results := [.lit (.bool false)], args := [d1, d2] }
  | _ => none }
def BreadthErrorsWrongFalsely : Prop := breadthErrorsRow.holds Try.pinned (OpenSpec.ofChange breadthErrorsWrong)

/-- 'stratagemlaw48.BreadthAgrees': WHATEVER THE INPUT: true; the input reads as it did. -/
def breadthAgreesSpec : ChangeSpec := { name := "breadthAgrees", fn := fun _ => fun
  | [d1, d2] => { results := [.lit (.bool true)], args := [d1, d2] }
  | _ => none }
def breadthAgreesRow : OpenClaim := { program := "ythomfnkaicjmbaa", sum := "5532dac544863757ae661302985819e73823f448f511864dc917773e78a808d1", func := "stratagem/stratagemlaw48.BreadthAgrees", spec := "breadthAgrees", unfollowed := true, recurses := true, apart := false }
def BreadthAgreesSaid : Prop := breadthAgreesRow.holds Try.pinned (OpenSpec.ofChange breadthAgreesSpec)

/-- ITS FALSE NEIGHBOUR: 'it returns false'. Refute it at one input. -/
def breadthAgreesWrong : ChangeSpec := { name := "breadthAgrees", fn := fun _ => fun
  | [d1, d2] => { results := [.lit (.bool false)], args := [d1, d2] }
  | _ => none }
def BreadthAgreesWrongFalsely : Prop := breadthAgreesRow.holds Try.pinned (OpenSpec.ofChange breadthAgreesWrong)

/- THE SECOND FORM. 'bulk': how many values and letters a reading holds, each counted each time it is reached (what is shared counts as often as it is met; a slice's spare places count too). A statement '..UptoSaid' is the law's where the arguments, and the package variables that the reading takes, are together of bulk at most 1048576: NARROWER than '..Said'. Prove '..Said' where nothing that the law and all that it calls make is longer than what came in: it says more and counts as full. Else prove '..UptoSaid'. A law counts once. -/
mutual
def uptoBulk {H : Type} : DataW H → Nat
  | .lit (.string bytes) => bytes.length + 1
  | .lit _ => 1
  | .nil => 1
  | .ptr d => uptoBulk d + 1
  | .slice elems spare => uptoBulkAll elems + uptoBulkAll spare + 1
  | .agg parts => uptoBulkAll parts + 1
  | .iface _ d => uptoBulk d + 1
  | .map entries => uptoBulkEntries entries + 1
  | .held _ => 1
def uptoBulkAll {H : Type} : List (DataW H) → Nat
  | [] => 0
  | d :: r => uptoBulk d + uptoBulkAll r
def uptoBulkEntries {H : Type} : List (Lit × DataW H) → Nat
  | [] => 0
  | x :: r => uptoBulkEntry x + uptoBulkEntries r
def uptoBulkEntry {H : Type} : Lit × DataW H → Nat
  | (.string bytes, d) => bytes.length + uptoBulk d + 1
  | (_, d) => uptoBulk d + 1
 end
def uptoSmall : (H : Type) → List (DataW H) → Bool := fun _ ds => decide (uptoBulkAll ds ≤ 1048576)
def OpenSpec.upto (s : _root_.Go.ChangeSpec) : _root_.Go.OpenSpec := { _root_.Go.OpenSpec.ofChange s with cond := some uptoSmall }

/-- 'stratagemlaw48.BreadthSearches', WHERE WHAT IT READS IS OF BULK AT MOST 1048576: true; the input reads as it did. -/
def breadthSearchesUptoRow : OpenClaim := { program := "ythomfnkaicjmbaa", sum := "5532dac544863757ae661302985819e73823f448f511864dc917773e78a808d1", func := "stratagem/stratagemlaw48.BreadthSearches", spec := "breadthSearches", unfollowed := true, recurses := true, apart := false, narrowed := true }
def BreadthSearchesUptoSaid : Prop := breadthSearchesUptoRow.holds Try.pinned (OpenSpec.upto breadthSearchesSpec)

/-- 'stratagemlaw48.BreadthShortest', WHERE WHAT IT READS IS OF BULK AT MOST 1048576: true; the input reads as it did. -/
def breadthShortestUptoRow : OpenClaim := { program := "ythomfnkaicjmbaa", sum := "5532dac544863757ae661302985819e73823f448f511864dc917773e78a808d1", func := "stratagem/stratagemlaw48.BreadthShortest", spec := "breadthShortest", unfollowed := true, recurses := true, apart := false, narrowed := true }
def BreadthShortestUptoSaid : Prop := breadthShortestUptoRow.holds Try.pinned (OpenSpec.upto breadthShortestSpec)

/-- 'stratagemlaw48.BreadthUniform', WHERE WHAT IT READS IS OF BULK AT MOST 1048576: true; the input reads as it did. -/
def breadthUniformUptoRow : OpenClaim := { program := "ythomfnkaicjmbaa", sum := "5532dac544863757ae661302985819e73823f448f511864dc917773e78a808d1", func := "stratagem/stratagemlaw48.BreadthUniform", spec := "breadthUniform", unfollowed := true, recurses := true, apart := false, narrowed := true }
def BreadthUniformUptoSaid : Prop := breadthUniformUptoRow.holds Try.pinned (OpenSpec.upto breadthUniformSpec)

/-- 'stratagemlaw48.BreadthLimits', WHERE WHAT IT READS IS OF BULK AT MOST 1048576: true; the input reads as it did. -/
def breadthLimitsUptoRow : OpenClaim := { program := "ythomfnkaicjmbaa", sum := "5532dac544863757ae661302985819e73823f448f511864dc917773e78a808d1", func := "stratagem/stratagemlaw48.BreadthLimits", spec := "breadthLimits", unfollowed := true, recurses := true, apart := false, narrowed := true }
def BreadthLimitsUptoSaid : Prop := breadthLimitsUptoRow.holds Try.pinned (OpenSpec.upto breadthLimitsSpec)

/-- 'stratagemlaw48.BreadthReachable', WHERE WHAT IT READS IS OF BULK AT MOST 1048576: true; the input reads as it did. -/
def breadthReachableUptoRow : OpenClaim := { program := "ythomfnkaicjmbaa", sum := "5532dac544863757ae661302985819e73823f448f511864dc917773e78a808d1", func := "stratagem/stratagemlaw48.BreadthReachable", spec := "breadthReachable", unfollowed := true, recurses := true, apart := false, narrowed := true }
def BreadthReachableUptoSaid : Prop := breadthReachableUptoRow.holds Try.pinned (OpenSpec.upto breadthReachableSpec)

/-- 'stratagemlaw48.BreadthCounters', WHERE WHAT IT READS IS OF BULK AT MOST 1048576: true; the input reads as it did. -/
def breadthCountersUptoRow : OpenClaim := { program := "ythomfnkaicjmbaa", sum := "5532dac544863757ae661302985819e73823f448f511864dc917773e78a808d1", func := "stratagem/stratagemlaw48.BreadthCounters", spec := "breadthCounters", unfollowed := true, recurses := true, apart := false, narrowed := true }
def BreadthCountersUptoSaid : Prop := breadthCountersUptoRow.holds Try.pinned (OpenSpec.upto breadthCountersSpec)

/-- 'stratagemlaw48.BreadthErrors', WHERE WHAT IT READS IS OF BULK AT MOST 1048576: true; the input reads as it did. -/
def breadthErrorsUptoRow : OpenClaim := { program := "ythomfnkaicjmbaa", sum := "5532dac544863757ae661302985819e73823f448f511864dc917773e78a808d1", func := "stratagem/stratagemlaw48.BreadthErrors", spec := "breadthErrors", unfollowed := true, recurses := true, apart := false, narrowed := true }
def BreadthErrorsUptoSaid : Prop := breadthErrorsUptoRow.holds Try.pinned (OpenSpec.upto breadthErrorsSpec)

/-- 'stratagemlaw48.BreadthAgrees', WHERE WHAT IT READS IS OF BULK AT MOST 1048576: true; the input reads as it did. -/
def breadthAgreesUptoRow : OpenClaim := { program := "ythomfnkaicjmbaa", sum := "5532dac544863757ae661302985819e73823f448f511864dc917773e78a808d1", func := "stratagem/stratagemlaw48.BreadthAgrees", spec := "breadthAgrees", unfollowed := true, recurses := true, apart := false, narrowed := true }
def BreadthAgreesUptoSaid : Prop := breadthAgreesUptoRow.holds Try.pinned (OpenSpec.upto breadthAgreesSpec)

end Rows
end Go.Proofs.Ythomfnkaicjmbaa

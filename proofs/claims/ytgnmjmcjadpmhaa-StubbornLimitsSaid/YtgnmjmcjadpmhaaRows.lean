/-
  No cell of these rows narrows 'for every input' (looked for: loops, veiled, ifaces, maps, wideKeys, modest, calm, conditions, laid).
  DERIVED. THE GIVEN ROWS OF THIS SEAT. 7 by the template 'for every input the law returns true; each argument reads behind the call as it read before'; 0 by the template 'total and deterministic' (their statements: YtgnmjmcjadpmhaaTotals.lean).
  GIVEN WITH THE SEED: the statements are not yours to turn. If you find one false, say at which input.
  Laid BY PROGRAM, IN A SANDBOX (cutbox-rows.mjs): the forced cells as the released guide's own fill.sh prints them over the translation 0793a6a985803a93… (all of the seat's roots in one cut). By AI agents, Wed Nov 11 2026. No macro, syntax, notation, axiom, sorry.
-/
import Derived.Test.YtgnmjmcjadpmhaaChecked
import GoSem.Claim
import GoSem.ClaimJoined
import GoSem.ClaimMapViews
import Derived.JoinedTies
import Derived.KernelRfl
namespace Go.Proofs.Ytgnmjmcjadpmhaa
/- THE CELL 'sum', in the pinned program and in every row, IS THE sha256 OF THE DUMP (.gsa) THAT YtgnmjmcjadpmhaaProg.lean LOADS. Nothing in Lean hashes anything: it is a label: what it is worth is what the hold of that sum in a sandbox is worth. -/
noncomputable def Try.pinned : Pinned := { name := "ytgnmjmcjadpmhaa", sum := "0793a6a985803a93c39efb4d60f07518fddfb2e99409c41979ea88d5b5edfb7b", checked := Try.checked }
namespace Rows
def none {H : Type} : Left H := { results := [], args := [] }

/-- 'stratagemlaw53.StubbornSets': WHATEVER THE INPUT: true; the input reads as it did. -/
def stubbornSetsSpec : ChangeSpec := { name := "stubbornSets", fn := fun _ => fun
  | [d1, d2] => { results := [.lit (.bool true)], args := [d1, d2] }
  | _ => none }
def stubbornSetsRow : OpenClaim := { program := "ytgnmjmcjadpmhaa", sum := "0793a6a985803a93c39efb4d60f07518fddfb2e99409c41979ea88d5b5edfb7b", func := "stratagem/stratagemlaw53.StubbornSets", spec := "stubbornSets", unfollowed := true, recurses := true, apart := false }
def StubbornSetsSaid : Prop := stubbornSetsRow.holds Try.pinned (OpenSpec.ofChange stubbornSetsSpec)

/-- ITS FALSE NEIGHBOUR: 'it returns false'. Refute it at one input. -/
def stubbornSetsWrong : ChangeSpec := { name := "stubbornSets", fn := fun _ => fun
  | [d1, d2] => { results := [.lit (.bool false)], args := [d1, d2] }
  | _ => none }
def StubbornSetsWrongFalsely : Prop := stubbornSetsRow.holds Try.pinned (OpenSpec.ofChange stubbornSetsWrong)

/-- 'stratagemlaw53.StubbornSafe': WHATEVER THE INPUT: true; the input reads as it did. -/
def stubbornSafeSpec : ChangeSpec := { name := "stubbornSafe", fn := fun _ => fun
  | [d] => { results := [.lit (.bool true)], args := [d] }
  | _ => none }
def stubbornSafeRow : OpenClaim := { program := "ytgnmjmcjadpmhaa", sum := "0793a6a985803a93c39efb4d60f07518fddfb2e99409c41979ea88d5b5edfb7b", func := "stratagem/stratagemlaw53.StubbornSafe", spec := "stubbornSafe", unfollowed := true, recurses := true, apart := false }
def StubbornSafeSaid : Prop := stubbornSafeRow.holds Try.pinned (OpenSpec.ofChange stubbornSafeSpec)

/-- ITS FALSE NEIGHBOUR: 'it returns false'. Refute it at one input. -/
def stubbornSafeWrong : ChangeSpec := { name := "stubbornSafe", fn := fun _ => fun
  | [d] => { results := [.lit (.bool false)], args := [d] }
  | _ => none }
def StubbornSafeWrongFalsely : Prop := stubbornSafeRow.holds Try.pinned (OpenSpec.ofChange stubbornSafeWrong)

/-- 'stratagemlaw53.StubbornSearches': WHATEVER THE INPUT: true; the input reads as it did. -/
def stubbornSearchesSpec : ChangeSpec := { name := "stubbornSearches", fn := fun _ => fun
  | [d] => { results := [.lit (.bool true)], args := [d] }
  | _ => none }
def stubbornSearchesRow : OpenClaim := { program := "ytgnmjmcjadpmhaa", sum := "0793a6a985803a93c39efb4d60f07518fddfb2e99409c41979ea88d5b5edfb7b", func := "stratagem/stratagemlaw53.StubbornSearches", spec := "stubbornSearches", unfollowed := true, recurses := true, apart := false }
def StubbornSearchesSaid : Prop := stubbornSearchesRow.holds Try.pinned (OpenSpec.ofChange stubbornSearchesSpec)

/-- ITS FALSE NEIGHBOUR: 'it returns false'. Refute it at one input. -/
def stubbornSearchesWrong : ChangeSpec := { name := "stubbornSearches", fn := fun _ => fun
  | [d] => { results := [.lit (.bool false)], args := [d] }
  | _ => none }
def StubbornSearchesWrongFalsely : Prop := stubbornSearchesRow.holds Try.pinned (OpenSpec.ofChange stubbornSearchesWrong)

/-- 'stratagemlaw53.StubbornLimits': WHATEVER THE INPUT: true; the input reads as it did. -/
def stubbornLimitsSpec : ChangeSpec := { name := "stubbornLimits", fn := fun _ => fun
  | [d1, d2] => { results := [.lit (.bool true)], args := [d1, d2] }
  | _ => none }
def stubbornLimitsRow : OpenClaim := { program := "ytgnmjmcjadpmhaa", sum := "0793a6a985803a93c39efb4d60f07518fddfb2e99409c41979ea88d5b5edfb7b", func := "stratagem/stratagemlaw53.StubbornLimits", spec := "stubbornLimits", unfollowed := true, recurses := true, apart := false }
def StubbornLimitsSaid : Prop := stubbornLimitsRow.holds Try.pinned (OpenSpec.ofChange stubbornLimitsSpec)

/-- ITS FALSE NEIGHBOUR: 'it returns false'. Refute it at one input. -/
def stubbornLimitsWrong : ChangeSpec := { name := "stubbornLimits", fn := fun _ => fun
  | [d1, d2] => { results := [.lit (.bool false)], args := [d1, d2] }
  | _ => none }
def StubbornLimitsWrongFalsely : Prop := stubbornLimitsRow.holds Try.pinned (OpenSpec.ofChange stubbornLimitsWrong)

/-- 'stratagemlaw53.StubbornApplicable': WHATEVER THE INPUT: true; the input reads as it did. -/
def stubbornApplicableSpec : ChangeSpec := { name := "stubbornApplicable", fn := fun _ => fun
  | [d1, d2] => { results := [.lit (.bool true)], args := [d1, d2] }
  | _ => none }
def stubbornApplicableRow : OpenClaim := { program := "ytgnmjmcjadpmhaa", sum := "0793a6a985803a93c39efb4d60f07518fddfb2e99409c41979ea88d5b5edfb7b", func := "stratagem/stratagemlaw53.StubbornApplicable", spec := "stubbornApplicable", unfollowed := true, recurses := true, apart := false }
def StubbornApplicableSaid : Prop := stubbornApplicableRow.holds Try.pinned (OpenSpec.ofChange stubbornApplicableSpec)

/-- ITS FALSE NEIGHBOUR: 'it returns false'. Refute it at one input. -/
def stubbornApplicableWrong : ChangeSpec := { name := "stubbornApplicable", fn := fun _ => fun
  | [d1, d2] => { results := [.lit (.bool false)], args := [d1, d2] }
  | _ => none }
def StubbornApplicableWrongFalsely : Prop := stubbornApplicableRow.holds Try.pinned (OpenSpec.ofChange stubbornApplicableWrong)

/-- 'stratagemlaw53.StubbornInterferes': WHATEVER THE INPUT: true; the input reads as it did. -/
def stubbornInterferesSpec : ChangeSpec := { name := "stubbornInterferes", fn := fun _ => fun
  | [d1, d2, d3] => { results := [.lit (.bool true)], args := [d1, d2, d3] }
  | _ => none }
def stubbornInterferesRow : OpenClaim := { program := "ytgnmjmcjadpmhaa", sum := "0793a6a985803a93c39efb4d60f07518fddfb2e99409c41979ea88d5b5edfb7b", func := "stratagem/stratagemlaw53.StubbornInterferes", spec := "stubbornInterferes", unfollowed := true, recurses := true, apart := false }
def StubbornInterferesSaid : Prop := stubbornInterferesRow.holds Try.pinned (OpenSpec.ofChange stubbornInterferesSpec)

/-- ITS FALSE NEIGHBOUR: 'it returns false'. Refute it at one input. -/
def stubbornInterferesWrong : ChangeSpec := { name := "stubbornInterferes", fn := fun _ => fun
  | [d1, d2, d3] => { results := [.lit (.bool false)], args := [d1, d2, d3] }
  | _ => none }
def StubbornInterferesWrongFalsely : Prop := stubbornInterferesRow.holds Try.pinned (OpenSpec.ofChange stubbornInterferesWrong)

/-- 'stratagemlaw53.StubbornCommutes': WHATEVER THE INPUT: true; the input reads as it did. -/
def stubbornCommutesSpec : ChangeSpec := { name := "stubbornCommutes", fn := fun _ => fun
  | [d1, d2] => { results := [.lit (.bool true)], args := [d1, d2] }
  | _ => none }
def stubbornCommutesRow : OpenClaim := { program := "ytgnmjmcjadpmhaa", sum := "0793a6a985803a93c39efb4d60f07518fddfb2e99409c41979ea88d5b5edfb7b", func := "stratagem/stratagemlaw53.StubbornCommutes", spec := "stubbornCommutes", unfollowed := true, recurses := true, apart := false }
def StubbornCommutesSaid : Prop := stubbornCommutesRow.holds Try.pinned (OpenSpec.ofChange stubbornCommutesSpec)

/-- ITS FALSE NEIGHBOUR: 'it returns false'. Refute it at one input. -/
def stubbornCommutesWrong : ChangeSpec := { name := "stubbornCommutes", fn := fun _ => fun
  | [d1, d2] => { results := [.lit (.bool false)], args := [d1, d2] }
  | _ => none }
def StubbornCommutesWrongFalsely : Prop := stubbornCommutesRow.holds Try.pinned (OpenSpec.ofChange stubbornCommutesWrong)

/- THE SECOND FORM. 'bulk': how many values and letters a reading holds, each counted each time it is reached (what is shared counts as often as it is met; a slice's spare places count too). A statement '..UptoSaid' is the law's where the arguments, and the package variables that the reading takes, are together of bulk at most 1048576: NARROWER than '..Said'. Prove '..Said' where nothing that the law and all that it calls make is longer than what came in: it says more and counts as full. Else prove '..UptoSaid'. A law counts once. -/
mutual
def uptoBulk {H : Type} : DataW H → Nat
  | .lit (.string bytes) => bytes.length + 1
  | .lit _ => 1
  | .nil => 1
  | .ptr d => uptoBulk d + 1
  | .slice elems spare => uptoBulkAll elems + uptoBulkAll spare + 1
  | .agg parts => uptoBulkAll parts + 1
  | .iface _ d => uptoBulk d + 1
  | .map entries => uptoBulkEntries entries + 1
  | .held _ => 1
def uptoBulkAll {H : Type} : List (DataW H) → Nat
  | [] => 0
  | d :: r => uptoBulk d + uptoBulkAll r
def uptoBulkEntries {H : Type} : List (Lit × DataW H) → Nat
  | [] => 0
  | x :: r => uptoBulkEntry x + uptoBulkEntries r
def uptoBulkEntry {H : Type} : Lit × DataW H → Nat
  | (.string bytes, d) => bytes.length + uptoBulk d + 1
  | (_, d) => uptoBulk d + 1
 end
def uptoSmall : (H : Type) → List (DataW H) → Bool := fun _ ds => decide (uptoBulkAll ds ≤ 1048576)
def OpenSpec.upto (s : _root_.Go.ChangeSpec) : _root_.Go.OpenSpec := { _root_.Go.OpenSpec.ofChange s with cond := some uptoSmall }

/-- 'stratagemlaw53.StubbornSets', WHERE WHAT IT READS IS OF BULK AT MOST 1048576: true; the input reads as it did. -/
def stubbornSetsUptoRow : OpenClaim := { program := "ytgnmjmcjadpmhaa", sum := "0793a6a985803a93c39efb4d60f07518fddfb2e99409c41979ea88d5b5edfb7b", func := "stratagem/stratagemlaw53.StubbornSets", spec := "stubbornSets", unfollowed := true, recurses := true, apart := false, narrowed := true }
def StubbornSetsUptoSaid : Prop := stubbornSetsUptoRow.holds Try.pinned (OpenSpec.upto stubbornSetsSpec)

/-- 'stratagemlaw53.StubbornSafe', WHERE WHAT IT READS IS OF BULK AT MOST 1048576: true; the input reads as it did. -/
def stubbornSafeUptoRow : OpenClaim := { program := "ytgnmjmcjadpmhaa", sum := "0793a6a985803a93c39efb4d60f07518fddfb2e99409c41979ea88d5b5edfb7b", func := "stratagem/stratagemlaw53.StubbornSafe", spec := "stubbornSafe", unfollowed := true, recurses := true, apart := false, narrowed := true }
def StubbornSafeUptoSaid : Prop := stubbornSafeUptoRow.holds Try.pinned (OpenSpec.upto stubbornSafeSpec)

/-- 'stratagemlaw53.StubbornSearches', WHERE WHAT IT READS IS OF BULK AT MOST 1048576: true; the input reads as it did. -/
def stubbornSearchesUptoRow : OpenClaim := { program := "ytgnmjmcjadpmhaa", sum := "0793a6a985803a93c39efb4d60f07518fddfb2e99409c41979ea88d5b5edfb7b", func := "stratagem/stratagemlaw53.StubbornSearches", spec := "stubbornSearches", unfollowed := true, recurses := true, apart := false, narrowed := true }
def StubbornSearchesUptoSaid : Prop := stubbornSearchesUptoRow.holds Try.pinned (OpenSpec.upto stubbornSearchesSpec)

/-- 'stratagemlaw53.StubbornLimits', WHERE WHAT IT READS IS OF BULK AT MOST 1048576: true; the input reads as it did. -/
def stubbornLimitsUptoRow : OpenClaim := { program := "ytgnmjmcjadpmhaa", sum := "0793a6a985803a93c39efb4d60f07518fddfb2e99409c41979ea88d5b5edfb7b", func := "stratagem/stratagemlaw53.StubbornLimits", spec := "stubbornLimits", unfollowed := true, recurses := true, apart := false, narrowed := true }
def StubbornLimitsUptoSaid : Prop := stubbornLimitsUptoRow.holds Try.pinned (OpenSpec.upto stubbornLimitsSpec)

/-- 'stratagemlaw53.StubbornApplicable', WHERE WHAT IT READS IS OF BULK AT MOST 1048576: true; the input reads as it did. -/
def stubbornApplicableUptoRow : OpenClaim := { program := "ytgnmjmcjadpmhaa", sum := "0793a6a985803a93c39efb4d60f07518fddfb2e99409c41979ea88d5b5edfb7b", func := "stratagem/stratagemlaw53.StubbornApplicable", spec := "stubbornApplicable", unfollowed := true, recurses := true, apart := false, narrowed := true }
def StubbornApplicableUptoSaid : Prop := stubbornApplicableUptoRow.holds Try.pinned (OpenSpec.upto stubbornApplicableSpec)

/-- 'stratagemlaw53.StubbornInterferes', WHERE WHAT IT READS IS OF BULK AT MOST 1048576: true; the input reads as it did. -/
def stubbornInterferesUptoRow : OpenClaim := { program := "ytgnmjmcjadpmhaa", sum := "0793a6a985803a93c39efb4d60f07518fddfb2e99409c41979ea88d5b5edfb7b", func := "stratagem/stratagemlaw53.StubbornInterferes", spec := "stubbornInterferes", unfollowed := true, recurses := true, apart := false, narrowed := true }
def StubbornInterferesUptoSaid : Prop := stubbornInterferesUptoRow.holds Try.pinned (OpenSpec.upto stubbornInterferesSpec)

/-- 'stratagemlaw53.StubbornCommutes', WHERE WHAT IT READS IS OF BULK AT MOST 1048576: true; the input reads as it did. -/
def stubbornCommutesUptoRow : OpenClaim := { program := "ytgnmjmcjadpmhaa", sum := "0793a6a985803a93c39efb4d60f07518fddfb2e99409c41979ea88d5b5edfb7b", func := "stratagem/stratagemlaw53.StubbornCommutes", spec := "stubbornCommutes", unfollowed := true, recurses := true, apart := false, narrowed := true }
def StubbornCommutesUptoSaid : Prop := stubbornCommutesUptoRow.holds Try.pinned (OpenSpec.upto stubbornCommutesSpec)

end Rows
end Go.Proofs.Ytgnmjmcjadpmhaa

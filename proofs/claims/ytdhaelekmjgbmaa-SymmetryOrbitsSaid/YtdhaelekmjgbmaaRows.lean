/-
  No cell of these rows narrows 'for every input' (looked for: loops, veiled, ifaces, maps, wideKeys, modest, calm, conditions, laid).
  DERIVED. THE GIVEN ROWS OF THIS SEAT. 6 by the template 'for every input the law returns true; each argument reads behind the call as it read before'; 0 by the template 'total and deterministic' (their statements: YtdhaelekmjgbmaaTotals.lean).
  GIVEN WITH THE SEED: the statements are not yours to turn. If you find one false, say at which input.
  Laid BY PROGRAM, IN A SANDBOX (cutbox-rows.mjs): the forced cells as the released guide's own fill.sh prints them over the translation 9e9b49311616be47… (all of the seat's roots in one cut). By AI agents, Wed Nov 11 2026. No macro, syntax, notation, axiom, sorry.
-/
import Derived.Test.YtdhaelekmjgbmaaChecked
import GoSem.Claim
import GoSem.ClaimJoined
import GoSem.ClaimMapViews
import Derived.JoinedTies
import Derived.KernelRfl
namespace Go.Proofs.Ytdhaelekmjgbmaa
/- THE CELL 'sum', in the pinned program and in every row, IS THE sha256 OF THE DUMP (.gsa) THAT YtdhaelekmjgbmaaProg.lean LOADS. Nothing in Lean hashes anything: it is a label: what it is worth is what the hold of that sum in a sandbox is worth. -/
noncomputable def Try.pinned : Pinned := { name := "ytdhaelekmjgbmaa", sum := "9e9b49311616be479c41f056522e27858a7528a31397d4d02609d7037f94e387", checked := Try.checked }
namespace Rows
def none {H : Type} : Left H := { results := [], args := [] }

/-- 'stratagemlaw51.SymmetryChecks': WHATEVER THE INPUT: true; the input reads as it did. -/
def symmetryChecksSpec : ChangeSpec := { name := "symmetryChecks", fn := fun _ => fun
  | [d1, d2] => { results := [.lit (.bool true)], args := [d1, d2] }
  | _ => none }
def symmetryChecksRow : OpenClaim := { program := "ytdhaelekmjgbmaa", sum := "9e9b49311616be479c41f056522e27858a7528a31397d4d02609d7037f94e387", func := "stratagem/stratagemlaw51.SymmetryChecks", spec := "symmetryChecks", unfollowed := true, recurses := true, apart := false }
def SymmetryChecksSaid : Prop := symmetryChecksRow.holds Try.pinned (OpenSpec.ofChange symmetryChecksSpec)

/-- ITS FALSE NEIGHBOUR: 'it returns false'. Refute it at one input. -/
def symmetryChecksWrong : ChangeSpec := { name := "symmetryChecks", fn := fun _ => fun
  | [d1, d2] => { results := [.lit (.bool false)], args := [d1, d2] }
  | _ => none }
def SymmetryChecksWrongFalsely : Prop := symmetryChecksRow.holds Try.pinned (OpenSpec.ofChange symmetryChecksWrong)

/-- 'stratagemlaw51.SymmetryMaps': WHATEVER THE INPUT: true; the input reads as it did. -/
def symmetryMapsSpec : ChangeSpec := { name := "symmetryMaps", fn := fun _ => fun
  | [d1, d2, d3] => { results := [.lit (.bool true)], args := [d1, d2, d3] }
  | _ => none }
def symmetryMapsRow : OpenClaim := { program := "ytdhaelekmjgbmaa", sum := "9e9b49311616be479c41f056522e27858a7528a31397d4d02609d7037f94e387", func := "stratagem/stratagemlaw51.SymmetryMaps", spec := "symmetryMaps", unfollowed := true, recurses := true, apart := false }
def SymmetryMapsSaid : Prop := symmetryMapsRow.holds Try.pinned (OpenSpec.ofChange symmetryMapsSpec)

/-- ITS FALSE NEIGHBOUR: 'it returns false'. Refute it at one input. -/
def symmetryMapsWrong : ChangeSpec := { name := "symmetryMaps", fn := fun _ => fun
  | [d1, d2, d3] => { results := [.lit (.bool false)], args := [d1, d2, d3] }
  | _ => none }
def SymmetryMapsWrongFalsely : Prop := symmetryMapsRow.holds Try.pinned (OpenSpec.ofChange symmetryMapsWrong)

/-- 'stratagemlaw51.SymmetryGroup': WHATEVER THE INPUT: true; the input reads as it did. -/
def symmetryGroupSpec : ChangeSpec := { name := "symmetryGroup", fn := fun _ => fun
  | [d1, d2, d3] => { results := [.lit (.bool true)], args := [d1, d2, d3] }
  | _ => none }
def symmetryGroupRow : OpenClaim := { program := "ytdhaelekmjgbmaa", sum := "9e9b49311616be479c41f056522e27858a7528a31397d4d02609d7037f94e387", func := "stratagem/stratagemlaw51.SymmetryGroup", spec := "symmetryGroup", unfollowed := true, recurses := true, apart := false }
def SymmetryGroupSaid : Prop := symmetryGroupRow.holds Try.pinned (OpenSpec.ofChange symmetryGroupSpec)

/-- ITS FALSE NEIGHBOUR: 'it returns false'. Refute it at one input. -/
def symmetryGroupWrong : ChangeSpec := { name := "symmetryGroup", fn := fun _ => fun
  | [d1, d2, d3] => { results := [.lit (.bool false)], args := [d1, d2, d3] }
  | _ => none }
def SymmetryGroupWrongFalsely : Prop := symmetryGroupRow.holds Try.pinned (OpenSpec.ofChange symmetryGroupWrong)

/-- 'stratagemlaw51.SymmetryCanonical': WHATEVER THE INPUT: true; the input reads as it did. -/
def symmetryCanonicalSpec : ChangeSpec := { name := "symmetryCanonical", fn := fun _ => fun
  | [d1, d2] => { results := [.lit (.bool true)], args := [d1, d2] }
  | _ => none }
def symmetryCanonicalRow : OpenClaim := { program := "ytdhaelekmjgbmaa", sum := "9e9b49311616be479c41f056522e27858a7528a31397d4d02609d7037f94e387", func := "stratagem/stratagemlaw51.SymmetryCanonical", spec := "symmetryCanonical", unfollowed := true, recurses := true, apart := false }
def SymmetryCanonicalSaid : Prop := symmetryCanonicalRow.holds Try.pinned (OpenSpec.ofChange symmetryCanonicalSpec)

/-- ITS FALSE NEIGHBOUR: 'it returns false'. Refute it at one input. -/
def symmetryCanonicalWrong : ChangeSpec := { name := "symmetryCanonical", fn := fun _ => fun
  | [d1, d2] => { results := [.lit (.bool false)], args := [d1, d2] }
  | _ => none }
def SymmetryCanonicalWrongFalsely : Prop := symmetryCanonicalRow.holds Try.pinned (OpenSpec.ofChange symmetryCanonicalWrong)

/-- 'stratagemlaw51.SymmetryOrbits': WHATEVER THE INPUT: true; the input reads as it did. -/
def symmetryOrbitsSpec : ChangeSpec := { name := "symmetryOrbits", fn := fun _ => fun
  | [d] => { results := [.lit (.bool true)], args := [d] }
  | _ => none }
def symmetryOrbitsRow : OpenClaim := { program := "ytdhaelekmjgbmaa", sum := "9e9b49311616be479c41f056522e27858a7528a31397d4d02609d7037f94e387", func := "stratagem/stratagemlaw51.SymmetryOrbits", spec := "symmetryOrbits", unfollowed := true, recurses := true, apart := false }
def SymmetryOrbitsSaid : Prop := symmetryOrbitsRow.holds Try.pinned (OpenSpec.ofChange symmetryOrbitsSpec)

/-- ITS FALSE NEIGHBOUR: 'it returns false'. Refute it at one input. -/
def symmetryOrbitsWrong : ChangeSpec := { name := "symmetryOrbits", fn := fun _ => fun
  | [d] => { results := [.lit (.bool false)], args := [d] }
  | _ => none }
def SymmetryOrbitsWrongFalsely : Prop := symmetryOrbitsRow.holds Try.pinned (OpenSpec.ofChange symmetryOrbitsWrong)

/-- 'stratagemlaw51.SymmetryKeeps': WHATEVER THE INPUT: true; the input reads as it did. -/
def symmetryKeepsSpec : ChangeSpec := { name := "symmetryKeeps", fn := fun _ => fun
  | [d1, d2, d3] => { results := [.lit (.bool true)], args := [d1, d2, d3] }
  | _ => none }
def symmetryKeepsRow : OpenClaim := { program := "ytdhaelekmjgbmaa", sum := "9e9b49311616be479c41f056522e27858a7528a31397d4d02609d7037f94e387", func := "stratagem/stratagemlaw51.SymmetryKeeps", spec := "symmetryKeeps", unfollowed := true, recurses := true, apart := false }
def SymmetryKeepsSaid : Prop := symmetryKeepsRow.holds Try.pinned (OpenSpec.ofChange symmetryKeepsSpec)

/-- ITS FALSE NEIGHBOUR: 'it returns false'. Refute it at one input. -/
def symmetryKeepsWrong : ChangeSpec := { name := "symmetryKeeps", fn := fun _ => fun
  | [d1, d2, d3] => { results := [.lit (.bool false)], args := [d1, d2, d3] }
  | _ => none }
def SymmetryKeepsWrongFalsely : Prop := symmetryKeepsRow.holds Try.pinned (OpenSpec.ofChange symmetryKeepsWrong)

/- THE SECOND FORM. 'bulk': how many values and letters a reading holds, each counted each time it is reached (what is shared counts as often as it is met; a slice's spare places count too). A statement '..UptoSaid' is the law's where the arguments, and the package variables that the reading takes, are together of bulk at most 1048576: NARROWER than '..Said'. Prove '..Said' where nothing that the law and all that it calls make is longer than what came in: it says more and counts as full. Else prove '..UptoSaid'. A law counts once. -/
mutual
def uptoBulk {H : Type} : DataW H → Nat
  | .lit (.string bytes) => bytes.length + 1
  | .lit _ => 1
  | .nil => 1
  | .ptr d => uptoBulk d + 1
  | .slice elems spare => uptoBulkAll elems + uptoBulkAll spare + 1
  | .agg parts => uptoBulkAll parts + 1
  | .iface _ d => uptoBulk d + 1
  | .map entries => uptoBulkEntries entries + 1
  | .held _ => 1
def uptoBulkAll {H : Type} : List (DataW H) → Nat
  | [] => 0
  | d :: r => uptoBulk d + uptoBulkAll r
def uptoBulkEntries {H : Type} : List (Lit × DataW H) → Nat
  | [] => 0
  | x :: r => uptoBulkEntry x + uptoBulkEntries r
def uptoBulkEntry {H : Type} : Lit × DataW H → Nat
  | (.string bytes, d) => bytes.length + uptoBulk d + 1
  | (_, d) => uptoBulk d + 1
 end
def uptoSmall : (H : Type) → List (DataW H) → Bool := fun _ ds => decide (uptoBulkAll ds ≤ 1048576)
def OpenSpec.upto (s : _root_.Go.ChangeSpec) : _root_.Go.OpenSpec := { _root_.Go.OpenSpec.ofChange s with cond := some uptoSmall }

/-- 'stratagemlaw51.SymmetryChecks', WHERE WHAT IT READS IS OF BULK AT MOST 1048576: true; the input reads as it did. -/
def symmetryChecksUptoRow : OpenClaim := { program := "ytdhaelekmjgbmaa", sum := "9e9b49311616be479c41f056522e27858a7528a31397d4d02609d7037f94e387", func := "stratagem/stratagemlaw51.SymmetryChecks", spec := "symmetryChecks", unfollowed := true, recurses := true, apart := false, narrowed := true }
def SymmetryChecksUptoSaid : Prop := symmetryChecksUptoRow.holds Try.pinned (OpenSpec.upto symmetryChecksSpec)

/-- 'stratagemlaw51.SymmetryMaps', WHERE WHAT IT READS IS OF BULK AT MOST 1048576: true; the input reads as it did. -/
def symmetryMapsUptoRow : OpenClaim := { program := "ytdhaelekmjgbmaa", sum := "9e9b49311616be479c41f056522e27858a7528a31397d4d02609d7037f94e387", func := "stratagem/stratagemlaw51.SymmetryMaps", spec := "symmetryMaps", unfollowed := true, recurses := true, apart := false, narrowed := true }
def SymmetryMapsUptoSaid : Prop := symmetryMapsUptoRow.holds Try.pinned (OpenSpec.upto symmetryMapsSpec)

/-- 'stratagemlaw51.SymmetryGroup', WHERE WHAT IT READS IS OF BULK AT MOST 1048576: true; the input reads as it did. -/
def symmetryGroupUptoRow : OpenClaim := { program := "ytdhaelekmjgbmaa", sum := "9e9b49311616be479c41f056522e27858a7528a31397d4d02609d7037f94e387", func := "stratagem/stratagemlaw51.SymmetryGroup", spec := "symmetryGroup", unfollowed := true, recurses := true, apart := false, narrowed := true }
def SymmetryGroupUptoSaid : Prop := symmetryGroupUptoRow.holds Try.pinned (OpenSpec.upto symmetryGroupSpec)

/-- 'stratagemlaw51.SymmetryCanonical', WHERE WHAT IT READS IS OF BULK AT MOST 1048576: true; the input reads as it did. -/
def symmetryCanonicalUptoRow : OpenClaim := { program := "ytdhaelekmjgbmaa", sum := "9e9b49311616be479c41f056522e27858a7528a31397d4d02609d7037f94e387", func := "stratagem/stratagemlaw51.SymmetryCanonical", spec := "symmetryCanonical", unfollowed := true, recurses := true, apart := false, narrowed := true }
def SymmetryCanonicalUptoSaid : Prop := symmetryCanonicalUptoRow.holds Try.pinned (OpenSpec.upto symmetryCanonicalSpec)

/-- 'stratagemlaw51.SymmetryOrbits', WHERE WHAT IT READS IS OF BULK AT MOST 1048576: true; the input reads as it did. -/
def symmetryOrbitsUptoRow : OpenClaim := { program := "ytdhaelekmjgbmaa", sum := "9e9b49311616be479c41f056522e27858a7528a31397d4d02609d7037f94e387", func := "stratagem/stratagemlaw51.SymmetryOrbits", spec := "symmetryOrbits", unfollowed := true, recurses := true, apart := false, narrowed := true }
def SymmetryOrbitsUptoSaid : Prop := symmetryOrbitsUptoRow.holds Try.pinned (OpenSpec.upto symmetryOrbitsSpec)

/-- 'stratagemlaw51.SymmetryKeeps', WHERE WHAT IT READS IS OF BULK AT MOST 1048576: true; the input reads as it did. -/
def symmetryKeepsUptoRow : OpenClaim := { program := "ytdhaelekmjgbmaa", sum := "9e9b49311616be479c41f056522e27858a7528a31397d4d02609d7037f94e387", func := "stratagem/stratagemlaw51.SymmetryKeeps", spec := "symmetryKeeps", unfollowed := true, recurses := true, apart := false, narrowed := true }
def SymmetryKeepsUptoSaid : Prop := symmetryKeepsUptoRow.holds Try.pinned (OpenSpec.upto symmetryKeepsSpec)

end Rows
end Go.Proofs.Ytdhaelekmjgbmaa

/-
  No cell of these rows narrows 'for every input' (looked for: loops, veiled, ifaces, maps, wideKeys, modest, calm, conditions, laid).
  DERIVED. THE GIVEN ROWS OF THIS SEAT. 8 by the template 'for every input the law returns true; each argument reads behind the call as it read before'; 0 by the template 'total and deterministic' (their statements: YtfbcjknlihopcaaTotals.lean).
  GIVEN WITH THE SEED: the statements are not yours to turn. If you find one false, say at which input.
  Laid BY PROGRAM, IN A SANDBOX (cutbox-rows.mjs): the forced cells as the released guide's own fill.sh prints them over the translation bdb8bff7b1b54f71… (all of the seat's roots in one cut). By AI agents, Wed Nov 11 2026. No macro, syntax, notation, axiom, sorry.
-/
import Derived.Test.YtfbcjknlihopcaaChecked
import GoSem.Claim
import GoSem.ClaimJoined
import GoSem.ClaimMapViews
import Derived.JoinedTies
import Derived.KernelRfl
namespace Go.Proofs.Ytfbcjknlihopcaa
/- THE CELL 'sum', in the pinned program and in every row, IS THE sha256 OF THE DUMP (.gsa) THAT YtfbcjknlihopcaaProg.lean LOADS. Nothing in Lean hashes anything: it is a label: what it is worth is what the hold of that sum in a sandbox is worth. -/
noncomputable def Try.pinned : Pinned := { name := "ytfbcjknlihopcaa", sum := "bdb8bff7b1b54f7119d4ad1c8916c3549be63ef89771ea047d60a30dc9ffba6b", checked := Try.checked }
namespace Rows
def none {H : Type} : Left H := { results := [], args := [] }

/-- 'stratagemlaw24.SuccgenNarrows': WHATEVER THE INPUT: true; the input reads as it did. -/
def succgenNarrowsSpec : ChangeSpec := { name := "succgenNarrows", fn := fun _ => fun
  | [d1, d2, d3] => { results := [.lit (.bool true)], args := [d1, d2, d3] }
  | _ => none }
def succgenNarrowsRow : OpenClaim := { program := "ytfbcjknlihopcaa", sum := "bdb8bff7b1b54f7119d4ad1c8916c3549be63ef89771ea047d60a30dc9ffba6b", func := "stratagem/stratagemlaw24.SuccgenNarrows", spec := "succgenNarrows", unfollowed := true, recurses := true, apart := false }
def SuccgenNarrowsSaid : Prop := succgenNarrowsRow.holds Try.pinned (OpenSpec.ofChange succgenNarrowsSpec)

/-- ITS FALSE NEIGHBOUR: 'it returns false'. Refute it at one input. -/
def succgenNarrowsWrong : ChangeSpec := { name := "succgenNarrows", fn := fun _ => fun
  | [d1, d2, d3] => { results := [.lit (.bool false)], args := [d1, d2, d3] }
  | _ => none }
def SuccgenNarrowsWrongFalsely : Prop := succgenNarrowsRow.holds Try.pinned (OpenSpec.ofChange succgenNarrowsWrong)

/-- 'stratagemlaw24.SuccgenFinds': WHATEVER THE INPUT: true; the input reads as it did. -/
def succgenFindsSpec : ChangeSpec := { name := "succgenFinds", fn := fun _ => fun
  | [d] => { results := [.lit (.bool true)], args := [d] }
  | _ => none }
def succgenFindsRow : OpenClaim := { program := "ytfbcjknlihopcaa", sum := "bdb8bff7b1b54f7119d4ad1c8916c3549be63ef89771ea047d60a30dc9ffba6b", func := "stratagem/stratagemlaw24.SuccgenFinds", spec := "succgenFinds", unfollowed := true, recurses := true, apart := false }
def SuccgenFindsSaid : Prop := succgenFindsRow.holds Try.pinned (OpenSpec.ofChange succgenFindsSpec)

/-- ITS FALSE NEIGHBOUR: 'it returns false'. Refute it at one input. -/
def succgenFindsWrong : ChangeSpec := { name := "succgenFinds", fn := fun _ => fun
  | [d] => { results := [.lit (.bool false)], args := [d] }
  | _ => none }
def SuccgenFindsWrongFalsely : Prop := succgenFindsRow.holds Try.pinned (OpenSpec.ofChange succgenFindsWrong)

/-- 'stratagemlaw24.SuccgenOrders': WHATEVER THE INPUT: true; the input reads as it did. -/
def succgenOrdersSpec : ChangeSpec := { name := "succgenOrders", fn := fun _ => fun
  | [d1, d2] => { results := [.lit (.bool true)], args := [d1, d2] }
  | _ => none }
def succgenOrdersRow : OpenClaim := { program := "ytfbcjknlihopcaa", sum := "bdb8bff7b1b54f7119d4ad1c8916c3549be63ef89771ea047d60a30dc9ffba6b", func := "stratagem/stratagemlaw24.SuccgenOrders", spec := "succgenOrders", unfollowed := true, recurses := true, apart := false }
def SuccgenOrdersSaid : Prop := succgenOrdersRow.holds Try.pinned (OpenSpec.ofChange succgenOrdersSpec)

/-- ITS FALSE NEIGHBOUR: 'it returns false'. Refute it at one input. -/
def succgenOrdersWrong : ChangeSpec := { name := "succgenOrders", fn := fun _ => fun
  | [d1, d2] => { results := [.lit (.bool false)], args := [d1, d2] }
  | _ => none }
def SuccgenOrdersWrongFalsely : Prop := succgenOrdersRow.holds Try.pinned (OpenSpec.ofChange succgenOrdersWrong)

/-- 'stratagemlaw24.SuccgenMany': WHATEVER THE INPUT: true; the input reads as it did. -/
def succgenManySpec : ChangeSpec := { name := "succgenMany", fn := fun _ => fun
  | [d1, d2, d3] => { results := [.lit (.bool true)], args := [d1, d2, d3] }
  | _ => none }
def succgenManyRow : OpenClaim := { program := "ytfbcjknlihopcaa", sum := "bdb8bff7b1b54f7119d4ad1c8916c3549be63ef89771ea047d60a30dc9ffba6b", func := "stratagem/stratagemlaw24.SuccgenMany", spec := "succgenMany", unfollowed := true, recurses := true, apart := false }
def SuccgenManySaid : Prop := succgenManyRow.holds Try.pinned (OpenSpec.ofChange succgenManySpec)

/-- ITS FALSE NEIGHBOUR: 'it returns false'. Refute it at one input. -/
def succgenManyWrong : ChangeSpec := { name := "succgenMany", fn := fun _ => fun
  | [d1, d2, d3] => { results := [.lit (.bool false)], args := [d1, d2, d3] }
  | _ => none }
def SuccgenManyWrongFalsely : Prop := succgenManyRow.holds Try.pinned (OpenSpec.ofChange succgenManyWrong)

/-- 'stratagemlaw24.SuccgenKeeps': WHATEVER THE INPUT: true; the input reads as it did. -/
def succgenKeepsSpec : ChangeSpec := { name := "succgenKeeps", fn := fun _ => fun
  | [d] => { results := [.lit (.bool true)], args := [d] }
  | _ => none }
def succgenKeepsRow : OpenClaim := { program := "ytfbcjknlihopcaa", sum := "bdb8bff7b1b54f7119d4ad1c8916c3549be63ef89771ea047d60a30dc9ffba6b", func := "stratagem/stratagemlaw24.SuccgenKeeps", spec := "succgenKeeps", unfollowed := true, recurses := true, apart := false }
def SuccgenKeepsSaid : Prop := succgenKeepsRow.holds Try.pinned (OpenSpec.ofChange succgenKeepsSpec)

/-- ITS FALSE NEIGHBOUR: 'it returns false'. Refute it at one input. -/
def succgenKeepsWrong : ChangeSpec := { name := "succgenKeeps", fn := fun _ => fun
  | [d] => { results := [.lit (.bool false)], args := [d] }
  | _ => none }
def SuccgenKeepsWrongFalsely : Prop := succgenKeepsRow.holds Try.pinned (OpenSpec.ofChange succgenKeepsWrong)

/-- 'stratagemlaw24.SuccgenTests': WHATEVER THE INPUT: true; the input reads as it did. -/
def succgenTestsSpec : ChangeSpec := { name := "succgenTests", fn := fun _ => fun
  | [d] => { results := [.lit (.bool true)], args := [d] }
  | _ => none }
def succgenTestsRow : OpenClaim := { program := "ytfbcjknlihopcaa", sum := "bdb8bff7b1b54f7119d4ad1c8916c3549be63ef89771ea047d60a30dc9ffba6b", func := "stratagem/stratagemlaw24.SuccgenTests", spec := "succgenTests", unfollowed := true, recurses := true, apart := false }
def SuccgenTestsSaid : Prop := succgenTestsRow.holds Try.pinned (OpenSpec.ofChange succgenTestsSpec)

/-- ITS FALSE NEIGHBOUR: 'it returns false'. Refute it at one input. -/
def succgenTestsWrong : ChangeSpec := { name := "succgenTests", fn := fun _ => fun
  | [d] => { results := [.lit (.bool false)], args := [d] }
  | _ => none }
def SuccgenTestsWrongFalsely : Prop := succgenTestsRow.holds Try.pinned (OpenSpec.ofChange succgenTestsWrong)

/-- 'stratagemlaw24.SuccgenErrors': WHATEVER THE INPUT: true; the input reads as it did. -/
def succgenErrorsSpec : ChangeSpec := { name := "succgenErrors", fn := fun _ => fun
  | [d1, d2] => { results := [.lit (.bool true)], args := [d1, d2] }
  | _ => none }
def succgenErrorsRow : OpenClaim := { program := "ytfbcjknlihopcaa", sum := "bdb8bff7b1b54f7119d4ad1c8916c3549be63ef89771ea047d60a30dc9ffba6b", func := "stratagem/stratagemlaw24.SuccgenErrors", spec := "succgenErrors", unfollowed := true, recurses := true, apart := false }
def SuccgenErrorsSaid : Prop := succgenErrorsRow.holds Try.pinned (OpenSpec.ofChange succgenErrorsSpec)

/-- ITS FALSE NEIGHBOUR: 'it returns false'. Refute it at one input. -/
def succgenErrorsWrong : ChangeSpec := { name := "succgenErrors", fn := fun _ => fun
  | [d1, d2] => { results := [.lit (.bool false)], args := [d1, d2] }
  | _ => none }
def SuccgenErrorsWrongFalsely : Prop := succgenErrorsRow.holds Try.pinned (OpenSpec.ofChange succgenErrorsWrong)

/-- 'stratagemlaw24.SuccgenNil': WHATEVER THE INPUT: true; the input reads as it did. -/
def succgenNilSpec : ChangeSpec := { name := "succgenNil", fn := fun _ => fun
  | [d] => { results := [.lit (.bool true)], args := [d] }
  | _ => none }
def succgenNilRow : OpenClaim := { program := "ytfbcjknlihopcaa", sum := "bdb8bff7b1b54f7119d4ad1c8916c3549be63ef89771ea047d60a30dc9ffba6b", func := "stratagem/stratagemlaw24.SuccgenNil", spec := "succgenNil", unfollowed := true, recurses := true, apart := false }
def SuccgenNilSaid : Prop := succgenNilRow.holds Try.pinned (OpenSpec.ofChange succgenNilSpec)

/-- ITS FALSE NEIGHBOUR: 'it returns false'. Refute it at one input. -/
def succgenNilWrong : ChangeSpec := { name := "succgenNil", fn := fun _ => fun
  | [d] => { results := [.lit (.bool false)], args := [d] }
  | _ => none }
def SuccgenNilWrongFalsely : Prop := succgenNilRow.holds Try.pinned (OpenSpec.ofChange succgenNilWrong)

/- THE SECOND FORM. 'bulk': how many values and letters a reading holds, each counted each time it is reached (what is shared counts as often as it is met; a slice's spare places count too). A statement '..UptoSaid' is the law's where the arguments, and the package variables that the reading takes, are together of bulk at most 1048576: NARROWER than '..Said'. Prove '..Said' where nothing that the law and all that it calls make is longer than what came in: it says more and counts as full. Else prove '..UptoSaid'. A law counts once. -/
mutual
def uptoBulk {H : Type} : DataW H → Nat
  | .lit (.string bytes) => bytes.length + 1
  | .lit _ => 1
  | .nil => 1
  | .ptr d => uptoBulk d + 1
  | .slice elems spare => uptoBulkAll elems + uptoBulkAll spare + 1
  | .agg parts => uptoBulkAll parts + 1
  | .iface _ d => uptoBulk d + 1
  | .map entries => uptoBulkEntries entries + 1
  | .held _ => 1
def uptoBulkAll {H : Type} : List (DataW H) → Nat
  | [] => 0
  | d :: r => uptoBulk d + uptoBulkAll r
def uptoBulkEntries {H : Type} : List (Lit × DataW H) → Nat
  | [] => 0
  | x :: r => uptoBulkEntry x + uptoBulkEntries r
def uptoBulkEntry {H : Type} : Lit × DataW H → Nat
  | (.string bytes, d) => bytes.length + uptoBulk d + 1
  | (_, d) => uptoBulk d + 1
 end
def uptoSmall : (H : Type) → List (DataW H) → Bool := fun _ ds => decide (uptoBulkAll ds ≤ 1048576)
def OpenSpec.upto (s : _root_.Go.ChangeSpec) : _root_.Go.OpenSpec := { _root_.Go.OpenSpec.ofChange s with cond := some uptoSmall }

/-- 'stratagemlaw24.SuccgenNarrows', WHERE WHAT IT READS IS OF BULK AT MOST 1048576: true; the input reads as it did. -/
def succgenNarrowsUptoRow : OpenClaim := { program := "ytfbcjknlihopcaa", sum := "bdb8bff7b1b54f7119d4ad1c8916c3549be63ef89771ea047d60a30dc9ffba6b", func := "stratagem/stratagemlaw24.SuccgenNarrows", spec := "succgenNarrows", unfollowed := true, recurses := true, apart := false, narrowed := true }
def SuccgenNarrowsUptoSaid : Prop := succgenNarrowsUptoRow.holds Try.pinned (OpenSpec.upto succgenNarrowsSpec)

/-- 'stratagemlaw24.SuccgenFinds', WHERE WHAT IT READS IS OF BULK AT MOST 1048576: true; the input reads as it did. -/
def succgenFindsUptoRow : OpenClaim := { program := "ytfbcjknlihopcaa", sum := "bdb8bff7b1b54f7119d4ad1c8916c3549be63ef89771ea047d60a30dc9ffba6b", func := "stratagem/stratagemlaw24.SuccgenFinds", spec := "succgenFinds", unfollowed := true, recurses := true, apart := false, narrowed := true }
def SuccgenFindsUptoSaid : Prop := succgenFindsUptoRow.holds Try.pinned (OpenSpec.upto succgenFindsSpec)

/-- 'stratagemlaw24.SuccgenOrders', WHERE WHAT IT READS IS OF BULK AT MOST 1048576: true; the input reads as it did. -/
def succgenOrdersUptoRow : OpenClaim := { program := "ytfbcjknlihopcaa", sum := "bdb8bff7b1b54f7119d4ad1c8916c3549be63ef89771ea047d60a30dc9ffba6b", func := "stratagem/stratagemlaw24.SuccgenOrders", spec := "succgenOrders", unfollowed := true, recurses := true, apart := false, narrowed := true }
def SuccgenOrdersUptoSaid : Prop := succgenOrdersUptoRow.holds Try.pinned (OpenSpec.upto succgenOrdersSpec)

/-- 'stratagemlaw24.SuccgenMany', WHERE WHAT IT READS IS OF BULK AT MOST 1048576: true; the input reads as it did. -/
def succgenManyUptoRow : OpenClaim := { program := "ytfbcjknlihopcaa", sum := "bdb8bff7b1b54f7119d4ad1c8916c3549be63ef89771ea047d60a30dc9ffba6b", func := "stratagem/stratagemlaw24.SuccgenMany", spec := "succgenMany", unfollowed := true, recurses := true, apart := false, narrowed := true }
def SuccgenManyUptoSaid : Prop := succgenManyUptoRow.holds Try.pinned (OpenSpec.upto succgenManySpec)

/-- 'stratagemlaw24.SuccgenKeeps', WHERE WHAT IT READS IS OF BULK AT MOST 1048576: true; the input reads as it did. -/
def succgenKeepsUptoRow : OpenClaim := { program := "ytfbcjknlihopcaa", sum := "bdb8bff7b1b54f7119d4ad1c8916c3549be63ef89771ea047d60a30dc9ffba6b", func := "stratagem/stratagemlaw24.SuccgenKeeps", spec := "succgenKeeps", unfollowed := true, recurses := true, apart := false, narrowed := true }
def SuccgenKeepsUptoSaid : Prop := succgenKeepsUptoRow.holds Try.pinned (OpenSpec.upto succgenKeepsSpec)

/-- 'stratagemlaw24.SuccgenTests', WHERE WHAT IT READS IS OF BULK AT MOST 1048576: true; the input reads as it did. -/
def succgenTestsUptoRow : OpenClaim := { program := "ytfbcjknlihopcaa", sum := "bdb8bff7b1b54f7119d4ad1c8916c3549be63ef89771ea047d60a30dc9ffba6b", func := "stratagem/stratagemlaw24.SuccgenTests", spec := "succgenTests", unfollowed := true, recurses := true, apart := false, narrowed := true }
def SuccgenTestsUptoSaid : Prop := succgenTestsUptoRow.holds Try.pinned (OpenSpec.upto succgenTestsSpec)

/-- 'stratagemlaw24.SuccgenErrors', WHERE WHAT IT READS IS OF BULK AT MOST 1048576: true; the input reads as it did. -/
def succgenErrorsUptoRow : OpenClaim := { program := "ytfbcjknlihopcaa", sum := "bdb8bff7b1b54f7119d4ad1c8916c3549be63ef89771ea047d60a30dc9ffba6b", func := "stratagem/stratagemlaw24.SuccgenErrors", spec := "succgenErrors", unfollowed := true, recurses := true, apart := false, narrowed := true }
def SuccgenErrorsUptoSaid : Prop := succgenErrorsUptoRow.holds Try.pinned (OpenSpec.upto succgenErrorsSpec)

/-- 'stratagemlaw24.SuccgenNil', WHERE WHAT IT READS IS OF BULK AT MOST 1048576: true; the input reads as it did. -/
def succgenNilUptoRow : OpenClaim := { program := "ytfbcjknlihopcaa", sum := "bdb8bff7b1b54f7119d4ad1c8916c3549be63ef89771ea047d60a30dc9ffba6b", func := "stratagem/stratagemlaw24.SuccgenNil", spec := "succgenNil", unfollowed := true, recurses := true, apart := false, narrowed := true }
def SuccgenNilUptoSaid : Prop := succgenNilUptoRow.holds Try.pinned (OpenSpec.upto succgenNilSpec)

end Rows
end Go.Proofs.Ytfbcjknlihopcaa

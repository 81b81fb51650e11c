/- Own text, written by a program of the prover's (types.py): the seat's array types as instances. -/
import Derived.Test.YtfbcjknlihopcaaMod
import Derived.Test.YtfbcjknlihopcaaTypes
namespace Go.Proofs.Ytfbcjknlihopcaa
open Go Go.RowKit
instance : TArr Try.prog 49 3 5 := ⟨Try.underlying49⟩
instance : TArr Try.prog 123 0 16 := ⟨Try.underlying123⟩
end Go.Proofs.Ytfbcjknlihopcaa

/- Own text, written by a program of the prover's (types.py): the seat's array types as instances. -/
import Derived.Test.YtdhaelekmjgbmaaMod
import Derived.Test.YtdhaelekmjgbmaaTypes
namespace Go.Proofs.Ytdhaelekmjgbmaa
open Go Go.RowKit
instance : TBool Try.prog 4 := ⟨Try.underlying4⟩
instance : TArr Try.prog 160 0 16 := ⟨Try.underlying160⟩
end Go.Proofs.Ytdhaelekmjgbmaa

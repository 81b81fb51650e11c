/- Own text, written by a program of the prover's (types.py): the seat's types and functions as instances of the calculus's classes. -/
import Derived.Test.YtdhaelekmjgbmaaData
import Derived.Test.YtdhaelekmjgbmaaProg
namespace Go.Proofs.Ytdhaelekmjgbmaa
open Go Go.RowKit
theorem tfield {P : Program} {t f off s : Nat} {fs : Array Field} {fd : Field} (h1 : P.underlying t = some (.struct fs)) (h2 : fs[f]? = some fd) (h3 : fd.offset = off) (h4 : (P.info? fd.type).map (·.size) = some s) (h5 : s ≠ 0) :
    ∃ fs fd i, P.underlying t = some (.struct fs) ∧ fs[f]? = some fd ∧ fd.offset = off ∧ P.info? fd.type = some i ∧ i.size ≠ 0 := by
  obtain ⟨i, hi, hs⟩ := Option.map_eq_some_iff.1 h4
  exact ⟨fs, fd, i, h1, h2, h3, hi, by rw [hs]; exact h5⟩
instance : TOne Try.prog 1 := ⟨⟨_, Try.underlying1, rfl⟩⟩
instance : TInt Try.prog 2 .i64 := ⟨Try.underlying2⟩
instance : TOne Try.prog 2 := ⟨⟨_, Try.underlying2, rfl⟩⟩
instance : TInfo Try.prog 2 (.int .i64 0) 1 8 := ⟨info_parts (by kernel_rfl), rfl⟩
instance : TInt Try.prog 3 .i64 := ⟨Try.underlying3⟩
instance : TOne Try.prog 3 := ⟨⟨_, Try.underlying3, rfl⟩⟩
instance : TInfo Try.prog 3 (.int .i64 0) 1 8 := ⟨info_parts (by kernel_rfl), rfl⟩
instance : TOne Try.prog 4 := ⟨⟨_, Try.underlying4, rfl⟩⟩
instance : TInfo Try.prog 4 (.bool false) 1 1 := ⟨info_parts (by kernel_rfl), rfl⟩
instance : TInt Try.prog 5 .u8 := ⟨Try.underlying5⟩
instance : TOne Try.prog 5 := ⟨⟨_, Try.underlying5, rfl⟩⟩
instance : TInfo Try.prog 5 (.int .u8 0) 1 1 := ⟨info_parts (by kernel_rfl), rfl⟩
instance : TInt Try.prog 6 .u8 := ⟨Try.underlying6⟩
instance : TOne Try.prog 6 := ⟨⟨_, Try.underlying6, rfl⟩⟩
instance : TInfo Try.prog 6 (.int .u8 0) 1 1 := ⟨info_parts (by kernel_rfl), rfl⟩
instance : TAgg Try.prog 7 := ⟨⟨_, Try.underlying7, rfl⟩⟩
instance : TInfo Try.prog 7 (.agg #[(.int .i64 0), (.int .i64 0), (.bool false), (.int .u8 0)]) 4 24 := ⟨info_parts (by kernel_rfl), rfl⟩
instance : TPlaces Try.prog 7 [(0, 1), (1, 1), (2, 1), (3, 1)] := ⟨⟨_, Try.underlying7, fun _ => by kernel_rfl⟩⟩
instance : TField Try.prog 7 0 0 := ⟨tfield (s := 1) Try.underlying7 rfl rfl (by kernel_rfl) (by decide)⟩
instance : TField Try.prog 7 1 1 := ⟨tfield (s := 1) Try.underlying7 rfl rfl (by kernel_rfl) (by decide)⟩
instance : TField Try.prog 7 2 2 := ⟨tfield (s := 1) Try.underlying7 rfl rfl (by kernel_rfl) (by decide)⟩
instance : TField Try.prog 7 3 3 := ⟨tfield (s := 1) Try.underlying7 rfl rfl (by kernel_rfl) (by decide)⟩
instance : TAgg Try.prog 8 := ⟨⟨_, Try.underlying8, rfl⟩⟩
instance : TInfo Try.prog 8 (.agg #[(.int .i64 0), (.int .i64 0), (.bool false), (.int .u8 0)]) 4 24 := ⟨info_parts (by kernel_rfl), rfl⟩
instance : TPlaces Try.prog 8 [(0, 1), (1, 1), (2, 1), (3, 1)] := ⟨⟨_, Try.underlying8, fun _ => by kernel_rfl⟩⟩
instance : TField Try.prog 8 0 0 := ⟨tfield (s := 1) Try.underlying8 rfl rfl (by kernel_rfl) (by decide)⟩
instance : TField Try.prog 8 1 1 := ⟨tfield (s := 1) Try.underlying8 rfl rfl (by kernel_rfl) (by decide)⟩
instance : TField Try.prog 8 2 2 := ⟨tfield (s := 1) Try.underlying8 rfl rfl (by kernel_rfl) (by decide)⟩
instance : TField Try.prog 8 3 3 := ⟨tfield (s := 1) Try.underlying8 rfl rfl (by kernel_rfl) (by decide)⟩
instance : TStr Try.prog 9 := ⟨Try.underlying9⟩
instance : TOne Try.prog 9 := ⟨⟨_, Try.underlying9, rfl⟩⟩
instance : TInfo Try.prog 9 (.string (ByteArray.mk #[])) 1 16 := ⟨info_parts (by kernel_rfl), rfl⟩
instance : TStr Try.prog 10 := ⟨Try.underlying10⟩
instance : TOne Try.prog 10 := ⟨⟨_, Try.underlying10, rfl⟩⟩
instance : TInfo Try.prog 10 (.string (ByteArray.mk #[])) 1 16 := ⟨info_parts (by kernel_rfl), rfl⟩
instance : TStr Try.prog 11 := ⟨Try.underlying11⟩
instance : TOne Try.prog 11 := ⟨⟨_, Try.underlying11, rfl⟩⟩
instance : TInfo Try.prog 11 (.string (ByteArray.mk #[])) 1 16 := ⟨info_parts (by kernel_rfl), rfl⟩
instance : TInt Try.prog 12 .u64 := ⟨Try.underlying12⟩
instance : TOne Try.prog 12 := ⟨⟨_, Try.underlying12, rfl⟩⟩
instance : TInfo Try.prog 12 (.int .u64 0) 1 8 := ⟨info_parts (by kernel_rfl), rfl⟩
instance : TAgg Try.prog 13 := ⟨⟨_, Try.underlying13, rfl⟩⟩
instance : TInfo Try.prog 13 (.agg #[(.string (ByteArray.mk #[])), (.int .u64 0)]) 2 24 := ⟨info_parts (by kernel_rfl), rfl⟩
instance : TPlaces Try.prog 13 [(0, 1), (1, 1)] := ⟨⟨_, Try.underlying13, fun _ => by kernel_rfl⟩⟩
instance : TField Try.prog 13 0 0 := ⟨tfield (s := 1) Try.underlying13 rfl rfl (by kernel_rfl) (by decide)⟩
instance : TField Try.prog 13 1 1 := ⟨tfield (s := 1) Try.underlying13 rfl rfl (by kernel_rfl) (by decide)⟩
instance : TAgg Try.prog 14 := ⟨⟨_, Try.underlying14, rfl⟩⟩
instance : TInfo Try.prog 14 (.agg #[(.string (ByteArray.mk #[])), (.int .u64 0)]) 2 24 := ⟨info_parts (by kernel_rfl), rfl⟩
instance : TPlaces Try.prog 14 [(0, 1), (1, 1)] := ⟨⟨_, Try.underlying14, fun _ => by kernel_rfl⟩⟩
instance : TField Try.prog 14 0 0 := ⟨tfield (s := 1) Try.underlying14 rfl rfl (by kernel_rfl) (by decide)⟩
instance : TField Try.prog 14 1 1 := ⟨tfield (s := 1) Try.underlying14 rfl rfl (by kernel_rfl) (by decide)⟩
instance : TPtr Try.prog 15 159 := ⟨Try.underlying15⟩
instance : TOne Try.prog 15 := ⟨⟨_, Try.underlying15, rfl⟩⟩
instance : TInfo Try.prog 15 (.pointer none) 1 8 := ⟨info_parts (by kernel_rfl), rfl⟩
instance : TPtr Try.prog 16 162 := ⟨Try.underlying16⟩
instance : TOne Try.prog 16 := ⟨⟨_, Try.underlying16, rfl⟩⟩
instance : TInfo Try.prog 16 (.pointer none) 1 8 := ⟨info_parts (by kernel_rfl), rfl⟩
instance : TPtr Try.prog 17 171 := ⟨Try.underlying17⟩
instance : TOne Try.prog 17 := ⟨⟨_, Try.underlying17, rfl⟩⟩
instance : TInfo Try.prog 17 (.pointer none) 1 8 := ⟨info_parts (by kernel_rfl), rfl⟩
instance : TAgg Try.prog 18 := ⟨⟨_, Try.underlying18, rfl⟩⟩
instance : TInfo Try.prog 18 (.agg #[(.pointer none)]) 1 8 := ⟨info_parts (by kernel_rfl), rfl⟩
instance : TPlaces Try.prog 18 [(0, 1)] := ⟨⟨_, Try.underlying18, fun _ => by kernel_rfl⟩⟩
instance : TField Try.prog 18 0 0 := ⟨tfield (s := 1) Try.underlying18 rfl rfl (by kernel_rfl) (by decide)⟩
instance : TAgg Try.prog 19 := ⟨⟨_, Try.underlying19, rfl⟩⟩
instance : TInfo Try.prog 19 (.agg #[(.pointer none)]) 1 8 := ⟨info_parts (by kernel_rfl), rfl⟩
instance : TPlaces Try.prog 19 [(0, 1)] := ⟨⟨_, Try.underlying19, fun _ => by kernel_rfl⟩⟩
instance : TField Try.prog 19 0 0 := ⟨tfield (s := 1) Try.underlying19 rfl rfl (by kernel_rfl) (by decide)⟩
instance : TIface Try.prog 20 := ⟨⟨_, Try.underlying20⟩⟩
instance : TOne Try.prog 20 := ⟨⟨_, Try.underlying20, rfl⟩⟩
instance : TInfo Try.prog 20 .nilIface 1 16 := ⟨info_parts (by kernel_rfl), rfl⟩
instance : TInt Try.prog 21 .i32 := ⟨Try.underlying21⟩
instance : TOne Try.prog 21 := ⟨⟨_, Try.underlying21, rfl⟩⟩
instance : TInfo Try.prog 21 (.int .i32 0) 1 4 := ⟨info_parts (by kernel_rfl), rfl⟩
instance : TSlice Try.prog 22 3 := ⟨Try.underlying22⟩
instance : TOne Try.prog 22 := ⟨⟨_, Try.underlying22, rfl⟩⟩
instance : TInfo Try.prog 22 (.slice none 0 0) 1 24 := ⟨info_parts (by kernel_rfl), rfl⟩
instance : TSlice Try.prog 23 103 := ⟨Try.underlying23⟩
instance : TOne Try.prog 23 := ⟨⟨_, Try.underlying23, rfl⟩⟩
instance : TInfo Try.prog 23 (.slice none 0 0) 1 24 := ⟨info_parts (by kernel_rfl), rfl⟩
instance : TSlice Try.prog 24 77 := ⟨Try.underlying24⟩
instance : TOne Try.prog 24 := ⟨⟨_, Try.underlying24, rfl⟩⟩
instance : TInfo Try.prog 24 (.slice none 0 0) 1 24 := ⟨info_parts (by kernel_rfl), rfl⟩
instance : TAgg Try.prog 25 := ⟨⟨_, Try.underlying25, rfl⟩⟩
instance : TInfo Try.prog 25 (.agg #[(.slice none 0 0), (.slice none 0 0), (.slice none 0 0), (.slice none 0 0)]) 4 96 := ⟨info_parts (by kernel_rfl), rfl⟩
instance : TPlaces Try.prog 25 [(0, 1), (1, 1), (2, 1), (3, 1)] := ⟨⟨_, Try.underlying25, fun _ => by kernel_rfl⟩⟩
instance : TField Try.prog 25 0 0 := ⟨tfield (s := 1) Try.underlying25 rfl rfl (by kernel_rfl) (by decide)⟩
instance : TField Try.prog 25 1 1 := ⟨tfield (s := 1) Try.underlying25 rfl rfl (by kernel_rfl) (by decide)⟩
instance : TField Try.prog 25 2 2 := ⟨tfield (s := 1) Try.underlying25 rfl rfl (by kernel_rfl) (by decide)⟩
instance : TField Try.prog 25 3 3 := ⟨tfield (s := 1) Try.underlying25 rfl rfl (by kernel_rfl) (by decide)⟩
instance : TAgg Try.prog 26 := ⟨⟨_, Try.underlying26, rfl⟩⟩
instance : TInfo Try.prog 26 (.agg #[(.slice none 0 0), (.slice none 0 0), (.slice none 0 0), (.slice none 0 0)]) 4 96 := ⟨info_parts (by kernel_rfl), rfl⟩
instance : TPlaces Try.prog 26 [(0, 1), (1, 1), (2, 1), (3, 1)] := ⟨⟨_, Try.underlying26, fun _ => by kernel_rfl⟩⟩
instance : TField Try.prog 26 0 0 := ⟨tfield (s := 1) Try.underlying26 rfl rfl (by kernel_rfl) (by decide)⟩
instance : TField Try.prog 26 1 1 := ⟨tfield (s := 1) Try.underlying26 rfl rfl (by kernel_rfl) (by decide)⟩
instance : TField Try.prog 26 2 2 := ⟨tfield (s := 1) Try.underlying26 rfl rfl (by kernel_rfl) (by decide)⟩
instance : TField Try.prog 26 3 3 := ⟨tfield (s := 1) Try.underlying26 rfl rfl (by kernel_rfl) (by decide)⟩
instance : TSlice Try.prog 27 22 := ⟨Try.underlying27⟩
instance : TOne Try.prog 27 := ⟨⟨_, Try.underlying27, rfl⟩⟩
instance : TInfo Try.prog 27 (.slice none 0 0) 1 24 := ⟨info_parts (by kernel_rfl), rfl⟩
instance : TAgg Try.prog 28 := ⟨⟨_, Try.underlying28, rfl⟩⟩
instance : TInfo Try.prog 28 (.agg #[(.slice none 0 0), (.slice none 0 0), (.slice none 0 0)]) 3 72 := ⟨info_parts (by kernel_rfl), rfl⟩
instance : TPlaces Try.prog 28 [(0, 1), (1, 1), (2, 1)] := ⟨⟨_, Try.underlying28, fun _ => by kernel_rfl⟩⟩
instance : TField Try.prog 28 0 0 := ⟨tfield (s := 1) Try.underlying28 rfl rfl (by kernel_rfl) (by decide)⟩
instance : TField Try.prog 28 1 1 := ⟨tfield (s := 1) Try.underlying28 rfl rfl (by kernel_rfl) (by decide)⟩
instance : TField Try.prog 28 2 2 := ⟨tfield (s := 1) Try.underlying28 rfl rfl (by kernel_rfl) (by decide)⟩
instance : TAgg Try.prog 29 := ⟨⟨_, Try.underlying29, rfl⟩⟩
instance : TInfo Try.prog 29 (.agg #[(.slice none 0 0), (.slice none 0 0), (.slice none 0 0)]) 3 72 := ⟨info_parts (by kernel_rfl), rfl⟩
instance : TPlaces Try.prog 29 [(0, 1), (1, 1), (2, 1)] := ⟨⟨_, Try.underlying29, fun _ => by kernel_rfl⟩⟩
instance : TField Try.prog 29 0 0 := ⟨tfield (s := 1) Try.underlying29 rfl rfl (by kernel_rfl) (by decide)⟩
instance : TField Try.prog 29 1 1 := ⟨tfield (s := 1) Try.underlying29 rfl rfl (by kernel_rfl) (by decide)⟩
instance : TField Try.prog 29 2 2 := ⟨tfield (s := 1) Try.underlying29 rfl rfl (by kernel_rfl) (by decide)⟩
instance : TOne Try.prog 30 := ⟨⟨_, Try.underlying30, rfl⟩⟩
instance : TOne Try.prog 31 := ⟨⟨_, Try.underlying31, rfl⟩⟩
instance : TOne Try.prog 32 := ⟨⟨_, Try.underlying32, rfl⟩⟩
instance : TIface Try.prog 33 := ⟨⟨_, Try.underlying33⟩⟩
instance : TOne Try.prog 33 := ⟨⟨_, Try.underlying33, rfl⟩⟩
instance : TInfo Try.prog 33 .nilIface 1 16 := ⟨info_parts (by kernel_rfl), rfl⟩
instance : TIface Try.prog 34 := ⟨⟨_, Try.underlying34⟩⟩
instance : TOne Try.prog 34 := ⟨⟨_, Try.underlying34, rfl⟩⟩
instance : TInfo Try.prog 34 .nilIface 1 16 := ⟨info_parts (by kernel_rfl), rfl⟩
instance : TOne Try.prog 36 := ⟨⟨_, Try.underlying36, rfl⟩⟩
instance : TOne Try.prog 37 := ⟨⟨_, Try.underlying37, rfl⟩⟩
instance : TOne Try.prog 38 := ⟨⟨_, Try.underlying38, rfl⟩⟩
instance : TOne Try.prog 39 := ⟨⟨_, Try.underlying39, rfl⟩⟩
instance : TInt Try.prog 40 .i64 := ⟨Try.underlying40⟩
instance : TOne Try.prog 40 := ⟨⟨_, Try.underlying40, rfl⟩⟩
instance : TInfo Try.prog 40 (.int .i64 0) 1 8 := ⟨info_parts (by kernel_rfl), rfl⟩
instance : TOne Try.prog 41 := ⟨⟨_, Try.underlying41, rfl⟩⟩
instance : TOne Try.prog 42 := ⟨⟨_, Try.underlying42, rfl⟩⟩
instance : TOne Try.prog 43 := ⟨⟨_, Try.underlying43, rfl⟩⟩
instance : TOne Try.prog 44 := ⟨⟨_, Try.underlying44, rfl⟩⟩
instance : TOne Try.prog 46 := ⟨⟨_, Try.underlying46, rfl⟩⟩
instance : TOne Try.prog 47 := ⟨⟨_, Try.underlying47, rfl⟩⟩
instance : TOne Try.prog 48 := ⟨⟨_, Try.underlying48, rfl⟩⟩
instance : TOne Try.prog 49 := ⟨⟨_, Try.underlying49, rfl⟩⟩
instance : TOne Try.prog 50 := ⟨⟨_, Try.underlying50, rfl⟩⟩
instance : TOne Try.prog 51 := ⟨⟨_, Try.underlying51, rfl⟩⟩
instance : TSlice Try.prog 52 29 := ⟨Try.underlying52⟩
instance : TOne Try.prog 52 := ⟨⟨_, Try.underlying52, rfl⟩⟩
instance : TInfo Try.prog 52 (.slice none 0 0) 1 24 := ⟨info_parts (by kernel_rfl), rfl⟩
instance : TAgg Try.prog 53 := ⟨⟨_, Try.underlying53, rfl⟩⟩
instance : TInfo Try.prog 53 (.agg #[(.slice none 0 0), (.slice none 0 0), (.slice none 0 0), (.slice none 0 0), (.slice none 0 0), (.slice none 0 0)]) 6 144 := ⟨info_parts (by kernel_rfl), rfl⟩
instance : TPlaces Try.prog 53 [(0, 4), (4, 1), (5, 1)] := ⟨⟨_, Try.underlying53, fun _ => by kernel_rfl⟩⟩
instance : TField Try.prog 53 0 0 := ⟨tfield (s := 4) Try.underlying53 rfl rfl (by kernel_rfl) (by decide)⟩
instance : TField Try.prog 53 1 4 := ⟨tfield (s := 1) Try.underlying53 rfl rfl (by kernel_rfl) (by decide)⟩
instance : TField Try.prog 53 2 5 := ⟨tfield (s := 1) Try.underlying53 rfl rfl (by kernel_rfl) (by decide)⟩
instance : TAgg Try.prog 54 := ⟨⟨_, Try.underlying54, rfl⟩⟩
instance : TInfo Try.prog 54 (.agg #[(.slice none 0 0), (.slice none 0 0), (.slice none 0 0), (.slice none 0 0), (.slice none 0 0), (.slice none 0 0)]) 6 144 := ⟨info_parts (by kernel_rfl), rfl⟩
instance : TPlaces Try.prog 54 [(0, 4), (4, 1), (5, 1)] := ⟨⟨_, Try.underlying54, fun _ => by kernel_rfl⟩⟩
instance : TField Try.prog 54 0 0 := ⟨tfield (s := 4) Try.underlying54 rfl rfl (by kernel_rfl) (by decide)⟩
instance : TField Try.prog 54 1 4 := ⟨tfield (s := 1) Try.underlying54 rfl rfl (by kernel_rfl) (by decide)⟩
instance : TField Try.prog 54 2 5 := ⟨tfield (s := 1) Try.underlying54 rfl rfl (by kernel_rfl) (by decide)⟩
instance : TOne Try.prog 55 := ⟨⟨_, Try.underlying55, rfl⟩⟩
instance : TOne Try.prog 57 := ⟨⟨_, Try.underlying57, rfl⟩⟩
instance : TOne Try.prog 59 := ⟨⟨_, Try.underlying59, rfl⟩⟩
instance : TOne Try.prog 61 := ⟨⟨_, Try.underlying61, rfl⟩⟩
instance : TOne Try.prog 62 := ⟨⟨_, Try.underlying62, rfl⟩⟩
instance : TOne Try.prog 63 := ⟨⟨_, Try.underlying63, rfl⟩⟩
instance : TOne Try.prog 64 := ⟨⟨_, Try.underlying64, rfl⟩⟩
instance : TOne Try.prog 65 := ⟨⟨_, Try.underlying65, rfl⟩⟩
instance : TOne Try.prog 66 := ⟨⟨_, Try.underlying66, rfl⟩⟩
instance : TOne Try.prog 68 := ⟨⟨_, Try.underlying68, rfl⟩⟩
instance : TOne Try.prog 70 := ⟨⟨_, Try.underlying70, rfl⟩⟩
instance : TOne Try.prog 72 := ⟨⟨_, Try.underlying72, rfl⟩⟩
instance : TAgg Try.prog 73 := ⟨⟨_, Try.underlying73, rfl⟩⟩
instance : TInfo Try.prog 73 (.agg #[(.slice none 0 0), (.int .i64 0), (.int .i64 0)]) 3 40 := ⟨info_parts (by kernel_rfl), rfl⟩
instance : TPlaces Try.prog 73 [(0, 1), (1, 1), (2, 1)] := ⟨⟨_, Try.underlying73, fun _ => by kernel_rfl⟩⟩
instance : TField Try.prog 73 0 0 := ⟨tfield (s := 1) Try.underlying73 rfl rfl (by kernel_rfl) (by decide)⟩
instance : TField Try.prog 73 1 1 := ⟨tfield (s := 1) Try.underlying73 rfl rfl (by kernel_rfl) (by decide)⟩
instance : TField Try.prog 73 2 2 := ⟨tfield (s := 1) Try.underlying73 rfl rfl (by kernel_rfl) (by decide)⟩
instance : TAgg Try.prog 74 := ⟨⟨_, Try.underlying74, rfl⟩⟩
instance : TInfo Try.prog 74 (.agg #[(.slice none 0 0), (.int .i64 0), (.int .i64 0)]) 3 40 := ⟨info_parts (by kernel_rfl), rfl⟩
instance : TPlaces Try.prog 74 [(0, 1), (1, 1), (2, 1)] := ⟨⟨_, Try.underlying74, fun _ => by kernel_rfl⟩⟩
instance : TField Try.prog 74 0 0 := ⟨tfield (s := 1) Try.underlying74 rfl rfl (by kernel_rfl) (by decide)⟩
instance : TField Try.prog 74 1 1 := ⟨tfield (s := 1) Try.underlying74 rfl rfl (by kernel_rfl) (by decide)⟩
instance : TField Try.prog 74 2 2 := ⟨tfield (s := 1) Try.underlying74 rfl rfl (by kernel_rfl) (by decide)⟩
instance : TSlice Try.prog 75 74 := ⟨Try.underlying75⟩
instance : TOne Try.prog 75 := ⟨⟨_, Try.underlying75, rfl⟩⟩
instance : TInfo Try.prog 75 (.slice none 0 0) 1 24 := ⟨info_parts (by kernel_rfl), rfl⟩
instance : TAgg Try.prog 76 := ⟨⟨_, Try.underlying76, rfl⟩⟩
instance : TInfo Try.prog 76 (.agg #[(.string (ByteArray.mk #[])), (.int .i64 0), (.slice none 0 0), (.slice none 0 0)]) 4 72 := ⟨info_parts (by kernel_rfl), rfl⟩
instance : TPlaces Try.prog 76 [(0, 1), (1, 1), (2, 1), (3, 1)] := ⟨⟨_, Try.underlying76, fun _ => by kernel_rfl⟩⟩
instance : TField Try.prog 76 0 0 := ⟨tfield (s := 1) Try.underlying76 rfl rfl (by kernel_rfl) (by decide)⟩
instance : TField Try.prog 76 1 1 := ⟨tfield (s := 1) Try.underlying76 rfl rfl (by kernel_rfl) (by decide)⟩
instance : TField Try.prog 76 2 2 := ⟨tfield (s := 1) Try.underlying76 rfl rfl (by kernel_rfl) (by decide)⟩
instance : TField Try.prog 76 3 3 := ⟨tfield (s := 1) Try.underlying76 rfl rfl (by kernel_rfl) (by decide)⟩
instance : TAgg Try.prog 77 := ⟨⟨_, Try.underlying77, rfl⟩⟩
instance : TInfo Try.prog 77 (.agg #[(.string (ByteArray.mk #[])), (.int .i64 0), (.slice none 0 0), (.slice none 0 0)]) 4 72 := ⟨info_parts (by kernel_rfl), rfl⟩
instance : TPlaces Try.prog 77 [(0, 1), (1, 1), (2, 1), (3, 1)] := ⟨⟨_, Try.underlying77, fun _ => by kernel_rfl⟩⟩
instance : TField Try.prog 77 0 0 := ⟨tfield (s := 1) Try.underlying77 rfl rfl (by kernel_rfl) (by decide)⟩
instance : TField Try.prog 77 1 1 := ⟨tfield (s := 1) Try.underlying77 rfl rfl (by kernel_rfl) (by decide)⟩
instance : TField Try.prog 77 2 2 := ⟨tfield (s := 1) Try.underlying77 rfl rfl (by kernel_rfl) (by decide)⟩
instance : TField Try.prog 77 3 3 := ⟨tfield (s := 1) Try.underlying77 rfl rfl (by kernel_rfl) (by decide)⟩
instance : TOne Try.prog 78 := ⟨⟨_, Try.underlying78, rfl⟩⟩
instance : TOne Try.prog 79 := ⟨⟨_, Try.underlying79, rfl⟩⟩
instance : TOne Try.prog 80 := ⟨⟨_, Try.underlying80, rfl⟩⟩
instance : TOne Try.prog 81 := ⟨⟨_, Try.underlying81, rfl⟩⟩
instance : TOne Try.prog 82 := ⟨⟨_, Try.underlying82, rfl⟩⟩
instance : TOne Try.prog 84 := ⟨⟨_, Try.underlying84, rfl⟩⟩
instance : TOne Try.prog 85 := ⟨⟨_, Try.underlying85, rfl⟩⟩
instance : TOne Try.prog 86 := ⟨⟨_, Try.underlying86, rfl⟩⟩
instance : TOne Try.prog 87 := ⟨⟨_, Try.underlying87, rfl⟩⟩
instance : TOne Try.prog 88 := ⟨⟨_, Try.underlying88, rfl⟩⟩
instance : TOne Try.prog 89 := ⟨⟨_, Try.underlying89, rfl⟩⟩
instance : TInfo Try.prog 89 (.map none) 1 8 := ⟨info_parts (by kernel_rfl), rfl⟩
instance : TOne Try.prog 90 := ⟨⟨_, Try.underlying90, rfl⟩⟩
instance : TSlice Try.prog 91 4 := ⟨Try.underlying91⟩
instance : TOne Try.prog 91 := ⟨⟨_, Try.underlying91, rfl⟩⟩
instance : TInfo Try.prog 91 (.slice none 0 0) 1 24 := ⟨info_parts (by kernel_rfl), rfl⟩
instance : TOne Try.prog 92 := ⟨⟨_, Try.underlying92, rfl⟩⟩
instance : TSlice Try.prog 93 96 := ⟨Try.underlying93⟩
instance : TOne Try.prog 93 := ⟨⟨_, Try.underlying93, rfl⟩⟩
instance : TInfo Try.prog 93 (.slice none 0 0) 1 24 := ⟨info_parts (by kernel_rfl), rfl⟩
instance : TOne Try.prog 94 := ⟨⟨_, Try.underlying94, rfl⟩⟩
instance : TAgg Try.prog 95 := ⟨⟨_, Try.underlying95, rfl⟩⟩
instance : TInfo Try.prog 95 (.agg #[(.int .i64 0), (.int .i64 0), (.int .i64 0)]) 3 24 := ⟨info_parts (by kernel_rfl), rfl⟩
instance : TPlaces Try.prog 95 [(0, 1), (1, 1), (2, 1)] := ⟨⟨_, Try.underlying95, fun _ => by kernel_rfl⟩⟩
instance : TField Try.prog 95 0 0 := ⟨tfield (s := 1) Try.underlying95 rfl rfl (by kernel_rfl) (by decide)⟩
instance : TField Try.prog 95 1 1 := ⟨tfield (s := 1) Try.underlying95 rfl rfl (by kernel_rfl) (by decide)⟩
instance : TField Try.prog 95 2 2 := ⟨tfield (s := 1) Try.underlying95 rfl rfl (by kernel_rfl) (by decide)⟩
instance : TAgg Try.prog 96 := ⟨⟨_, Try.underlying96, rfl⟩⟩
instance : TInfo Try.prog 96 (.agg #[(.int .i64 0), (.int .i64 0), (.int .i64 0)]) 3 24 := ⟨info_parts (by kernel_rfl), rfl⟩
instance : TPlaces Try.prog 96 [(0, 1), (1, 1), (2, 1)] := ⟨⟨_, Try.underlying96, fun _ => by kernel_rfl⟩⟩
instance : TField Try.prog 96 0 0 := ⟨tfield (s := 1) Try.underlying96 rfl rfl (by kernel_rfl) (by decide)⟩
instance : TField Try.prog 96 1 1 := ⟨tfield (s := 1) Try.underlying96 rfl rfl (by kernel_rfl) (by decide)⟩
instance : TField Try.prog 96 2 2 := ⟨tfield (s := 1) Try.underlying96 rfl rfl (by kernel_rfl) (by decide)⟩
instance : TOne Try.prog 98 := ⟨⟨_, Try.underlying98, rfl⟩⟩
instance : TSlice Try.prog 99 23 := ⟨Try.underlying99⟩
instance : TOne Try.prog 99 := ⟨⟨_, Try.underlying99, rfl⟩⟩
instance : TInfo Try.prog 99 (.slice none 0 0) 1 24 := ⟨info_parts (by kernel_rfl), rfl⟩
instance : TOne Try.prog 100 := ⟨⟨_, Try.underlying100, rfl⟩⟩
instance : TOne Try.prog 101 := ⟨⟨_, Try.underlying101, rfl⟩⟩
instance : TAgg Try.prog 102 := ⟨⟨_, Try.underlying102, rfl⟩⟩
instance : TInfo Try.prog 102 (.agg #[(.int .i64 0), (.int .i64 0)]) 2 16 := ⟨info_parts (by kernel_rfl), rfl⟩
instance : TPlaces Try.prog 102 [(0, 1), (1, 1)] := ⟨⟨_, Try.underlying102, fun _ => by kernel_rfl⟩⟩
instance : TField Try.prog 102 0 0 := ⟨tfield (s := 1) Try.underlying102 rfl rfl (by kernel_rfl) (by decide)⟩
instance : TField Try.prog 102 1 1 := ⟨tfield (s := 1) Try.underlying102 rfl rfl (by kernel_rfl) (by decide)⟩
instance : TAgg Try.prog 103 := ⟨⟨_, Try.underlying103, rfl⟩⟩
instance : TInfo Try.prog 103 (.agg #[(.int .i64 0), (.int .i64 0)]) 2 16 := ⟨info_parts (by kernel_rfl), rfl⟩
instance : TPlaces Try.prog 103 [(0, 1), (1, 1)] := ⟨⟨_, Try.underlying103, fun _ => by kernel_rfl⟩⟩
instance : TField Try.prog 103 0 0 := ⟨tfield (s := 1) Try.underlying103 rfl rfl (by kernel_rfl) (by decide)⟩
instance : TField Try.prog 103 1 1 := ⟨tfield (s := 1) Try.underlying103 rfl rfl (by kernel_rfl) (by decide)⟩
instance : TOne Try.prog 104 := ⟨⟨_, Try.underlying104, rfl⟩⟩
instance : TOne Try.prog 105 := ⟨⟨_, Try.underlying105, rfl⟩⟩
instance : TOne Try.prog 106 := ⟨⟨_, Try.underlying106, rfl⟩⟩
instance : TOne Try.prog 107 := ⟨⟨_, Try.underlying107, rfl⟩⟩
instance : TOne Try.prog 108 := ⟨⟨_, Try.underlying108, rfl⟩⟩
instance : TOne Try.prog 109 := ⟨⟨_, Try.underlying109, rfl⟩⟩
instance : TOne Try.prog 111 := ⟨⟨_, Try.underlying111, rfl⟩⟩
instance : TOne Try.prog 112 := ⟨⟨_, Try.underlying112, rfl⟩⟩
instance : TSlice Try.prog 113 5 := ⟨Try.underlying113⟩
instance : TOne Try.prog 113 := ⟨⟨_, Try.underlying113, rfl⟩⟩
instance : TInfo Try.prog 113 (.slice none 0 0) 1 24 := ⟨info_parts (by kernel_rfl), rfl⟩
instance : TOne Try.prog 114 := ⟨⟨_, Try.underlying114, rfl⟩⟩
instance : TOne Try.prog 115 := ⟨⟨_, Try.underlying115, rfl⟩⟩
instance : TInt Try.prog 116 .u64 := ⟨Try.underlying116⟩
instance : TOne Try.prog 116 := ⟨⟨_, Try.underlying116, rfl⟩⟩
instance : TInfo Try.prog 116 (.int .u64 0) 1 8 := ⟨info_parts (by kernel_rfl), rfl⟩
instance : TOne Try.prog 117 := ⟨⟨_, Try.underlying117, rfl⟩⟩
instance : TOne Try.prog 118 := ⟨⟨_, Try.underlying118, rfl⟩⟩
instance : TOne Try.prog 119 := ⟨⟨_, Try.underlying119, rfl⟩⟩
instance : TOne Try.prog 120 := ⟨⟨_, Try.underlying120, rfl⟩⟩
instance : TOne Try.prog 121 := ⟨⟨_, Try.underlying121, rfl⟩⟩
instance : TOne Try.prog 122 := ⟨⟨_, Try.underlying122, rfl⟩⟩
instance : TOne Try.prog 123 := ⟨⟨_, Try.underlying123, rfl⟩⟩
instance : TOne Try.prog 124 := ⟨⟨_, Try.underlying124, rfl⟩⟩
instance : TOne Try.prog 125 := ⟨⟨_, Try.underlying125, rfl⟩⟩
instance : TOne Try.prog 126 := ⟨⟨_, Try.underlying126, rfl⟩⟩
instance : TOne Try.prog 127 := ⟨⟨_, Try.underlying127, rfl⟩⟩
instance : TInt Try.prog 128 .i64 := ⟨Try.underlying128⟩
instance : TOne Try.prog 128 := ⟨⟨_, Try.underlying128, rfl⟩⟩
instance : TInfo Try.prog 128 (.int .i64 0) 1 8 := ⟨info_parts (by kernel_rfl), rfl⟩
instance : TOne Try.prog 130 := ⟨⟨_, Try.underlying130, rfl⟩⟩
instance : TOne Try.prog 131 := ⟨⟨_, Try.underlying131, rfl⟩⟩
instance : TOne Try.prog 132 := ⟨⟨_, Try.underlying132, rfl⟩⟩
instance : TOne Try.prog 133 := ⟨⟨_, Try.underlying133, rfl⟩⟩
instance : TOne Try.prog 134 := ⟨⟨_, Try.underlying134, rfl⟩⟩
instance : TInt Try.prog 135 .u32 := ⟨Try.underlying135⟩
instance : TOne Try.prog 135 := ⟨⟨_, Try.underlying135, rfl⟩⟩
instance : TInfo Try.prog 135 (.int .u32 0) 1 4 := ⟨info_parts (by kernel_rfl), rfl⟩
instance : TOne Try.prog 136 := ⟨⟨_, Try.underlying136, rfl⟩⟩
instance : TInt Try.prog 137 .u64 := ⟨Try.underlying137⟩
instance : TOne Try.prog 137 := ⟨⟨_, Try.underlying137, rfl⟩⟩
instance : TInfo Try.prog 137 (.int .u64 0) 1 8 := ⟨info_parts (by kernel_rfl), rfl⟩
instance : TOne Try.prog 138 := ⟨⟨_, Try.underlying138, rfl⟩⟩
instance : TOne Try.prog 139 := ⟨⟨_, Try.underlying139, rfl⟩⟩
instance : TInt Try.prog 140 .u64 := ⟨Try.underlying140⟩
instance : TOne Try.prog 140 := ⟨⟨_, Try.underlying140, rfl⟩⟩
instance : TInfo Try.prog 140 (.int .u64 0) 1 8 := ⟨info_parts (by kernel_rfl), rfl⟩
instance : TOne Try.prog 141 := ⟨⟨_, Try.underlying141, rfl⟩⟩
instance : TOne Try.prog 142 := ⟨⟨_, Try.underlying142, rfl⟩⟩
instance : TOne Try.prog 143 := ⟨⟨_, Try.underlying143, rfl⟩⟩
instance : TPtr Try.prog 144 3 := ⟨Try.underlying144⟩
instance : TOne Try.prog 144 := ⟨⟨_, Try.underlying144, rfl⟩⟩
instance : TInfo Try.prog 144 (.pointer none) 1 8 := ⟨info_parts (by kernel_rfl), rfl⟩
instance : TOne Try.prog 145 := ⟨⟨_, Try.underlying145, rfl⟩⟩
instance : TOne Try.prog 146 := ⟨⟨_, Try.underlying146, rfl⟩⟩
instance : TOne Try.prog 147 := ⟨⟨_, Try.underlying147, rfl⟩⟩
instance : TOne Try.prog 148 := ⟨⟨_, Try.underlying148, rfl⟩⟩
instance : TOne Try.prog 149 := ⟨⟨_, Try.underlying149, rfl⟩⟩
instance : TOne Try.prog 150 := ⟨⟨_, Try.underlying150, rfl⟩⟩
instance : TPtr Try.prog 151 140 := ⟨Try.underlying151⟩
instance : TOne Try.prog 151 := ⟨⟨_, Try.underlying151, rfl⟩⟩
instance : TInfo Try.prog 151 (.pointer none) 1 8 := ⟨info_parts (by kernel_rfl), rfl⟩
instance : TOne Try.prog 153 := ⟨⟨_, Try.underlying153, rfl⟩⟩
instance : TOne Try.prog 154 := ⟨⟨_, Try.underlying154, rfl⟩⟩
instance : TOne Try.prog 155 := ⟨⟨_, Try.underlying155, rfl⟩⟩
instance : TOne Try.prog 156 := ⟨⟨_, Try.underlying156, rfl⟩⟩
instance : TOne Try.prog 157 := ⟨⟨_, Try.underlying157, rfl⟩⟩
instance : TAgg Try.prog 158 := ⟨⟨_, Try.underlying158, rfl⟩⟩
instance : TInfo Try.prog 158 (.agg #[(.pointer none), (.pointer none), (.pointer none), (.string (ByteArray.mk #[]))]) 4 40 := ⟨info_parts (by kernel_rfl), rfl⟩
instance : TPlaces Try.prog 158 [(0, 1), (1, 1), (2, 1), (3, 1)] := ⟨⟨_, Try.underlying158, fun _ => by kernel_rfl⟩⟩
instance : TField Try.prog 158 0 0 := ⟨tfield (s := 1) Try.underlying158 rfl rfl (by kernel_rfl) (by decide)⟩
instance : TField Try.prog 158 1 1 := ⟨tfield (s := 1) Try.underlying158 rfl rfl (by kernel_rfl) (by decide)⟩
instance : TField Try.prog 158 2 2 := ⟨tfield (s := 1) Try.underlying158 rfl rfl (by kernel_rfl) (by decide)⟩
instance : TField Try.prog 158 3 3 := ⟨tfield (s := 1) Try.underlying158 rfl rfl (by kernel_rfl) (by decide)⟩
instance : TAgg Try.prog 159 := ⟨⟨_, Try.underlying159, rfl⟩⟩
instance : TInfo Try.prog 159 (.agg #[(.pointer none), (.pointer none), (.pointer none), (.string (ByteArray.mk #[]))]) 4 40 := ⟨info_parts (by kernel_rfl), rfl⟩
instance : TPlaces Try.prog 159 [(0, 1), (1, 1), (2, 1), (3, 1)] := ⟨⟨_, Try.underlying159, fun _ => by kernel_rfl⟩⟩
instance : TField Try.prog 159 0 0 := ⟨tfield (s := 1) Try.underlying159 rfl rfl (by kernel_rfl) (by decide)⟩
instance : TField Try.prog 159 1 1 := ⟨tfield (s := 1) Try.underlying159 rfl rfl (by kernel_rfl) (by decide)⟩
instance : TField Try.prog 159 2 2 := ⟨tfield (s := 1) Try.underlying159 rfl rfl (by kernel_rfl) (by decide)⟩
instance : TField Try.prog 159 3 3 := ⟨tfield (s := 1) Try.underlying159 rfl rfl (by kernel_rfl) (by decide)⟩
instance : TAgg Try.prog 160 := ⟨⟨_, Try.underlying160, rfl⟩⟩
instance : TInfo Try.prog 160 (.agg #[]) 0 0 := ⟨info_parts (by kernel_rfl), rfl⟩
instance : TAgg Try.prog 161 := ⟨⟨_, Try.underlying161, rfl⟩⟩
instance : TInfo Try.prog 161 (.agg #[]) 0 0 := ⟨info_parts (by kernel_rfl), rfl⟩
instance : TAgg Try.prog 162 := ⟨⟨_, Try.underlying162, rfl⟩⟩
instance : TInfo Try.prog 162 (.agg #[]) 0 0 := ⟨info_parts (by kernel_rfl), rfl⟩
instance : TOne Try.prog 163 := ⟨⟨_, Try.underlying163, rfl⟩⟩
instance : TInt Try.prog 164 .u8 := ⟨Try.underlying164⟩
instance : TOne Try.prog 164 := ⟨⟨_, Try.underlying164, rfl⟩⟩
instance : TInfo Try.prog 164 (.int .u8 0) 1 1 := ⟨info_parts (by kernel_rfl), rfl⟩
instance : TInt Try.prog 165 .u8 := ⟨Try.underlying165⟩
instance : TOne Try.prog 165 := ⟨⟨_, Try.underlying165, rfl⟩⟩
instance : TInfo Try.prog 165 (.int .u8 0) 1 1 := ⟨info_parts (by kernel_rfl), rfl⟩
instance : TOne Try.prog 166 := ⟨⟨_, Try.underlying166, rfl⟩⟩
instance : TPtr Try.prog 167 5 := ⟨Try.underlying167⟩
instance : TOne Try.prog 167 := ⟨⟨_, Try.underlying167, rfl⟩⟩
instance : TInfo Try.prog 167 (.pointer none) 1 8 := ⟨info_parts (by kernel_rfl), rfl⟩
instance : TInt Try.prog 168 .i32 := ⟨Try.underlying168⟩
instance : TOne Try.prog 168 := ⟨⟨_, Try.underlying168, rfl⟩⟩
instance : TInfo Try.prog 168 (.int .i32 0) 1 4 := ⟨info_parts (by kernel_rfl), rfl⟩
instance : TInt Try.prog 169 .i32 := ⟨Try.underlying169⟩
instance : TOne Try.prog 169 := ⟨⟨_, Try.underlying169, rfl⟩⟩
instance : TInfo Try.prog 169 (.int .i32 0) 1 4 := ⟨info_parts (by kernel_rfl), rfl⟩
instance : TAgg Try.prog 170 := ⟨⟨_, Try.underlying170, rfl⟩⟩
instance : TInfo Try.prog 170 (.agg #[(.int .u64 0), (.int .u64 0), (.int .u32 0), (.int .u8 0), (.int .u8 0), (.int .u8 0), (.int .u8 0), .nilFunc, (.pointer none), (.int .i32 0), (.int .i32 0)]) 11 48 := ⟨info_parts (by kernel_rfl), rfl⟩
instance : TPlaces Try.prog 170 [(0, 1), (1, 1), (2, 1), (3, 1), (4, 1), (5, 1), (6, 1), (7, 1), (8, 1), (9, 1), (10, 1)] := ⟨⟨_, Try.underlying170, fun _ => by kernel_rfl⟩⟩
instance : TField Try.prog 170 0 0 := ⟨tfield (s := 1) Try.underlying170 rfl rfl (by kernel_rfl) (by decide)⟩
instance : TField Try.prog 170 1 1 := ⟨tfield (s := 1) Try.underlying170 rfl rfl (by kernel_rfl) (by decide)⟩
instance : TField Try.prog 170 2 2 := ⟨tfield (s := 1) Try.underlying170 rfl rfl (by kernel_rfl) (by decide)⟩
instance : TField Try.prog 170 3 3 := ⟨tfield (s := 1) Try.underlying170 rfl rfl (by kernel_rfl) (by decide)⟩
instance : TField Try.prog 170 4 4 := ⟨tfield (s := 1) Try.underlying170 rfl rfl (by kernel_rfl) (by decide)⟩
instance : TField Try.prog 170 5 5 := ⟨tfield (s := 1) Try.underlying170 rfl rfl (by kernel_rfl) (by decide)⟩
instance : TField Try.prog 170 6 6 := ⟨tfield (s := 1) Try.underlying170 rfl rfl (by kernel_rfl) (by decide)⟩
instance : TField Try.prog 170 7 7 := ⟨tfield (s := 1) Try.underlying170 rfl rfl (by kernel_rfl) (by decide)⟩
instance : TField Try.prog 170 8 8 := ⟨tfield (s := 1) Try.underlying170 rfl rfl (by kernel_rfl) (by decide)⟩
instance : TField Try.prog 170 9 9 := ⟨tfield (s := 1) Try.underlying170 rfl rfl (by kernel_rfl) (by decide)⟩
instance : TField Try.prog 170 10 10 := ⟨tfield (s := 1) Try.underlying170 rfl rfl (by kernel_rfl) (by decide)⟩
instance : TAgg Try.prog 171 := ⟨⟨_, Try.underlying171, rfl⟩⟩
instance : TInfo Try.prog 171 (.agg #[(.int .u64 0), (.int .u64 0), (.int .u32 0), (.int .u8 0), (.int .u8 0), (.int .u8 0), (.int .u8 0), .nilFunc, (.pointer none), (.int .i32 0), (.int .i32 0)]) 11 48 := ⟨info_parts (by kernel_rfl), rfl⟩
instance : TPlaces Try.prog 171 [(0, 1), (1, 1), (2, 1), (3, 1), (4, 1), (5, 1), (6, 1), (7, 1), (8, 1), (9, 1), (10, 1)] := ⟨⟨_, Try.underlying171, fun _ => by kernel_rfl⟩⟩
instance : TField Try.prog 171 0 0 := ⟨tfield (s := 1) Try.underlying171 rfl rfl (by kernel_rfl) (by decide)⟩
instance : TField Try.prog 171 1 1 := ⟨tfield (s := 1) Try.underlying171 rfl rfl (by kernel_rfl) (by decide)⟩
instance : TField Try.prog 171 2 2 := ⟨tfield (s := 1) Try.underlying171 rfl rfl (by kernel_rfl) (by decide)⟩
instance : TField Try.prog 171 3 3 := ⟨tfield (s := 1) Try.underlying171 rfl rfl (by kernel_rfl) (by decide)⟩
instance : TField Try.prog 171 4 4 := ⟨tfield (s := 1) Try.underlying171 rfl rfl (by kernel_rfl) (by decide)⟩
instance : TField Try.prog 171 5 5 := ⟨tfield (s := 1) Try.underlying171 rfl rfl (by kernel_rfl) (by decide)⟩
instance : TField Try.prog 171 6 6 := ⟨tfield (s := 1) Try.underlying171 rfl rfl (by kernel_rfl) (by decide)⟩
instance : TField Try.prog 171 7 7 := ⟨tfield (s := 1) Try.underlying171 rfl rfl (by kernel_rfl) (by decide)⟩
instance : TField Try.prog 171 8 8 := ⟨tfield (s := 1) Try.underlying171 rfl rfl (by kernel_rfl) (by decide)⟩
instance : TField Try.prog 171 9 9 := ⟨tfield (s := 1) Try.underlying171 rfl rfl (by kernel_rfl) (by decide)⟩
instance : TField Try.prog 171 10 10 := ⟨tfield (s := 1) Try.underlying171 rfl rfl (by kernel_rfl) (by decide)⟩
instance : Callable Try.prog 2 := ⟨⟨_, Try.func2, rfl, by decide⟩⟩
instance : Callable Try.prog 3 := ⟨⟨_, Try.func3, rfl, by decide⟩⟩
instance : Callable Try.prog 4 := ⟨⟨_, Try.func4, rfl, by decide⟩⟩
instance : Callable Try.prog 5 := ⟨⟨_, Try.func5, rfl, by decide⟩⟩
instance : Callable Try.prog 6 := ⟨⟨_, Try.func6, rfl, by decide⟩⟩
instance : Callable Try.prog 7 := ⟨⟨_, Try.func7, rfl, by decide⟩⟩
instance : Callable Try.prog 8 := ⟨⟨_, Try.func8, rfl, by decide⟩⟩
instance : Callable Try.prog 9 := ⟨⟨_, Try.func9, rfl, by decide⟩⟩
instance : Callable Try.prog 10 := ⟨⟨_, Try.func10, rfl, by decide⟩⟩
instance : Callable Try.prog 11 := ⟨⟨_, Try.func11, rfl, by decide⟩⟩
instance : Callable Try.prog 12 := ⟨⟨_, Try.func12, rfl, by decide⟩⟩
instance : Callable Try.prog 13 := ⟨⟨_, Try.func13, rfl, by decide⟩⟩
instance : Callable Try.prog 14 := ⟨⟨_, Try.func14, rfl, by decide⟩⟩
instance : Callable Try.prog 15 := ⟨⟨_, Try.func15, rfl, by decide⟩⟩
instance : Callable Try.prog 16 := ⟨⟨_, Try.func16, rfl, by decide⟩⟩
instance : Callable Try.prog 17 := ⟨⟨_, Try.func17, rfl, by decide⟩⟩
instance : Callable Try.prog 18 := ⟨⟨_, Try.func18, rfl, by decide⟩⟩
instance : Callable Try.prog 19 := ⟨⟨_, Try.func19, rfl, by decide⟩⟩
instance : Callable Try.prog 20 := ⟨⟨_, Try.func20, rfl, by decide⟩⟩
instance : Callable Try.prog 21 := ⟨⟨_, Try.func21, rfl, by decide⟩⟩
instance : Callable Try.prog 22 := ⟨⟨_, Try.func22, rfl, by decide⟩⟩
instance : Callable Try.prog 23 := ⟨⟨_, Try.func23, rfl, by decide⟩⟩
instance : Callable Try.prog 24 := ⟨⟨_, Try.func24, rfl, by decide⟩⟩
instance : Callable Try.prog 25 := ⟨⟨_, Try.func25, rfl, by decide⟩⟩
instance : Callable Try.prog 26 := ⟨⟨_, Try.func26, rfl, by decide⟩⟩
instance : Callable Try.prog 27 := ⟨⟨_, Try.func27, rfl, by decide⟩⟩
instance : Callable Try.prog 28 := ⟨⟨_, Try.func28, rfl, by decide⟩⟩
instance : Callable Try.prog 29 := ⟨⟨_, Try.func29, rfl, by decide⟩⟩
instance : Callable Try.prog 30 := ⟨⟨_, Try.func30, rfl, by decide⟩⟩
instance : Callable Try.prog 31 := ⟨⟨_, Try.func31, rfl, by decide⟩⟩
instance : Callable Try.prog 32 := ⟨⟨_, Try.func32, rfl, by decide⟩⟩
instance : Callable Try.prog 33 := ⟨⟨_, Try.func33, rfl, by decide⟩⟩
instance : Callable Try.prog 34 := ⟨⟨_, Try.func34, rfl, by decide⟩⟩
instance : Callable Try.prog 35 := ⟨⟨_, Try.func35, rfl, by decide⟩⟩
instance : Callable Try.prog 36 := ⟨⟨_, Try.func36, rfl, by decide⟩⟩
instance : Callable Try.prog 37 := ⟨⟨_, Try.func37, rfl, by decide⟩⟩
instance : Callable Try.prog 38 := ⟨⟨_, Try.func38, rfl, by decide⟩⟩
instance : Callable Try.prog 39 := ⟨⟨_, Try.func39, rfl, by decide⟩⟩
instance : Callable Try.prog 40 := ⟨⟨_, Try.func40, rfl, by decide⟩⟩
instance : Callable Try.prog 41 := ⟨⟨_, Try.func41, rfl, by decide⟩⟩
instance : Callable Try.prog 42 := ⟨⟨_, Try.func42, rfl, by decide⟩⟩
instance : Callable Try.prog 43 := ⟨⟨_, Try.func43, rfl, by decide⟩⟩
instance : Callable Try.prog 44 := ⟨⟨_, Try.func44, rfl, by decide⟩⟩
instance : Callable Try.prog 45 := ⟨⟨_, Try.func45, rfl, by decide⟩⟩
instance : Callable Try.prog 46 := ⟨⟨_, Try.func46, rfl, by decide⟩⟩
instance : Callable Try.prog 47 := ⟨⟨_, Try.func47, rfl, by decide⟩⟩
instance : Callable Try.prog 48 := ⟨⟨_, Try.func48, rfl, by decide⟩⟩
instance : Callable Try.prog 49 := ⟨⟨_, Try.func49, rfl, by decide⟩⟩
instance : Callable Try.prog 50 := ⟨⟨_, Try.func50, rfl, by decide⟩⟩
instance : Callable Try.prog 51 := ⟨⟨_, Try.func51, rfl, by decide⟩⟩
instance : Callable Try.prog 52 := ⟨⟨_, Try.func52, rfl, by decide⟩⟩
instance : Callable Try.prog 53 := ⟨⟨_, Try.func53, rfl, by decide⟩⟩
instance : Callable Try.prog 54 := ⟨⟨_, Try.func54, rfl, by decide⟩⟩
instance : Callable Try.prog 55 := ⟨⟨_, Try.func55, rfl, by decide⟩⟩
instance : Callable Try.prog 56 := ⟨⟨_, Try.func56, rfl, by decide⟩⟩
instance : Callable Try.prog 57 := ⟨⟨_, Try.func57, rfl, by decide⟩⟩
instance : Callable Try.prog 58 := ⟨⟨_, Try.func58, rfl, by decide⟩⟩
instance : Callable Try.prog 59 := ⟨⟨_, Try.func59, rfl, by decide⟩⟩
instance : Callable Try.prog 60 := ⟨⟨_, Try.func60, rfl, by decide⟩⟩
instance : Callable Try.prog 61 := ⟨⟨_, Try.func61, rfl, by decide⟩⟩
instance : Callable Try.prog 62 := ⟨⟨_, Try.func62, rfl, by decide⟩⟩
instance : Callable Try.prog 63 := ⟨⟨_, Try.func63, rfl, by decide⟩⟩
instance : Callable Try.prog 64 := ⟨⟨_, Try.func64, rfl, by decide⟩⟩
instance : Callable Try.prog 65 := ⟨⟨_, Try.func65, rfl, by decide⟩⟩
instance : Callable Try.prog 66 := ⟨⟨_, Try.func66, rfl, by decide⟩⟩
instance : Callable Try.prog 67 := ⟨⟨_, Try.func67, rfl, by decide⟩⟩
instance : Callable Try.prog 68 := ⟨⟨_, Try.func68, rfl, by decide⟩⟩
instance : Callable Try.prog 69 := ⟨⟨_, Try.func69, rfl, by decide⟩⟩
instance : Callable Try.prog 70 := ⟨⟨_, Try.func70, rfl, by decide⟩⟩
instance : Callable Try.prog 71 := ⟨⟨_, Try.func71, rfl, by decide⟩⟩
instance : Callable Try.prog 72 := ⟨⟨_, Try.func72, rfl, by decide⟩⟩
instance : Callable Try.prog 73 := ⟨⟨_, Try.func73, rfl, by decide⟩⟩
instance : Callable Try.prog 74 := ⟨⟨_, Try.func74, rfl, by decide⟩⟩
instance : Callable Try.prog 75 := ⟨⟨_, Try.func75, rfl, by decide⟩⟩
instance : Callable Try.prog 76 := ⟨⟨_, Try.func76, rfl, by decide⟩⟩
instance : Callable Try.prog 77 := ⟨⟨_, Try.func77, rfl, by decide⟩⟩
instance : Callable Try.prog 78 := ⟨⟨_, Try.func78, rfl, by decide⟩⟩
instance : Callable Try.prog 79 := ⟨⟨_, Try.func79, rfl, by decide⟩⟩
instance : Callable Try.prog 80 := ⟨⟨_, Try.func80, rfl, by decide⟩⟩
instance : Callable Try.prog 81 := ⟨⟨_, Try.func81, rfl, by decide⟩⟩
instance : Callable Try.prog 82 := ⟨⟨_, Try.func82, rfl, by decide⟩⟩
instance : Callable Try.prog 83 := ⟨⟨_, Try.func83, rfl, by decide⟩⟩
instance : Callable Try.prog 84 := ⟨⟨_, Try.func84, rfl, by decide⟩⟩
instance : Callable Try.prog 85 := ⟨⟨_, Try.func85, rfl, by decide⟩⟩
instance : Callable Try.prog 86 := ⟨⟨_, Try.func86, rfl, by decide⟩⟩
instance : Callable Try.prog 87 := ⟨⟨_, Try.func87, rfl, by decide⟩⟩
instance : Callable Try.prog 88 := ⟨⟨_, Try.func88, rfl, by decide⟩⟩
instance : Callable Try.prog 89 := ⟨⟨_, Try.func89, rfl, by decide⟩⟩
instance : Callable Try.prog 90 := ⟨⟨_, Try.func90, rfl, by decide⟩⟩
instance : Callable Try.prog 91 := ⟨⟨_, Try.func91, rfl, by decide⟩⟩
instance : Callable Try.prog 92 := ⟨⟨_, Try.func92, rfl, by decide⟩⟩
instance : Callable Try.prog 93 := ⟨⟨_, Try.func93, rfl, by decide⟩⟩
instance : Callable Try.prog 94 := ⟨⟨_, Try.func94, rfl, by decide⟩⟩
instance : Callable Try.prog 95 := ⟨⟨_, Try.func95, rfl, by decide⟩⟩
instance : Callable Try.prog 96 := ⟨⟨_, Try.func96, rfl, by decide⟩⟩
instance : Callable Try.prog 97 := ⟨⟨_, Try.func97, rfl, by decide⟩⟩
instance : Callable Try.prog 98 := ⟨⟨_, Try.func98, rfl, by decide⟩⟩
instance : Callable Try.prog 99 := ⟨⟨_, Try.func99, rfl, by decide⟩⟩
instance : Callable Try.prog 100 := ⟨⟨_, Try.func100, rfl, by decide⟩⟩
instance : Callable Try.prog 101 := ⟨⟨_, Try.func101, rfl, by decide⟩⟩
instance : Callable Try.prog 102 := ⟨⟨_, Try.func102, rfl, by decide⟩⟩
instance : Callable Try.prog 103 := ⟨⟨_, Try.func103, rfl, by decide⟩⟩
instance : Callable Try.prog 104 := ⟨⟨_, Try.func104, rfl, by decide⟩⟩
instance : Callable Try.prog 105 := ⟨⟨_, Try.func105, rfl, by decide⟩⟩
instance : Callable Try.prog 106 := ⟨⟨_, Try.func106, rfl, by decide⟩⟩
instance : Callable Try.prog 107 := ⟨⟨_, Try.func107, rfl, by decide⟩⟩
instance : Callable Try.prog 108 := ⟨⟨_, Try.func108, rfl, by decide⟩⟩
instance : Callable Try.prog 109 := ⟨⟨_, Try.func109, rfl, by decide⟩⟩
instance : Callable Try.prog 110 := ⟨⟨_, Try.func110, rfl, by decide⟩⟩
instance : Callable Try.prog 111 := ⟨⟨_, Try.func111, rfl, by decide⟩⟩
instance : Callable Try.prog 112 := ⟨⟨_, Try.func112, rfl, by decide⟩⟩
instance : Callable Try.prog 113 := ⟨⟨_, Try.func113, rfl, by decide⟩⟩
instance : Callable Try.prog 114 := ⟨⟨_, Try.func114, rfl, by decide⟩⟩
instance : Callable Try.prog 115 := ⟨⟨_, Try.func115, rfl, by decide⟩⟩
instance : Callable Try.prog 116 := ⟨⟨_, Try.func116, rfl, by decide⟩⟩
instance : Callable Try.prog 117 := ⟨⟨_, Try.func117, rfl, by decide⟩⟩
instance : Callable Try.prog 118 := ⟨⟨_, Try.func118, rfl, by decide⟩⟩
instance : Callable Try.prog 119 := ⟨⟨_, Try.func119, rfl, by decide⟩⟩
instance : Callable Try.prog 120 := ⟨⟨_, Try.func120, rfl, by decide⟩⟩
instance : Callable Try.prog 121 := ⟨⟨_, Try.func121, rfl, by decide⟩⟩
instance : Callable Try.prog 122 := ⟨⟨_, Try.func122, rfl, by decide⟩⟩
instance : Mixed Try.prog := ⟨by kernel_rfl⟩
end Go.Proofs.Ytdhaelekmjgbmaa

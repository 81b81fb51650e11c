/- Own text, written by a program of the prover's (types.py): the seat's types and functions as instances of the calculus's classes. -/
import Derived.Test.YtfbcjknlihopcaaData
import Derived.Test.YtfbcjknlihopcaaProg
namespace Go.Proofs.Ytfbcjknlihopcaa
open Go Go.RowKit
theorem tfield {P : Program} {t f off s : Nat} {fs : Array Field} {fd : Field} (h1 : P.underlying t = some (.struct fs)) (h2 : fs[f]? = some fd) (h3 : fd.offset = off) (h4 : (P.info? fd.type).map (·.size) = some s) (h5 : s ≠ 0) :
    ∃ fs fd i, P.underlying t = some (.struct fs) ∧ fs[f]? = some fd ∧ fd.offset = off ∧ P.info? fd.type = some i ∧ i.size ≠ 0 := by
  obtain ⟨i, hi, hs⟩ := Option.map_eq_some_iff.1 h4
  exact ⟨fs, fd, i, h1, h2, h3, hi, by rw [hs]; exact h5⟩
instance : TOne Try.prog 1 := ⟨⟨_, Try.underlying1, rfl⟩⟩
instance : TInt Try.prog 2 .i64 := ⟨Try.underlying2⟩
instance : TOne Try.prog 2 := ⟨⟨_, Try.underlying2, rfl⟩⟩
instance : TInfo Try.prog 2 (.int .i64 0) 1 8 := ⟨info_parts (by kernel_rfl), rfl⟩
instance : TInt Try.prog 3 .i64 := ⟨Try.underlying3⟩
instance : TOne Try.prog 3 := ⟨⟨_, Try.underlying3, rfl⟩⟩
instance : TInfo Try.prog 3 (.int .i64 0) 1 8 := ⟨info_parts (by kernel_rfl), rfl⟩
instance : TOne Try.prog 4 := ⟨⟨_, Try.underlying4, rfl⟩⟩
instance : TInfo Try.prog 4 (.bool false) 1 1 := ⟨info_parts (by kernel_rfl), rfl⟩
instance : TInt Try.prog 5 .u8 := ⟨Try.underlying5⟩
instance : TOne Try.prog 5 := ⟨⟨_, Try.underlying5, rfl⟩⟩
instance : TInfo Try.prog 5 (.int .u8 0) 1 1 := ⟨info_parts (by kernel_rfl), rfl⟩
instance : TInt Try.prog 6 .u8 := ⟨Try.underlying6⟩
instance : TOne Try.prog 6 := ⟨⟨_, Try.underlying6, rfl⟩⟩
instance : TInfo Try.prog 6 (.int .u8 0) 1 1 := ⟨info_parts (by kernel_rfl), rfl⟩
instance : TAgg Try.prog 7 := ⟨⟨_, Try.underlying7, rfl⟩⟩
instance : TInfo Try.prog 7 (.agg #[(.int .i64 0), (.int .i64 0), (.bool false), (.int .u8 0)]) 4 24 := ⟨info_parts (by kernel_rfl), rfl⟩
instance : TPlaces Try.prog 7 [(0, 1), (1, 1), (2, 1), (3, 1)] := ⟨⟨_, Try.underlying7, fun _ => by kernel_rfl⟩⟩
instance : TField Try.prog 7 0 0 := ⟨tfield (s := 1) Try.underlying7 rfl rfl (by kernel_rfl) (by decide)⟩
instance : TField Try.prog 7 1 1 := ⟨tfield (s := 1) Try.underlying7 rfl rfl (by kernel_rfl) (by decide)⟩
instance : TField Try.prog 7 2 2 := ⟨tfield (s := 1) Try.underlying7 rfl rfl (by kernel_rfl) (by decide)⟩
instance : TField Try.prog 7 3 3 := ⟨tfield (s := 1) Try.underlying7 rfl rfl (by kernel_rfl) (by decide)⟩
instance : TAgg Try.prog 8 := ⟨⟨_, Try.underlying8, rfl⟩⟩
instance : TInfo Try.prog 8 (.agg #[(.int .i64 0), (.int .i64 0), (.bool false), (.int .u8 0)]) 4 24 := ⟨info_parts (by kernel_rfl), rfl⟩
instance : TPlaces Try.prog 8 [(0, 1), (1, 1), (2, 1), (3, 1)] := ⟨⟨_, Try.underlying8, fun _ => by kernel_rfl⟩⟩
instance : TField Try.prog 8 0 0 := ⟨tfield (s := 1) Try.underlying8 rfl rfl (by kernel_rfl) (by decide)⟩
instance : TField Try.prog 8 1 1 := ⟨tfield (s := 1) Try.underlying8 rfl rfl (by kernel_rfl) (by decide)⟩
instance : TField Try.prog 8 2 2 := ⟨tfield (s := 1) Try.underlying8 rfl rfl (by kernel_rfl) (by decide)⟩
instance : TField Try.prog 8 3 3 := ⟨tfield (s := 1) Try.underlying8 rfl rfl (by kernel_rfl) (by decide)⟩
instance : TStr Try.prog 9 := ⟨Try.underlying9⟩
instance : TOne Try.prog 9 := ⟨⟨_, Try.underlying9, rfl⟩⟩
instance : TInfo Try.prog 9 (.string (ByteArray.mk #[])) 1 16 := ⟨info_parts (by kernel_rfl), rfl⟩
instance : TStr Try.prog 10 := ⟨Try.underlying10⟩
instance : TOne Try.prog 10 := ⟨⟨_, Try.underlying10, rfl⟩⟩
instance : TInfo Try.prog 10 (.string (ByteArray.mk #[])) 1 16 := ⟨info_parts (by kernel_rfl), rfl⟩
instance : TStr Try.prog 11 := ⟨Try.underlying11⟩
instance : TOne Try.prog 11 := ⟨⟨_, Try.underlying11, rfl⟩⟩
instance : TInfo Try.prog 11 (.string (ByteArray.mk #[])) 1 16 := ⟨info_parts (by kernel_rfl), rfl⟩
instance : TInt Try.prog 12 .u64 := ⟨Try.underlying12⟩
instance : TOne Try.prog 12 := ⟨⟨_, Try.underlying12, rfl⟩⟩
instance : TInfo Try.prog 12 (.int .u64 0) 1 8 := ⟨info_parts (by kernel_rfl), rfl⟩
instance : TAgg Try.prog 13 := ⟨⟨_, Try.underlying13, rfl⟩⟩
instance : TInfo Try.prog 13 (.agg #[(.string (ByteArray.mk #[])), (.int .u64 0)]) 2 24 := ⟨info_parts (by kernel_rfl), rfl⟩
instance : TPlaces Try.prog 13 [(0, 1), (1, 1)] := ⟨⟨_, Try.underlying13, fun _ => by kernel_rfl⟩⟩
instance : TField Try.prog 13 0 0 := ⟨tfield (s := 1) Try.underlying13 rfl rfl (by kernel_rfl) (by decide)⟩
instance : TField Try.prog 13 1 1 := ⟨tfield (s := 1) Try.underlying13 rfl rfl (by kernel_rfl) (by decide)⟩
instance : TAgg Try.prog 14 := ⟨⟨_, Try.underlying14, rfl⟩⟩
instance : TInfo Try.prog 14 (.agg #[(.string (ByteArray.mk #[])), (.int .u64 0)]) 2 24 := ⟨info_parts (by kernel_rfl), rfl⟩
instance : TPlaces Try.prog 14 [(0, 1), (1, 1)] := ⟨⟨_, Try.underlying14, fun _ => by kernel_rfl⟩⟩
instance : TField Try.prog 14 0 0 := ⟨tfield (s := 1) Try.underlying14 rfl rfl (by kernel_rfl) (by decide)⟩
instance : TField Try.prog 14 1 1 := ⟨tfield (s := 1) Try.underlying14 rfl rfl (by kernel_rfl) (by decide)⟩
instance : TPtr Try.prog 15 122 := ⟨Try.underlying15⟩
instance : TOne Try.prog 15 := ⟨⟨_, Try.underlying15, rfl⟩⟩
instance : TInfo Try.prog 15 (.pointer none) 1 8 := ⟨info_parts (by kernel_rfl), rfl⟩
instance : TPtr Try.prog 16 125 := ⟨Try.underlying16⟩
instance : TOne Try.prog 16 := ⟨⟨_, Try.underlying16, rfl⟩⟩
instance : TInfo Try.prog 16 (.pointer none) 1 8 := ⟨info_parts (by kernel_rfl), rfl⟩
instance : TPtr Try.prog 17 134 := ⟨Try.underlying17⟩
instance : TOne Try.prog 17 := ⟨⟨_, Try.underlying17, rfl⟩⟩
instance : TInfo Try.prog 17 (.pointer none) 1 8 := ⟨info_parts (by kernel_rfl), rfl⟩
instance : TAgg Try.prog 18 := ⟨⟨_, Try.underlying18, rfl⟩⟩
instance : TInfo Try.prog 18 (.agg #[(.pointer none)]) 1 8 := ⟨info_parts (by kernel_rfl), rfl⟩
instance : TPlaces Try.prog 18 [(0, 1)] := ⟨⟨_, Try.underlying18, fun _ => by kernel_rfl⟩⟩
instance : TField Try.prog 18 0 0 := ⟨tfield (s := 1) Try.underlying18 rfl rfl (by kernel_rfl) (by decide)⟩
instance : TAgg Try.prog 19 := ⟨⟨_, Try.underlying19, rfl⟩⟩
instance : TInfo Try.prog 19 (.agg #[(.pointer none)]) 1 8 := ⟨info_parts (by kernel_rfl), rfl⟩
instance : TPlaces Try.prog 19 [(0, 1)] := ⟨⟨_, Try.underlying19, fun _ => by kernel_rfl⟩⟩
instance : TField Try.prog 19 0 0 := ⟨tfield (s := 1) Try.underlying19 rfl rfl (by kernel_rfl) (by decide)⟩
instance : TIface Try.prog 20 := ⟨⟨_, Try.underlying20⟩⟩
instance : TOne Try.prog 20 := ⟨⟨_, Try.underlying20, rfl⟩⟩
instance : TInfo Try.prog 20 .nilIface 1 16 := ⟨info_parts (by kernel_rfl), rfl⟩
instance : TInt Try.prog 21 .i32 := ⟨Try.underlying21⟩
instance : TOne Try.prog 21 := ⟨⟨_, Try.underlying21, rfl⟩⟩
instance : TInfo Try.prog 21 (.int .i32 0) 1 4 := ⟨info_parts (by kernel_rfl), rfl⟩
instance : TSlice Try.prog 22 3 := ⟨Try.underlying22⟩
instance : TOne Try.prog 22 := ⟨⟨_, Try.underlying22, rfl⟩⟩
instance : TInfo Try.prog 22 (.slice none 0 0) 1 24 := ⟨info_parts (by kernel_rfl), rfl⟩
instance : TSlice Try.prog 23 28 := ⟨Try.underlying23⟩
instance : TOne Try.prog 23 := ⟨⟨_, Try.underlying23, rfl⟩⟩
instance : TInfo Try.prog 23 (.slice none 0 0) 1 24 := ⟨info_parts (by kernel_rfl), rfl⟩
instance : TSlice Try.prog 24 34 := ⟨Try.underlying24⟩
instance : TOne Try.prog 24 := ⟨⟨_, Try.underlying24, rfl⟩⟩
instance : TInfo Try.prog 24 (.slice none 0 0) 1 24 := ⟨info_parts (by kernel_rfl), rfl⟩
instance : TAgg Try.prog 25 := ⟨⟨_, Try.underlying25, rfl⟩⟩
instance : TInfo Try.prog 25 (.agg #[(.slice none 0 0), (.slice none 0 0), (.slice none 0 0), (.slice none 0 0)]) 4 96 := ⟨info_parts (by kernel_rfl), rfl⟩
instance : TPlaces Try.prog 25 [(0, 1), (1, 1), (2, 1), (3, 1)] := ⟨⟨_, Try.underlying25, fun _ => by kernel_rfl⟩⟩
instance : TField Try.prog 25 0 0 := ⟨tfield (s := 1) Try.underlying25 rfl rfl (by kernel_rfl) (by decide)⟩
instance : TField Try.prog 25 1 1 := ⟨tfield (s := 1) Try.underlying25 rfl rfl (by kernel_rfl) (by decide)⟩
instance : TField Try.prog 25 2 2 := ⟨tfield (s := 1) Try.underlying25 rfl rfl (by kernel_rfl) (by decide)⟩
instance : TField Try.prog 25 3 3 := ⟨tfield (s := 1) Try.underlying25 rfl rfl (by kernel_rfl) (by decide)⟩
instance : TAgg Try.prog 26 := ⟨⟨_, Try.underlying26, rfl⟩⟩
instance : TInfo Try.prog 26 (.agg #[(.slice none 0 0), (.slice none 0 0), (.slice none 0 0), (.slice none 0 0)]) 4 96 := ⟨info_parts (by kernel_rfl), rfl⟩
instance : TPlaces Try.prog 26 [(0, 1), (1, 1), (2, 1), (3, 1)] := ⟨⟨_, Try.underlying26, fun _ => by kernel_rfl⟩⟩
instance : TField Try.prog 26 0 0 := ⟨tfield (s := 1) Try.underlying26 rfl rfl (by kernel_rfl) (by decide)⟩
instance : TField Try.prog 26 1 1 := ⟨tfield (s := 1) Try.underlying26 rfl rfl (by kernel_rfl) (by decide)⟩
instance : TField Try.prog 26 2 2 := ⟨tfield (s := 1) Try.underlying26 rfl rfl (by kernel_rfl) (by decide)⟩
instance : TField Try.prog 26 3 3 := ⟨tfield (s := 1) Try.underlying26 rfl rfl (by kernel_rfl) (by decide)⟩
instance : TAgg Try.prog 27 := ⟨⟨_, Try.underlying27, rfl⟩⟩
instance : TInfo Try.prog 27 (.agg #[(.int .i64 0), (.int .i64 0)]) 2 16 := ⟨info_parts (by kernel_rfl), rfl⟩
instance : TPlaces Try.prog 27 [(0, 1), (1, 1)] := ⟨⟨_, Try.underlying27, fun _ => by kernel_rfl⟩⟩
instance : TField Try.prog 27 0 0 := ⟨tfield (s := 1) Try.underlying27 rfl rfl (by kernel_rfl) (by decide)⟩
instance : TField Try.prog 27 1 1 := ⟨tfield (s := 1) Try.underlying27 rfl rfl (by kernel_rfl) (by decide)⟩
instance : TAgg Try.prog 28 := ⟨⟨_, Try.underlying28, rfl⟩⟩
instance : TInfo Try.prog 28 (.agg #[(.int .i64 0), (.int .i64 0)]) 2 16 := ⟨info_parts (by kernel_rfl), rfl⟩
instance : TPlaces Try.prog 28 [(0, 1), (1, 1)] := ⟨⟨_, Try.underlying28, fun _ => by kernel_rfl⟩⟩
instance : TField Try.prog 28 0 0 := ⟨tfield (s := 1) Try.underlying28 rfl rfl (by kernel_rfl) (by decide)⟩
instance : TField Try.prog 28 1 1 := ⟨tfield (s := 1) Try.underlying28 rfl rfl (by kernel_rfl) (by decide)⟩
instance : TOne Try.prog 29 := ⟨⟨_, Try.underlying29, rfl⟩⟩
instance : TOne Try.prog 30 := ⟨⟨_, Try.underlying30, rfl⟩⟩
instance : TOne Try.prog 31 := ⟨⟨_, Try.underlying31, rfl⟩⟩
instance : TSlice Try.prog 32 52 := ⟨Try.underlying32⟩
instance : TOne Try.prog 32 := ⟨⟨_, Try.underlying32, rfl⟩⟩
instance : TInfo Try.prog 32 (.slice none 0 0) 1 24 := ⟨info_parts (by kernel_rfl), rfl⟩
instance : TAgg Try.prog 33 := ⟨⟨_, Try.underlying33, rfl⟩⟩
instance : TInfo Try.prog 33 (.agg #[(.string (ByteArray.mk #[])), (.int .i64 0), (.slice none 0 0), (.slice none 0 0)]) 4 72 := ⟨info_parts (by kernel_rfl), rfl⟩
instance : TPlaces Try.prog 33 [(0, 1), (1, 1), (2, 1), (3, 1)] := ⟨⟨_, Try.underlying33, fun _ => by kernel_rfl⟩⟩
instance : TField Try.prog 33 0 0 := ⟨tfield (s := 1) Try.underlying33 rfl rfl (by kernel_rfl) (by decide)⟩
instance : TField Try.prog 33 1 1 := ⟨tfield (s := 1) Try.underlying33 rfl rfl (by kernel_rfl) (by decide)⟩
instance : TField Try.prog 33 2 2 := ⟨tfield (s := 1) Try.underlying33 rfl rfl (by kernel_rfl) (by decide)⟩
instance : TField Try.prog 33 3 3 := ⟨tfield (s := 1) Try.underlying33 rfl rfl (by kernel_rfl) (by decide)⟩
instance : TAgg Try.prog 34 := ⟨⟨_, Try.underlying34, rfl⟩⟩
instance : TInfo Try.prog 34 (.agg #[(.string (ByteArray.mk #[])), (.int .i64 0), (.slice none 0 0), (.slice none 0 0)]) 4 72 := ⟨info_parts (by kernel_rfl), rfl⟩
instance : TPlaces Try.prog 34 [(0, 1), (1, 1), (2, 1), (3, 1)] := ⟨⟨_, Try.underlying34, fun _ => by kernel_rfl⟩⟩
instance : TField Try.prog 34 0 0 := ⟨tfield (s := 1) Try.underlying34 rfl rfl (by kernel_rfl) (by decide)⟩
instance : TField Try.prog 34 1 1 := ⟨tfield (s := 1) Try.underlying34 rfl rfl (by kernel_rfl) (by decide)⟩
instance : TField Try.prog 34 2 2 := ⟨tfield (s := 1) Try.underlying34 rfl rfl (by kernel_rfl) (by decide)⟩
instance : TField Try.prog 34 3 3 := ⟨tfield (s := 1) Try.underlying34 rfl rfl (by kernel_rfl) (by decide)⟩
instance : TPtr Try.prog 35 68 := ⟨Try.underlying35⟩
instance : TOne Try.prog 35 := ⟨⟨_, Try.underlying35, rfl⟩⟩
instance : TInfo Try.prog 35 (.pointer none) 1 8 := ⟨info_parts (by kernel_rfl), rfl⟩
instance : TIface Try.prog 36 := ⟨⟨_, Try.underlying36⟩⟩
instance : TOne Try.prog 36 := ⟨⟨_, Try.underlying36, rfl⟩⟩
instance : TInfo Try.prog 36 .nilIface 1 16 := ⟨info_parts (by kernel_rfl), rfl⟩
instance : TIface Try.prog 37 := ⟨⟨_, Try.underlying37⟩⟩
instance : TOne Try.prog 37 := ⟨⟨_, Try.underlying37, rfl⟩⟩
instance : TInfo Try.prog 37 .nilIface 1 16 := ⟨info_parts (by kernel_rfl), rfl⟩
instance : TOne Try.prog 39 := ⟨⟨_, Try.underlying39, rfl⟩⟩
instance : TSlice Try.prog 40 22 := ⟨Try.underlying40⟩
instance : TOne Try.prog 40 := ⟨⟨_, Try.underlying40, rfl⟩⟩
instance : TInfo Try.prog 40 (.slice none 0 0) 1 24 := ⟨info_parts (by kernel_rfl), rfl⟩
instance : TOne Try.prog 41 := ⟨⟨_, Try.underlying41, rfl⟩⟩
instance : TOne Try.prog 42 := ⟨⟨_, Try.underlying42, rfl⟩⟩
instance : TOne Try.prog 43 := ⟨⟨_, Try.underlying43, rfl⟩⟩
instance : TOne Try.prog 44 := ⟨⟨_, Try.underlying44, rfl⟩⟩
instance : TOne Try.prog 45 := ⟨⟨_, Try.underlying45, rfl⟩⟩
instance : TSlice Try.prog 46 4 := ⟨Try.underlying46⟩
instance : TOne Try.prog 46 := ⟨⟨_, Try.underlying46, rfl⟩⟩
instance : TInfo Try.prog 46 (.slice none 0 0) 1 24 := ⟨info_parts (by kernel_rfl), rfl⟩
instance : TOne Try.prog 47 := ⟨⟨_, Try.underlying47, rfl⟩⟩
instance : TOne Try.prog 48 := ⟨⟨_, Try.underlying48, rfl⟩⟩
instance : TAgg Try.prog 49 := ⟨⟨_, Try.underlying49, rfl⟩⟩
instance : TInfo Try.prog 49 (.agg #[(.int .u8 0), (.int .u8 0), (.int .u8 0)]) 3 3 := ⟨info_parts (by kernel_rfl), rfl⟩
instance : TOne Try.prog 50 := ⟨⟨_, Try.underlying50, rfl⟩⟩
instance : TAgg Try.prog 51 := ⟨⟨_, Try.underlying51, rfl⟩⟩
instance : TInfo Try.prog 51 (.agg #[(.slice none 0 0), (.int .i64 0), (.int .i64 0)]) 3 40 := ⟨info_parts (by kernel_rfl), rfl⟩
instance : TPlaces Try.prog 51 [(0, 1), (1, 1), (2, 1)] := ⟨⟨_, Try.underlying51, fun _ => by kernel_rfl⟩⟩
instance : TField Try.prog 51 0 0 := ⟨tfield (s := 1) Try.underlying51 rfl rfl (by kernel_rfl) (by decide)⟩
instance : TField Try.prog 51 1 1 := ⟨tfield (s := 1) Try.underlying51 rfl rfl (by kernel_rfl) (by decide)⟩
instance : TField Try.prog 51 2 2 := ⟨tfield (s := 1) Try.underlying51 rfl rfl (by kernel_rfl) (by decide)⟩
instance : TAgg Try.prog 52 := ⟨⟨_, Try.underlying52, rfl⟩⟩
instance : TInfo Try.prog 52 (.agg #[(.slice none 0 0), (.int .i64 0), (.int .i64 0)]) 3 40 := ⟨info_parts (by kernel_rfl), rfl⟩
instance : TPlaces Try.prog 52 [(0, 1), (1, 1), (2, 1)] := ⟨⟨_, Try.underlying52, fun _ => by kernel_rfl⟩⟩
instance : TField Try.prog 52 0 0 := ⟨tfield (s := 1) Try.underlying52 rfl rfl (by kernel_rfl) (by decide)⟩
instance : TField Try.prog 52 1 1 := ⟨tfield (s := 1) Try.underlying52 rfl rfl (by kernel_rfl) (by decide)⟩
instance : TField Try.prog 52 2 2 := ⟨tfield (s := 1) Try.underlying52 rfl rfl (by kernel_rfl) (by decide)⟩
instance : TSlice Try.prog 53 56 := ⟨Try.underlying53⟩
instance : TOne Try.prog 53 := ⟨⟨_, Try.underlying53, rfl⟩⟩
instance : TInfo Try.prog 53 (.slice none 0 0) 1 24 := ⟨info_parts (by kernel_rfl), rfl⟩
instance : TOne Try.prog 54 := ⟨⟨_, Try.underlying54, rfl⟩⟩
instance : TAgg Try.prog 55 := ⟨⟨_, Try.underlying55, rfl⟩⟩
instance : TInfo Try.prog 55 (.agg #[(.int .i64 0), (.slice none 0 0)]) 2 32 := ⟨info_parts (by kernel_rfl), rfl⟩
instance : TPlaces Try.prog 55 [(0, 1), (1, 1)] := ⟨⟨_, Try.underlying55, fun _ => by kernel_rfl⟩⟩
instance : TField Try.prog 55 0 0 := ⟨tfield (s := 1) Try.underlying55 rfl rfl (by kernel_rfl) (by decide)⟩
instance : TField Try.prog 55 1 1 := ⟨tfield (s := 1) Try.underlying55 rfl rfl (by kernel_rfl) (by decide)⟩
instance : TAgg Try.prog 56 := ⟨⟨_, Try.underlying56, rfl⟩⟩
instance : TInfo Try.prog 56 (.agg #[(.int .i64 0), (.slice none 0 0)]) 2 32 := ⟨info_parts (by kernel_rfl), rfl⟩
instance : TPlaces Try.prog 56 [(0, 1), (1, 1)] := ⟨⟨_, Try.underlying56, fun _ => by kernel_rfl⟩⟩
instance : TField Try.prog 56 0 0 := ⟨tfield (s := 1) Try.underlying56 rfl rfl (by kernel_rfl) (by decide)⟩
instance : TField Try.prog 56 1 1 := ⟨tfield (s := 1) Try.underlying56 rfl rfl (by kernel_rfl) (by decide)⟩
instance : TOne Try.prog 57 := ⟨⟨_, Try.underlying57, rfl⟩⟩
instance : TOne Try.prog 58 := ⟨⟨_, Try.underlying58, rfl⟩⟩
instance : TOne Try.prog 59 := ⟨⟨_, Try.underlying59, rfl⟩⟩
instance : TOne Try.prog 60 := ⟨⟨_, Try.underlying60, rfl⟩⟩
instance : TOne Try.prog 61 := ⟨⟨_, Try.underlying61, rfl⟩⟩
instance : TOne Try.prog 62 := ⟨⟨_, Try.underlying62, rfl⟩⟩
instance : TOne Try.prog 63 := ⟨⟨_, Try.underlying63, rfl⟩⟩
instance : TOne Try.prog 64 := ⟨⟨_, Try.underlying64, rfl⟩⟩
instance : TOne Try.prog 65 := ⟨⟨_, Try.underlying65, rfl⟩⟩
instance : TPtr Try.prog 66 88 := ⟨Try.underlying66⟩
instance : TOne Try.prog 66 := ⟨⟨_, Try.underlying66, rfl⟩⟩
instance : TInfo Try.prog 66 (.pointer none) 1 8 := ⟨info_parts (by kernel_rfl), rfl⟩
instance : TAgg Try.prog 67 := ⟨⟨_, Try.underlying67, rfl⟩⟩
instance : TInfo Try.prog 67 (.agg #[(.slice none 0 0), (.slice none 0 0), (.slice none 0 0), (.slice none 0 0), (.pointer none)]) 5 104 := ⟨info_parts (by kernel_rfl), rfl⟩
instance : TPlaces Try.prog 67 [(0, 4), (4, 1)] := ⟨⟨_, Try.underlying67, fun _ => by kernel_rfl⟩⟩
instance : TField Try.prog 67 0 0 := ⟨tfield (s := 4) Try.underlying67 rfl rfl (by kernel_rfl) (by decide)⟩
instance : TField Try.prog 67 1 4 := ⟨tfield (s := 1) Try.underlying67 rfl rfl (by kernel_rfl) (by decide)⟩
instance : TAgg Try.prog 68 := ⟨⟨_, Try.underlying68, rfl⟩⟩
instance : TInfo Try.prog 68 (.agg #[(.slice none 0 0), (.slice none 0 0), (.slice none 0 0), (.slice none 0 0), (.pointer none)]) 5 104 := ⟨info_parts (by kernel_rfl), rfl⟩
instance : TPlaces Try.prog 68 [(0, 4), (4, 1)] := ⟨⟨_, Try.underlying68, fun _ => by kernel_rfl⟩⟩
instance : TField Try.prog 68 0 0 := ⟨tfield (s := 4) Try.underlying68 rfl rfl (by kernel_rfl) (by decide)⟩
instance : TField Try.prog 68 1 4 := ⟨tfield (s := 1) Try.underlying68 rfl rfl (by kernel_rfl) (by decide)⟩
instance : TOne Try.prog 69 := ⟨⟨_, Try.underlying69, rfl⟩⟩
instance : TOne Try.prog 71 := ⟨⟨_, Try.underlying71, rfl⟩⟩
instance : TOne Try.prog 73 := ⟨⟨_, Try.underlying73, rfl⟩⟩
instance : TOne Try.prog 74 := ⟨⟨_, Try.underlying74, rfl⟩⟩
instance : TOne Try.prog 75 := ⟨⟨_, Try.underlying75, rfl⟩⟩
instance : TInt Try.prog 76 .i64 := ⟨Try.underlying76⟩
instance : TOne Try.prog 76 := ⟨⟨_, Try.underlying76, rfl⟩⟩
instance : TInfo Try.prog 76 (.int .i64 0) 1 8 := ⟨info_parts (by kernel_rfl), rfl⟩
instance : TSlice Try.prog 78 23 := ⟨Try.underlying78⟩
instance : TOne Try.prog 78 := ⟨⟨_, Try.underlying78, rfl⟩⟩
instance : TInfo Try.prog 78 (.slice none 0 0) 1 24 := ⟨info_parts (by kernel_rfl), rfl⟩
instance : TOne Try.prog 79 := ⟨⟨_, Try.underlying79, rfl⟩⟩
instance : TOne Try.prog 80 := ⟨⟨_, Try.underlying80, rfl⟩⟩
instance : TOne Try.prog 81 := ⟨⟨_, Try.underlying81, rfl⟩⟩
instance : TOne Try.prog 82 := ⟨⟨_, Try.underlying82, rfl⟩⟩
instance : TOne Try.prog 84 := ⟨⟨_, Try.underlying84, rfl⟩⟩
instance : TOne Try.prog 85 := ⟨⟨_, Try.underlying85, rfl⟩⟩
instance : TSlice Try.prog 86 66 := ⟨Try.underlying86⟩
instance : TOne Try.prog 86 := ⟨⟨_, Try.underlying86, rfl⟩⟩
instance : TInfo Try.prog 86 (.slice none 0 0) 1 24 := ⟨info_parts (by kernel_rfl), rfl⟩
instance : TAgg Try.prog 87 := ⟨⟨_, Try.underlying87, rfl⟩⟩
instance : TInfo Try.prog 87 (.agg #[(.slice none 0 0), (.bool false), (.int .i64 0), (.slice none 0 0), (.pointer none)]) 5 72 := ⟨info_parts (by kernel_rfl), rfl⟩
instance : TPlaces Try.prog 87 [(0, 1), (1, 1), (2, 1), (3, 1), (4, 1)] := ⟨⟨_, Try.underlying87, fun _ => by kernel_rfl⟩⟩
instance : TField Try.prog 87 0 0 := ⟨tfield (s := 1) Try.underlying87 rfl rfl (by kernel_rfl) (by decide)⟩
instance : TField Try.prog 87 1 1 := ⟨tfield (s := 1) Try.underlying87 rfl rfl (by kernel_rfl) (by decide)⟩
instance : TField Try.prog 87 2 2 := ⟨tfield (s := 1) Try.underlying87 rfl rfl (by kernel_rfl) (by decide)⟩
instance : TField Try.prog 87 3 3 := ⟨tfield (s := 1) Try.underlying87 rfl rfl (by kernel_rfl) (by decide)⟩
instance : TField Try.prog 87 4 4 := ⟨tfield (s := 1) Try.underlying87 rfl rfl (by kernel_rfl) (by decide)⟩
instance : TAgg Try.prog 88 := ⟨⟨_, Try.underlying88, rfl⟩⟩
instance : TInfo Try.prog 88 (.agg #[(.slice none 0 0), (.bool false), (.int .i64 0), (.slice none 0 0), (.pointer none)]) 5 72 := ⟨info_parts (by kernel_rfl), rfl⟩
instance : TPlaces Try.prog 88 [(0, 1), (1, 1), (2, 1), (3, 1), (4, 1)] := ⟨⟨_, Try.underlying88, fun _ => by kernel_rfl⟩⟩
instance : TField Try.prog 88 0 0 := ⟨tfield (s := 1) Try.underlying88 rfl rfl (by kernel_rfl) (by decide)⟩
instance : TField Try.prog 88 1 1 := ⟨tfield (s := 1) Try.underlying88 rfl rfl (by kernel_rfl) (by decide)⟩
instance : TField Try.prog 88 2 2 := ⟨tfield (s := 1) Try.underlying88 rfl rfl (by kernel_rfl) (by decide)⟩
instance : TField Try.prog 88 3 3 := ⟨tfield (s := 1) Try.underlying88 rfl rfl (by kernel_rfl) (by decide)⟩
instance : TField Try.prog 88 4 4 := ⟨tfield (s := 1) Try.underlying88 rfl rfl (by kernel_rfl) (by decide)⟩
instance : TOne Try.prog 89 := ⟨⟨_, Try.underlying89, rfl⟩⟩
instance : TOne Try.prog 90 := ⟨⟨_, Try.underlying90, rfl⟩⟩
instance : TOne Try.prog 91 := ⟨⟨_, Try.underlying91, rfl⟩⟩
instance : TOne Try.prog 92 := ⟨⟨_, Try.underlying92, rfl⟩⟩
instance : TOne Try.prog 93 := ⟨⟨_, Try.underlying93, rfl⟩⟩
instance : TOne Try.prog 94 := ⟨⟨_, Try.underlying94, rfl⟩⟩
instance : TOne Try.prog 95 := ⟨⟨_, Try.underlying95, rfl⟩⟩
instance : TInt Try.prog 96 .u64 := ⟨Try.underlying96⟩
instance : TOne Try.prog 96 := ⟨⟨_, Try.underlying96, rfl⟩⟩
instance : TInfo Try.prog 96 (.int .u64 0) 1 8 := ⟨info_parts (by kernel_rfl), rfl⟩
instance : TOne Try.prog 97 := ⟨⟨_, Try.underlying97, rfl⟩⟩
instance : TOne Try.prog 98 := ⟨⟨_, Try.underlying98, rfl⟩⟩
instance : TInt Try.prog 99 .i64 := ⟨Try.underlying99⟩
instance : TOne Try.prog 99 := ⟨⟨_, Try.underlying99, rfl⟩⟩
instance : TInfo Try.prog 99 (.int .i64 0) 1 8 := ⟨info_parts (by kernel_rfl), rfl⟩
instance : TOne Try.prog 101 := ⟨⟨_, Try.underlying101, rfl⟩⟩
instance : TOne Try.prog 102 := ⟨⟨_, Try.underlying102, rfl⟩⟩
instance : TOne Try.prog 103 := ⟨⟨_, Try.underlying103, rfl⟩⟩
instance : TOne Try.prog 104 := ⟨⟨_, Try.underlying104, rfl⟩⟩
instance : TOne Try.prog 106 := ⟨⟨_, Try.underlying106, rfl⟩⟩
instance : TOne Try.prog 107 := ⟨⟨_, Try.underlying107, rfl⟩⟩
instance : TInt Try.prog 108 .u32 := ⟨Try.underlying108⟩
instance : TOne Try.prog 108 := ⟨⟨_, Try.underlying108, rfl⟩⟩
instance : TInfo Try.prog 108 (.int .u32 0) 1 4 := ⟨info_parts (by kernel_rfl), rfl⟩
instance : TOne Try.prog 109 := ⟨⟨_, Try.underlying109, rfl⟩⟩
instance : TInt Try.prog 110 .u64 := ⟨Try.underlying110⟩
instance : TOne Try.prog 110 := ⟨⟨_, Try.underlying110, rfl⟩⟩
instance : TInfo Try.prog 110 (.int .u64 0) 1 8 := ⟨info_parts (by kernel_rfl), rfl⟩
instance : TInt Try.prog 111 .u64 := ⟨Try.underlying111⟩
instance : TOne Try.prog 111 := ⟨⟨_, Try.underlying111, rfl⟩⟩
instance : TInfo Try.prog 111 (.int .u64 0) 1 8 := ⟨info_parts (by kernel_rfl), rfl⟩
instance : TOne Try.prog 112 := ⟨⟨_, Try.underlying112, rfl⟩⟩
instance : TOne Try.prog 113 := ⟨⟨_, Try.underlying113, rfl⟩⟩
instance : TOne Try.prog 114 := ⟨⟨_, Try.underlying114, rfl⟩⟩
instance : TPtr Try.prog 115 3 := ⟨Try.underlying115⟩
instance : TOne Try.prog 115 := ⟨⟨_, Try.underlying115, rfl⟩⟩
instance : TInfo Try.prog 115 (.pointer none) 1 8 := ⟨info_parts (by kernel_rfl), rfl⟩
instance : TOne Try.prog 116 := ⟨⟨_, Try.underlying116, rfl⟩⟩
instance : TPtr Try.prog 117 111 := ⟨Try.underlying117⟩
instance : TOne Try.prog 117 := ⟨⟨_, Try.underlying117, rfl⟩⟩
instance : TInfo Try.prog 117 (.pointer none) 1 8 := ⟨info_parts (by kernel_rfl), rfl⟩
instance : TOne Try.prog 119 := ⟨⟨_, Try.underlying119, rfl⟩⟩
instance : TOne Try.prog 120 := ⟨⟨_, Try.underlying120, rfl⟩⟩
instance : TAgg Try.prog 121 := ⟨⟨_, Try.underlying121, rfl⟩⟩
instance : TInfo Try.prog 121 (.agg #[(.pointer none), (.pointer none), (.pointer none), (.string (ByteArray.mk #[]))]) 4 40 := ⟨info_parts (by kernel_rfl), rfl⟩
instance : TPlaces Try.prog 121 [(0, 1), (1, 1), (2, 1), (3, 1)] := ⟨⟨_, Try.underlying121, fun _ => by kernel_rfl⟩⟩
instance : TField Try.prog 121 0 0 := ⟨tfield (s := 1) Try.underlying121 rfl rfl (by kernel_rfl) (by decide)⟩
instance : TField Try.prog 121 1 1 := ⟨tfield (s := 1) Try.underlying121 rfl rfl (by kernel_rfl) (by decide)⟩
instance : TField Try.prog 121 2 2 := ⟨tfield (s := 1) Try.underlying121 rfl rfl (by kernel_rfl) (by decide)⟩
instance : TField Try.prog 121 3 3 := ⟨tfield (s := 1) Try.underlying121 rfl rfl (by kernel_rfl) (by decide)⟩
instance : TAgg Try.prog 122 := ⟨⟨_, Try.underlying122, rfl⟩⟩
instance : TInfo Try.prog 122 (.agg #[(.pointer none), (.pointer none), (.pointer none), (.string (ByteArray.mk #[]))]) 4 40 := ⟨info_parts (by kernel_rfl), rfl⟩
instance : TPlaces Try.prog 122 [(0, 1), (1, 1), (2, 1), (3, 1)] := ⟨⟨_, Try.underlying122, fun _ => by kernel_rfl⟩⟩
instance : TField Try.prog 122 0 0 := ⟨tfield (s := 1) Try.underlying122 rfl rfl (by kernel_rfl) (by decide)⟩
instance : TField Try.prog 122 1 1 := ⟨tfield (s := 1) Try.underlying122 rfl rfl (by kernel_rfl) (by decide)⟩
instance : TField Try.prog 122 2 2 := ⟨tfield (s := 1) Try.underlying122 rfl rfl (by kernel_rfl) (by decide)⟩
instance : TField Try.prog 122 3 3 := ⟨tfield (s := 1) Try.underlying122 rfl rfl (by kernel_rfl) (by decide)⟩
instance : TAgg Try.prog 123 := ⟨⟨_, Try.underlying123, rfl⟩⟩
instance : TInfo Try.prog 123 (.agg #[]) 0 0 := ⟨info_parts (by kernel_rfl), rfl⟩
instance : TAgg Try.prog 124 := ⟨⟨_, Try.underlying124, rfl⟩⟩
instance : TInfo Try.prog 124 (.agg #[]) 0 0 := ⟨info_parts (by kernel_rfl), rfl⟩
instance : TAgg Try.prog 125 := ⟨⟨_, Try.underlying125, rfl⟩⟩
instance : TInfo Try.prog 125 (.agg #[]) 0 0 := ⟨info_parts (by kernel_rfl), rfl⟩
instance : TOne Try.prog 126 := ⟨⟨_, Try.underlying126, rfl⟩⟩
instance : TInt Try.prog 127 .u8 := ⟨Try.underlying127⟩
instance : TOne Try.prog 127 := ⟨⟨_, Try.underlying127, rfl⟩⟩
instance : TInfo Try.prog 127 (.int .u8 0) 1 1 := ⟨info_parts (by kernel_rfl), rfl⟩
instance : TInt Try.prog 128 .u8 := ⟨Try.underlying128⟩
instance : TOne Try.prog 128 := ⟨⟨_, Try.underlying128, rfl⟩⟩
instance : TInfo Try.prog 128 (.int .u8 0) 1 1 := ⟨info_parts (by kernel_rfl), rfl⟩
instance : TOne Try.prog 129 := ⟨⟨_, Try.underlying129, rfl⟩⟩
instance : TPtr Try.prog 130 5 := ⟨Try.underlying130⟩
instance : TOne Try.prog 130 := ⟨⟨_, Try.underlying130, rfl⟩⟩
instance : TInfo Try.prog 130 (.pointer none) 1 8 := ⟨info_parts (by kernel_rfl), rfl⟩
instance : TInt Try.prog 131 .i32 := ⟨Try.underlying131⟩
instance : TOne Try.prog 131 := ⟨⟨_, Try.underlying131, rfl⟩⟩
instance : TInfo Try.prog 131 (.int .i32 0) 1 4 := ⟨info_parts (by kernel_rfl), rfl⟩
instance : TInt Try.prog 132 .i32 := ⟨Try.underlying132⟩
instance : TOne Try.prog 132 := ⟨⟨_, Try.underlying132, rfl⟩⟩
instance : TInfo Try.prog 132 (.int .i32 0) 1 4 := ⟨info_parts (by kernel_rfl), rfl⟩
instance : TAgg Try.prog 133 := ⟨⟨_, Try.underlying133, rfl⟩⟩
instance : TInfo Try.prog 133 (.agg #[(.int .u64 0), (.int .u64 0), (.int .u32 0), (.int .u8 0), (.int .u8 0), (.int .u8 0), (.int .u8 0), .nilFunc, (.pointer none), (.int .i32 0), (.int .i32 0)]) 11 48 := ⟨info_parts (by kernel_rfl), rfl⟩
instance : TPlaces Try.prog 133 [(0, 1), (1, 1), (2, 1), (3, 1), (4, 1), (5, 1), (6, 1), (7, 1), (8, 1), (9, 1), (10, 1)] := ⟨⟨_, Try.underlying133, fun _ => by kernel_rfl⟩⟩
instance : TField Try.prog 133 0 0 := ⟨tfield (s := 1) Try.underlying133 rfl rfl (by kernel_rfl) (by decide)⟩
instance : TField Try.prog 133 1 1 := ⟨tfield (s := 1) Try.underlying133 rfl rfl (by kernel_rfl) (by decide)⟩
instance : TField Try.prog 133 2 2 := ⟨tfield (s := 1) Try.underlying133 rfl rfl (by kernel_rfl) (by decide)⟩
instance : TField Try.prog 133 3 3 := ⟨tfield (s := 1) Try.underlying133 rfl rfl (by kernel_rfl) (by decide)⟩
instance : TField Try.prog 133 4 4 := ⟨tfield (s := 1) Try.underlying133 rfl rfl (by kernel_rfl) (by decide)⟩
instance : TField Try.prog 133 5 5 := ⟨tfield (s := 1) Try.underlying133 rfl rfl (by kernel_rfl) (by decide)⟩
instance : TField Try.prog 133 6 6 := ⟨tfield (s := 1) Try.underlying133 rfl rfl (by kernel_rfl) (by decide)⟩
instance : TField Try.prog 133 7 7 := ⟨tfield (s := 1) Try.underlying133 rfl rfl (by kernel_rfl) (by decide)⟩
instance : TField Try.prog 133 8 8 := ⟨tfield (s := 1) Try.underlying133 rfl rfl (by kernel_rfl) (by decide)⟩
instance : TField Try.prog 133 9 9 := ⟨tfield (s := 1) Try.underlying133 rfl rfl (by kernel_rfl) (by decide)⟩
instance : TField Try.prog 133 10 10 := ⟨tfield (s := 1) Try.underlying133 rfl rfl (by kernel_rfl) (by decide)⟩
instance : TAgg Try.prog 134 := ⟨⟨_, Try.underlying134, rfl⟩⟩
instance : TInfo Try.prog 134 (.agg #[(.int .u64 0), (.int .u64 0), (.int .u32 0), (.int .u8 0), (.int .u8 0), (.int .u8 0), (.int .u8 0), .nilFunc, (.pointer none), (.int .i32 0), (.int .i32 0)]) 11 48 := ⟨info_parts (by kernel_rfl), rfl⟩
instance : TPlaces Try.prog 134 [(0, 1), (1, 1), (2, 1), (3, 1), (4, 1), (5, 1), (6, 1), (7, 1), (8, 1), (9, 1), (10, 1)] := ⟨⟨_, Try.underlying134, fun _ => by kernel_rfl⟩⟩
instance : TField Try.prog 134 0 0 := ⟨tfield (s := 1) Try.underlying134 rfl rfl (by kernel_rfl) (by decide)⟩
instance : TField Try.prog 134 1 1 := ⟨tfield (s := 1) Try.underlying134 rfl rfl (by kernel_rfl) (by decide)⟩
instance : TField Try.prog 134 2 2 := ⟨tfield (s := 1) Try.underlying134 rfl rfl (by kernel_rfl) (by decide)⟩
instance : TField Try.prog 134 3 3 := ⟨tfield (s := 1) Try.underlying134 rfl rfl (by kernel_rfl) (by decide)⟩
instance : TField Try.prog 134 4 4 := ⟨tfield (s := 1) Try.underlying134 rfl rfl (by kernel_rfl) (by decide)⟩
instance : TField Try.prog 134 5 5 := ⟨tfield (s := 1) Try.underlying134 rfl rfl (by kernel_rfl) (by decide)⟩
instance : TField Try.prog 134 6 6 := ⟨tfield (s := 1) Try.underlying134 rfl rfl (by kernel_rfl) (by decide)⟩
instance : TField Try.prog 134 7 7 := ⟨tfield (s := 1) Try.underlying134 rfl rfl (by kernel_rfl) (by decide)⟩
instance : TField Try.prog 134 8 8 := ⟨tfield (s := 1) Try.underlying134 rfl rfl (by kernel_rfl) (by decide)⟩
instance : TField Try.prog 134 9 9 := ⟨tfield (s := 1) Try.underlying134 rfl rfl (by kernel_rfl) (by decide)⟩
instance : TField Try.prog 134 10 10 := ⟨tfield (s := 1) Try.underlying134 rfl rfl (by kernel_rfl) (by decide)⟩
instance : Callable Try.prog 2 := ⟨⟨_, Try.func2, rfl, by decide⟩⟩
instance : Callable Try.prog 3 := ⟨⟨_, Try.func3, rfl, by decide⟩⟩
instance : Callable Try.prog 4 := ⟨⟨_, Try.func4, rfl, by decide⟩⟩
instance : Callable Try.prog 5 := ⟨⟨_, Try.func5, rfl, by decide⟩⟩
instance : Callable Try.prog 6 := ⟨⟨_, Try.func6, rfl, by decide⟩⟩
instance : Callable Try.prog 7 := ⟨⟨_, Try.func7, rfl, by decide⟩⟩
instance : Callable Try.prog 8 := ⟨⟨_, Try.func8, rfl, by decide⟩⟩
instance : Callable Try.prog 9 := ⟨⟨_, Try.func9, rfl, by decide⟩⟩
instance : Callable Try.prog 10 := ⟨⟨_, Try.func10, rfl, by decide⟩⟩
instance : Callable Try.prog 11 := ⟨⟨_, Try.func11, rfl, by decide⟩⟩
instance : Callable Try.prog 12 := ⟨⟨_, Try.func12, rfl, by decide⟩⟩
instance : Callable Try.prog 13 := ⟨⟨_, Try.func13, rfl, by decide⟩⟩
instance : Callable Try.prog 14 := ⟨⟨_, Try.func14, rfl, by decide⟩⟩
instance : Callable Try.prog 15 := ⟨⟨_, Try.func15, rfl, by decide⟩⟩
instance : Callable Try.prog 16 := ⟨⟨_, Try.func16, rfl, by decide⟩⟩
instance : Callable Try.prog 17 := ⟨⟨_, Try.func17, rfl, by decide⟩⟩
instance : Callable Try.prog 18 := ⟨⟨_, Try.func18, rfl, by decide⟩⟩
instance : Callable Try.prog 19 := ⟨⟨_, Try.func19, rfl, by decide⟩⟩
instance : Callable Try.prog 20 := ⟨⟨_, Try.func20, rfl, by decide⟩⟩
instance : Callable Try.prog 21 := ⟨⟨_, Try.func21, rfl, by decide⟩⟩
instance : Callable Try.prog 22 := ⟨⟨_, Try.func22, rfl, by decide⟩⟩
instance : Callable Try.prog 23 := ⟨⟨_, Try.func23, rfl, by decide⟩⟩
instance : Callable Try.prog 24 := ⟨⟨_, Try.func24, rfl, by decide⟩⟩
instance : Callable Try.prog 25 := ⟨⟨_, Try.func25, rfl, by decide⟩⟩
instance : Callable Try.prog 26 := ⟨⟨_, Try.func26, rfl, by decide⟩⟩
instance : Callable Try.prog 27 := ⟨⟨_, Try.func27, rfl, by decide⟩⟩
instance : Callable Try.prog 28 := ⟨⟨_, Try.func28, rfl, by decide⟩⟩
instance : Callable Try.prog 29 := ⟨⟨_, Try.func29, rfl, by decide⟩⟩
instance : Callable Try.prog 30 := ⟨⟨_, Try.func30, rfl, by decide⟩⟩
instance : Callable Try.prog 31 := ⟨⟨_, Try.func31, rfl, by decide⟩⟩
instance : Callable Try.prog 32 := ⟨⟨_, Try.func32, rfl, by decide⟩⟩
instance : Callable Try.prog 33 := ⟨⟨_, Try.func33, rfl, by decide⟩⟩
instance : Callable Try.prog 34 := ⟨⟨_, Try.func34, rfl, by decide⟩⟩
instance : Callable Try.prog 35 := ⟨⟨_, Try.func35, rfl, by decide⟩⟩
instance : Callable Try.prog 36 := ⟨⟨_, Try.func36, rfl, by decide⟩⟩
instance : Callable Try.prog 37 := ⟨⟨_, Try.func37, rfl, by decide⟩⟩
instance : Callable Try.prog 38 := ⟨⟨_, Try.func38, rfl, by decide⟩⟩
instance : Callable Try.prog 39 := ⟨⟨_, Try.func39, rfl, by decide⟩⟩
instance : Callable Try.prog 40 := ⟨⟨_, Try.func40, rfl, by decide⟩⟩
instance : Callable Try.prog 41 := ⟨⟨_, Try.func41, rfl, by decide⟩⟩
instance : Callable Try.prog 42 := ⟨⟨_, Try.func42, rfl, by decide⟩⟩
instance : Callable Try.prog 43 := ⟨⟨_, Try.func43, rfl, by decide⟩⟩
instance : Callable Try.prog 44 := ⟨⟨_, Try.func44, rfl, by decide⟩⟩
instance : Callable Try.prog 45 := ⟨⟨_, Try.func45, rfl, by decide⟩⟩
instance : Callable Try.prog 46 := ⟨⟨_, Try.func46, rfl, by decide⟩⟩
instance : Callable Try.prog 47 := ⟨⟨_, Try.func47, rfl, by decide⟩⟩
instance : Callable Try.prog 48 := ⟨⟨_, Try.func48, rfl, by decide⟩⟩
instance : Callable Try.prog 49 := ⟨⟨_, Try.func49, rfl, by decide⟩⟩
instance : Callable Try.prog 50 := ⟨⟨_, Try.func50, rfl, by decide⟩⟩
instance : Callable Try.prog 51 := ⟨⟨_, Try.func51, rfl, by decide⟩⟩
instance : Callable Try.prog 52 := ⟨⟨_, Try.func52, rfl, by decide⟩⟩
instance : Callable Try.prog 53 := ⟨⟨_, Try.func53, rfl, by decide⟩⟩
instance : Callable Try.prog 54 := ⟨⟨_, Try.func54, rfl, by decide⟩⟩
instance : Callable Try.prog 55 := ⟨⟨_, Try.func55, rfl, by decide⟩⟩
instance : Callable Try.prog 56 := ⟨⟨_, Try.func56, rfl, by decide⟩⟩
instance : Callable Try.prog 57 := ⟨⟨_, Try.func57, rfl, by decide⟩⟩
instance : Callable Try.prog 58 := ⟨⟨_, Try.func58, rfl, by decide⟩⟩
instance : Callable Try.prog 59 := ⟨⟨_, Try.func59, rfl, by decide⟩⟩
instance : Callable Try.prog 60 := ⟨⟨_, Try.func60, rfl, by decide⟩⟩
instance : Callable Try.prog 61 := ⟨⟨_, Try.func61, rfl, by decide⟩⟩
instance : Callable Try.prog 62 := ⟨⟨_, Try.func62, rfl, by decide⟩⟩
instance : Callable Try.prog 63 := ⟨⟨_, Try.func63, rfl, by decide⟩⟩
instance : Callable Try.prog 64 := ⟨⟨_, Try.func64, rfl, by decide⟩⟩
instance : Callable Try.prog 65 := ⟨⟨_, Try.func65, rfl, by decide⟩⟩
instance : Callable Try.prog 66 := ⟨⟨_, Try.func66, rfl, by decide⟩⟩
instance : Callable Try.prog 67 := ⟨⟨_, Try.func67, rfl, by decide⟩⟩
instance : Callable Try.prog 68 := ⟨⟨_, Try.func68, rfl, by decide⟩⟩
instance : Callable Try.prog 69 := ⟨⟨_, Try.func69, rfl, by decide⟩⟩
instance : Callable Try.prog 70 := ⟨⟨_, Try.func70, rfl, by decide⟩⟩
instance : Callable Try.prog 71 := ⟨⟨_, Try.func71, rfl, by decide⟩⟩
instance : Callable Try.prog 72 := ⟨⟨_, Try.func72, rfl, by decide⟩⟩
instance : Mixed Try.prog := ⟨by kernel_rfl⟩
end Go.Proofs.Ytfbcjknlihopcaa

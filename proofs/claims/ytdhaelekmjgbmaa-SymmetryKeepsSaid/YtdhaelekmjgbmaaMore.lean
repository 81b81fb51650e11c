/- Own text: rules of the operations convert, typeAssert, slice, for the calculus of XCore. They hold for every program. -/
import Derived.Test.YtdhaelekmjgbmaaArr
namespace Go.Proofs.Ytdhaelekmjgbmaa
open Go Go.RowKit
section
variable {P : Program} {l : Env} {w : World} {dst : Option Tmp} {ty : TypeId} {pos : String} {aft : Array Edge}
theorem ev_convert {s t : TypeId} {k : IntKind} [hs : TInt P s k] [ht : TInt P t .i64] {x : Operand} {a : Int} (hx : opv l x = some (.int k a)) (h1 : -9223372036854775808 ≤ a) (h2 : a ≤ 9223372036854775807) : Ev P ⟨dst, .convert s t x, ty, pos, aft, none⟩ l w (.int .i64 a) := fun _ _ d ha => by
  simp [execOp, ha.eval hx, convert, run_underlying hs.eq, run_underlying ht.eq, Conv.intToInt, wrap_i64 h1 h2]
theorem ev_assertY {s t : TypeId} {k : IntKind} [ht : TInt P t k] {x : Operand} {v : Value} (hx : opv l x = some (.iface t v)) : Ev P ⟨dst, .typeAssert x s t true, ty, pos, aft, none⟩ l w (.tuple #[v, .bool true]) := fun _ _ d ha => by
  simp [execOp, ha.eval hx, Instr.typeAssert, run_underlying ht.eq]
theorem ev_sliceLo {t e : TypeId} [h : TSlice P t e] {z : Value} {size bytes : Nat} [TInfo P e z size bytes] {x y : Operand} {k : IntKind} {A : Option Addr} {m c lo : Nat} {q : Int} (hx : opv l x = some (.slice A m c)) (hy : opv l y = some (.int k q)) (hq : q = (lo : Int)) (hlo : lo ≤ m) :
    Ev P ⟨dst, .slice t x (some y) none none, ty, pos, aft, none⟩ l w (.slice (if c = lo then A else A.map (·.add (lo * size))) (m - lo) (c - lo)) := fun _ _ d ha => by
  subst hq
  simp [execOp, ha.eval hx, ha.eval hy, Instr.sliceAt, Instr.slice, run_underlying h.eq, Instr.sliceBounds, Instr.sliceBound, asIntOf, hlo, run_sizeOf (P := P) (t := e)]
theorem ev_sliceHi {t e : TypeId} [h : TSlice P t e] {z : Value} {size bytes : Nat} [TInfo P e z size bytes] {x y : Operand} {k : IntKind} {A : Option Addr} {m c hi : Nat} {q : Int} (hx : opv l x = some (.slice A m c)) (hy : opv l y = some (.int k q)) (hq : q = (hi : Int)) (hhi : hi ≤ c) :
    Ev P ⟨dst, .slice t x none (some y) none, ty, pos, aft, none⟩ l w (.slice (if c = 0 then A else A.map (·.add (0 * size))) hi c) := fun _ _ d ha => by
  subst hq
  simp [execOp, ha.eval hx, ha.eval hy, Instr.sliceAt, Instr.slice, run_underlying h.eq, Instr.sliceBounds, Instr.sliceBound, asIntOf, hhi, run_sizeOf (P := P) (t := e)]
theorem ev_sliceLH {t e : TypeId} [h : TSlice P t e] {z : Value} {size bytes : Nat} [TInfo P e z size bytes] {x y y2 : Operand} {k k2 : IntKind} {A : Option Addr} {m c lo hi : Nat} {q q2 : Int} (hx : opv l x = some (.slice A m c)) (hy : opv l y = some (.int k q)) (hy2 : opv l y2 = some (.int k2 q2)) (hq : q = (lo : Int)) (hq2 : q2 = (hi : Int)) (hlo : lo ≤ hi) (hhi : hi ≤ c) :
    Ev P ⟨dst, .slice t x (some y) (some y2) none, ty, pos, aft, none⟩ l w (.slice (if c = lo then A else A.map (·.add (lo * size))) (hi - lo) (c - lo)) := fun _ _ d ha => by
  subst hq; subst hq2
  simp [execOp, ha.eval hx, ha.eval hy, ha.eval hy2, Instr.sliceAt, Instr.slice, run_underlying h.eq, Instr.sliceBounds, Instr.sliceBound, asIntOf, hhi, hlo, run_sizeOf (P := P) (t := e)]
end
end Go.Proofs.Ytdhaelekmjgbmaa

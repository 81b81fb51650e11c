/- Own text: the rules of the operations that only read, for the calculus of XCore. They hold for every program. -/
import Derived.Test.YtdhaelekmjgbmaaCore
import Derived.OwnWalk
namespace Go.Proofs.Ytdhaelekmjgbmaa
open Go Go.RowKit

class TSlice (P : Program) (t : TypeId) (e : outParam TypeId) : Prop where eq : P.underlying t = some (.slice e)
class TStr (P : Program) (t : TypeId) : Prop where eq : P.underlying t = some .string
class TPtr (P : Program) (t : TypeId) (e : outParam TypeId) : Prop where eq : P.underlying t = some (.pointer e)
class TIface (P : Program) (t : TypeId) : Prop where eq : ∃ ms, P.underlying t = some (.interface ms)
class TInt (P : Program) (t : TypeId) (k : outParam IntKind) : Prop where eq : P.underlying t = some (.int k)
class TOne (P : Program) (t : TypeId) : Prop where eq : ∃ d, P.underlying t = some d ∧ (match d with | .struct _ | .array _ _ => false | _ => true) = true
class TAgg (P : Program) (t : TypeId) : Prop where eq : ∃ d, P.underlying t = some d ∧ (match d with | .struct _ | .array _ _ => true | _ => false) = true
class TInfo (P : Program) (t : TypeId) (z : outParam Value) (size bytes : outParam Nat) : Prop where
  eq : ∃ i, P.info? t = some i ∧ i.zero = some z ∧ i.size = size ∧ i.bytes = bytes
  sz : z.cells.size = size
class TField (P : Program) (t : TypeId) (f : Nat) (off : outParam Nat) : Prop where eq : ∃ fs fd i, P.underlying t = some (.struct fs) ∧ fs[f]? = some fd ∧ fd.offset = off ∧ P.info? fd.type = some i ∧ i.size ≠ 0

theorem add_mk (b o k : Nat) : (⟨b, o, none⟩ : Addr).add k = ⟨b, o + k, none⟩ := by
  unfold Addr.add
  by_cases h : k = 0 <;> simp [h]

section
variable {P : Program} {l : Env} {w : World} {dst : Option Tmp} {ty : TypeId} {pos : String} {aft : Array Edge}
theorem run_sizeOf {t : TypeId} {z : Value} {size bytes : Nat} [h : TInfo P t z size bytes] (w : World) : (sizeOf t).run P w = .ok size w := by
  obtain ⟨i, hi, _, hs, _⟩ := h.eq
  simp [sizeOf, typeInfo, hi, hs]
theorem run_typeInfo {t : TypeId} {i : TypeInfo} (hi : P.info? t = some i) (w : World) : (typeInfo t).run P w = .ok i w := by
  simp [typeInfo, hi]
theorem run_zero {t : TypeId} {z : Value} {size bytes : Nat} [h : TInfo P t z size bytes] (w : World) : (zeroValue t).run P w = .ok z w := by
  obtain ⟨i, hi, hz, _, _⟩ := h.eq
  simp [zeroValue, typeInfo, hi, hz]
theorem run_isAgg_no {t : TypeId} [h : TOne P t] (w : World) : (isAgg t).run P w = .ok false w := by
  obtain ⟨d, hd, hm⟩ := h.eq
  cases d <;> simp_all [isAgg, run_underlying hd]
theorem run_isAgg_yes {t : TypeId} [h : TAgg P t] (w : World) : (isAgg t).run P w = .ok true w := by
  obtain ⟨d, hd, hm⟩ := h.eq
  cases d <;> simp_all [isAgg, run_underlying hd]

theorem ev_move {x : Operand} {v : Value} (hx : opv l x = some v) : Ev P ⟨dst, .move x, ty, pos, aft, none⟩ l w v := fun _ a d ha => by simp [execOp, ha.eval hx]
theorem ev_assign {x : Operand} {v : Value} (hx : opv l x = some v) : Ev P ⟨dst, .assign x, ty, pos, aft, none⟩ l w v := fun _ a d ha => by simp [execOp, ha.eval hx]
theorem ev_pickT {c x y : Operand} {v : Value} (hc : opv l c = some (.bool true)) (hx : opv l x = some v) : Ev P ⟨dst, .pick c x y, ty, pos, aft, none⟩ l w v := fun _ a d ha => by simp [execOp, ha.eval hx, ha.eval hc, asBool]
theorem ev_pickF {c x y : Operand} {v : Value} (hc : opv l c = some (.bool false)) (hy : opv l y = some v) : Ev P ⟨dst, .pick c x y, ty, pos, aft, none⟩ l w v := fun _ a d ha => by simp [execOp, ha.eval hy, ha.eval hc, asBool]
theorem ev_not {t : TypeId} {x : Operand} {b : Bool} (hx : opv l x = some (.bool b)) : Ev P ⟨dst, .unOp .not t x, ty, pos, aft, none⟩ l w (.bool (!b)) := fun _ a d ha => by simp [execOp, ha.eval hx, Op.unary]
theorem ev_notT {t : TypeId} {x : Operand} (hx : opv l x = some (.bool true)) : Ev P ⟨dst, .unOp .not t x, ty, pos, aft, none⟩ l w (.bool false) := ev_not hx
theorem ev_notF {t : TypeId} {x : Operand} (hx : opv l x = some (.bool false)) : Ev P ⟨dst, .unOp .not t x, ty, pos, aft, none⟩ l w (.bool true) := ev_not hx
theorem ev_lss {t u : TypeId} {x y : Operand} {k : IntKind} {a b : Int} (hx : opv l x = some (.int k a)) (hy : opv l y = some (.int k b)) : Ev P ⟨dst, .binOp .lss t x y u, ty, pos, aft, none⟩ l w (.bool (decide (a < b))) := fun _ _ d ha => by simp [execOp, ha.eval hx, ha.eval hy, eqGuard, binOp, Op.intCmp]
theorem ev_leq {t u : TypeId} {x y : Operand} {k : IntKind} {a b : Int} (hx : opv l x = some (.int k a)) (hy : opv l y = some (.int k b)) : Ev P ⟨dst, .binOp .leq t x y u, ty, pos, aft, none⟩ l w (.bool (decide (a ≤ b))) := fun _ _ d ha => by simp [execOp, ha.eval hx, ha.eval hy, eqGuard, binOp, Op.intCmp]
theorem ev_gtr {t u : TypeId} {x y : Operand} {k : IntKind} {a b : Int} (hx : opv l x = some (.int k a)) (hy : opv l y = some (.int k b)) : Ev P ⟨dst, .binOp .gtr t x y u, ty, pos, aft, none⟩ l w (.bool (decide (b < a))) := fun _ _ d ha => by simp [execOp, ha.eval hx, ha.eval hy, eqGuard, binOp, Op.intCmp]
theorem ev_geq {t u : TypeId} {x y : Operand} {k : IntKind} {a b : Int} (hx : opv l x = some (.int k a)) (hy : opv l y = some (.int k b)) : Ev P ⟨dst, .binOp .geq t x y u, ty, pos, aft, none⟩ l w (.bool (decide (b ≤ a))) := fun _ _ d ha => by simp [execOp, ha.eval hx, ha.eval hy, eqGuard, binOp, Op.intCmp]
theorem ev_eql {t u : TypeId} {x y : Operand} {k : IntKind} {a b : Int} (hx : opv l x = some (.int k a)) (hy : opv l y = some (.int k b)) : Ev P ⟨dst, .binOp .eql t x y u, ty, pos, aft, none⟩ l w (.bool (decide (a = b))) := fun _ _ d ha => by
  simp [execOp, ha.eval hx, ha.eval hy, eqGuard, binOp, Op.intCmp]
  by_cases h : a = b <;> simp [h]
theorem ev_neq {t u : TypeId} {x y : Operand} {k : IntKind} {a b : Int} (hx : opv l x = some (.int k a)) (hy : opv l y = some (.int k b)) : Ev P ⟨dst, .binOp .neq t x y u, ty, pos, aft, none⟩ l w (.bool (!decide (a = b))) := fun _ _ d ha => by
  simp [execOp, ha.eval hx, ha.eval hy, eqGuard, binOp, Op.intCmp]
  by_cases h : a = b <;> simp [h]
theorem wrap_i64 {z : Int} (h1 : -9223372036854775808 ≤ z) (h2 : z ≤ 9223372036854775807) : IntKind.i64.wrap z = z := by
  rw [IntKind.wrap_i64]; omega
theorem ev_add {t u : TypeId} {x y : Operand} {a b : Int} (hx : opv l x = some (.int .i64 a)) (hy : opv l y = some (.int .i64 b)) (h : -9223372036854775808 ≤ a + b ∧ a + b ≤ 9223372036854775807) : Ev P ⟨dst, .binOp .add t x y u, ty, pos, aft, none⟩ l w (.int .i64 (a + b)) := fun _ _ d ha => by
  simp [execOp, ha.eval hx, ha.eval hy, eqGuard, binOp, Op.intArith, wrap_i64 h.1 h.2]
theorem ev_sub {t u : TypeId} {x y : Operand} {a b : Int} (hx : opv l x = some (.int .i64 a)) (hy : opv l y = some (.int .i64 b)) (h : -9223372036854775808 ≤ a - b ∧ a - b ≤ 9223372036854775807) : Ev P ⟨dst, .binOp .sub t x y u, ty, pos, aft, none⟩ l w (.int .i64 (a - b)) := fun _ _ d ha => by
  simp [execOp, ha.eval hx, ha.eval hy, eqGuard, binOp, Op.intArith, wrap_i64 h.1 h.2]
theorem ev_mul {t u : TypeId} {x y : Operand} {a b : Int} (hx : opv l x = some (.int .i64 a)) (hy : opv l y = some (.int .i64 b)) (h : -9223372036854775808 ≤ a * b ∧ a * b ≤ 9223372036854775807) : Ev P ⟨dst, .binOp .mul t x y u, ty, pos, aft, none⟩ l w (.int .i64 (a * b)) := fun _ _ d ha => by
  simp [execOp, ha.eval hx, ha.eval hy, eqGuard, binOp, Op.intArith, wrap_i64 h.1 h.2]
/-- i++ at a natural number. -/
theorem ev_inc {t u : TypeId} {x : Operand} {a : Nat} (hx : opv l x = some (.int .i64 (a : Int))) (h : a < 9223372036854775807) : Ev P ⟨dst, .binOp .add t x (.const (.int .i64 1)) u, ty, pos, aft, none⟩ l w (.int .i64 ((a + 1 : Nat) : Int)) := fun _ _ d ha => by
  simp [execOp, ha.eval hx, ha.eval (x := .const (.int .i64 1)) rfl, eqGuard, binOp, Op.intArith, wrap_i64 (z := (a : Int) + 1) (by omega) (by omega)]
theorem ev_rem {t u : TypeId} {x y : Operand} {k : IntKind} {a b : Int} (hx : opv l x = some (.int k a)) (hy : opv l y = some (.int k b)) (ha0 : 0 ≤ a) (hb : 0 < b) : Ev P ⟨dst, .binOp .rem t x y u, ty, pos, aft, none⟩ l w (.int k (a % b)) := fun _ _ d ha => by
  have : b ≠ 0 := by omega
  simp [execOp, ha.eval hx, ha.eval hy, eqGuard, binOp, Op.intDiv, this, Int.tmod_eq_emod_of_nonneg ha0]
theorem ev_quo {t u : TypeId} {x y : Operand} {a b : Int} (hx : opv l x = some (.int .i64 a)) (hy : opv l y = some (.int .i64 b)) (ha0 : 0 ≤ a) (hb : 0 < b) (hm : a ≤ 9223372036854775807) : Ev P ⟨dst, .binOp .quo t x y u, ty, pos, aft, none⟩ l w (.int .i64 (a / b)) := fun _ _ d ha => by
  have hn : b ≠ 0 := by omega
  have h1 : 0 ≤ a / b := Int.ediv_nonneg ha0 (by omega)
  have h2 : a / b ≤ a := Int.ediv_le_self b ha0
  simp [execOp, ha.eval hx, ha.eval hy, eqGuard, binOp, Op.intDiv, hn, Int.tdiv_eq_ediv_of_nonneg ha0, wrap_i64 (z := a / b) (by omega) (by omega)]
theorem ev_len {t e : TypeId} [h : TSlice P t e] {x : Operand} {A : Option Addr} {m c : Nat} (hx : opv l x = some (.slice A m c)) : Ev P ⟨dst, .call { callee := .builtin .len, args := #[x], argTypes := #[t] }, ty, pos, aft, none⟩ l w (.int .i64 (m : Int)) := fun _ a d ha => by
  simp [execOp, resolve, invoke, builtin, ha.eval hx, Builtin.len_, run_underlying h.eq, goInt]
theorem ev_lenstr {t : TypeId} [h : TStr P t] {x : Operand} {s : ByteArray} (hx : opv l x = some (.string s)) : Ev P ⟨dst, .call { callee := .builtin .len, args := #[x], argTypes := #[t] }, ty, pos, aft, none⟩ l w (.int .i64 (s.size : Int)) := fun _ a d ha => by
  simp [execOp, resolve, invoke, builtin, ha.eval hx, Builtin.len_, run_underlying h.eq, goInt]
theorem ev_min {t1 t2 : TypeId} {x y : Operand} {k : IntKind} {a b : Int} (hx : opv l x = some (.int k a)) (hy : opv l y = some (.int k b)) : Ev P ⟨dst, .call { callee := .builtin .min, args := #[x, y], argTypes := #[t1, t2] }, ty, pos, aft, none⟩ l w (.int k (min a b)) := fun _ _ d ha => by
  simp [execOp, resolve, invoke, builtin, ha.eval hx, ha.eval hy, Builtin.min_, Builtin.min2]
  by_cases h : b < a <;> simp [h] <;> omega
theorem ev_max {t1 t2 : TypeId} {x y : Operand} {k : IntKind} {a b : Int} (hx : opv l x = some (.int k a)) (hy : opv l y = some (.int k b)) : Ev P ⟨dst, .call { callee := .builtin .max, args := #[x, y], argTypes := #[t1, t2] }, ty, pos, aft, none⟩ l w (.int k (max a b)) := fun _ _ d ha => by
  simp [execOp, resolve, invoke, builtin, ha.eval hx, ha.eval hy, Builtin.max_, Builtin.max2]
  by_cases h : a < b <;> simp [h] <;> omega
theorem ev_indexAddr {t e : TypeId} [h : TSlice P t e] {z : Value} {size bytes : Nat} [hi : TInfo P e z size bytes] {x i : Operand} {k : IntKind} {b o m c j : Nat} {q : Int} (hx : opv l x = some (.slice (some ⟨b, o, none⟩) m c)) (hq : opv l i = some (.int k q)) (hj : q = (j : Int)) (hlt : j < m) :
    Ev P ⟨dst, .indexAddr t x i, ty, pos, aft, none⟩ l w (.pointer (some ⟨b, o + j * size, none⟩)) := fun _ a d ha => by
  subst hj
  simp [execOp, ha.eval hx, ha.eval hq, Instr.indexAt, asIntOf, run_underlying h.eq, run_sizeOf (P := P) (t := e), add_mk, hlt]
theorem ev_fieldAddr {t : TypeId} {f off : Nat} [h : TField P t f off] {x : Operand} {b o : Nat} (hx : opv l x = some (.pointer (some ⟨b, o, none⟩))) : Ev P ⟨dst, .fieldAddr t x f, ty, pos, aft, none⟩ l w (.pointer (some ⟨b, o + off, none⟩)) := fun _ a d ha => by
  obtain ⟨fs, fd, i, h1, h2, h3, h4, h5⟩ := h.eq
  simp [execOp, ha.eval hx, Instr.fieldAt, run_underlying h1, h2, Instr.sureAddr, fieldPlace, sizeOf, run_typeInfo h4, h5, h3, add_mk]
theorem ev_load1 {t : TypeId} [TOne P t] {x : Operand} {ad : Addr} {v : Value} (hx : opv l x = some (.pointer (some ad))) (hc : w.cell? ad = some v) : Ev P ⟨dst, .load t x, ty, pos, aft, none⟩ l w v := fun _ a d ha => by
  simp [execOp, ha.eval hx, Instr.loadAt, Instr.sureAddr, loadVar, run_isAgg_no, load, Sem.run, dr_cell, hc]
theorem run_loadCellsFrom (w : World) (b o : Nat) : ∀ (cs : List Value) (i : Nat) (acc : Array Value), (∀ j v, cs[j]? = some v → w.cell? ⟨b, o + (i + j), none⟩ = some v) →
    (loadCellsFrom ⟨b, o, none⟩ i cs.length acc).run P w = .ok (acc ++ cs.toArray) w
  | [], i, acc, _ => by simp [loadCellsFrom]
  | c :: cs, i, acc, h => by
    have h0 := h 0 c rfl
    simp only [Nat.add_zero] at h0
    have ih := run_loadCellsFrom w b o cs (i + 1) (acc.push c) (fun j v hv => by
      have := h (j + 1) v (by simpa using hv)
      rwa [show o + (i + 1 + j) = o + (i + (j + 1)) from by omega])
    simp only [List.length_cons, loadCellsFrom]
    simp [load, Sem.run, add_mk, h0, ih]
def cellsAt (w : World) (b o : Nat) : List Value → Prop
  | [] => True
  | v :: r => w.cell? ⟨b, o, none⟩ = some v ∧ cellsAt w b (o + 1) r
theorem cellsAt_get {w : World} {b : Nat} : ∀ {cs : List Value} {o : Nat}, cellsAt w b o cs → ∀ j v, cs[j]? = some v → w.cell? ⟨b, o + j, none⟩ = some v
  | [], o, _, j, v, h => by simp at h
  | c :: r, o, hc, 0, v, h => by have : c = v := by simpa using h
                                 subst this; exact hc.1
  | c :: r, o, hc, j + 1, v, h => by
    have := cellsAt_get hc.2 j v (by simpa using h)
    rwa [show o + (j + 1) = o + 1 + j from by omega]
theorem cellsAt_of {w : World} {b : Nat} : ∀ {cs : List Value} {o : Nat}, (∀ j v, cs[j]? = some v → w.cell? ⟨b, o + j, none⟩ = some v) → cellsAt w b o cs
  | [], _, _ => trivial
  | c :: r, o, h => ⟨h 0 c rfl, cellsAt_of fun j v hv => by
      have := h (j + 1) v (by simpa using hv)
      rwa [show o + 1 + j = o + (j + 1) from by omega]⟩
theorem ev_loadAgg {t : TypeId} [TAgg P t] {z : Value} {size bytes : Nat} [TInfo P t z size bytes] {x : Operand} {b o : Nat} {cs : List Value} (hx : opv l x = some (.pointer (some ⟨b, o, none⟩))) (hl : cs.length = size) (hc : cellsAt w b o cs) :
    Ev P ⟨dst, .load t x, ty, pos, aft, none⟩ l w (.agg cs.toArray) := fun _ a d ha => by
  subst hl
  have := run_loadCellsFrom (P := P) (dr w d) b o cs 0 #[] (fun j v hv => by rw [Nat.zero_add]; exact cellsAt_get hc j v hv)
  simp [execOp, ha.eval hx, Instr.loadAt, Instr.sureAddr, loadVar, run_isAgg_yes, run_sizeOf (P := P) (t := t), loadCells, this]
theorem ev_nilck {x : Operand} {ad : Addr} (hx : opv l x = some (.pointer (some ad))) : Ev P ⟨dst, .nilCheck x, ty, pos, aft, none⟩ l w (.pointer (some ad)) := fun _ a d ha => by
  simp [execOp, ha.eval hx]
theorem ev_extract {x : Operand} {i : Nat} {vs : Array Value} {v : Value} (hx : opv l x = some (.tuple vs)) (hi : vs[i]? = some v) : Ev P ⟨dst, .extract x i, ty, pos, aft, none⟩ l w v := fun _ a d ha => by
  simp [execOp, ha.eval hx, Instr.extract, hi]
theorem ev_mkiface {t : TypeId} {k : IntKind} [hk : TInt P t k] {x : Operand} {v : Value} (hx : opv l x = some v) : Ev P ⟨dst, .makeInterface t x, ty, pos, aft, none⟩ l w (.iface t v) := fun _ a d ha => by
  simp [execOp, ha.eval hx, Instr.makeInterface, run_underlying hk.eq]
theorem run_equal_ptrnil {t e : TypeId} [h : TPtr P t e] (p : Option Addr) (w : World) : (Op.equal t (.pointer p) (.pointer none)).run P w = .ok p.isNone w := by
  have hd : ∀ d : Nat, (Op.equalIn (d + 1) t (.pointer p) (.pointer none)).run P w = .ok p.isNone w := fun d => by
    cases p <;> simp [Op.equalIn, run_underlying h.eq]
  exact hd 9999
theorem run_equal_nilnil {t : TypeId} [h : TIface P t] (w : World) : (Op.equal t .nilIface .nilIface).run P w = .ok true w := by
  obtain ⟨ms, hm⟩ := h.eq
  have hd : ∀ d : Nat, (Op.equalIn (d + 1) t .nilIface .nilIface).run P w = .ok true w := fun d => by
    simp [Op.equalIn, run_underlying hm]
  exact hd 9999
theorem run_equal_ifacenil {t : TypeId} [h : TIface P t] (s : TypeId) (v : Value) (w : World) : (Op.equal t (.iface s v) .nilIface).run P w = .ok false w := by
  obtain ⟨ms, hm⟩ := h.eq
  have hd : ∀ d : Nat, (Op.equalIn (d + 1) t (.iface s v) .nilIface).run P w = .ok false w := fun d => by
    simp [Op.equalIn, run_underlying hm]
  exact hd 9999
theorem ev_ptrnil {t e u : TypeId} [h : TPtr P t e] {x : Operand} {p : Option Addr} (hx : opv l x = some (.pointer p)) : Ev P ⟨dst, .binOp .eql t x (.const (.pointer none)) u, ty, pos, aft, none⟩ l w (.bool p.isNone) := fun _ a d ha => by
  have hy := ha.eval (x := .const (.pointer none)) (v := .pointer none) rfl
  simp [execOp, ha.eval hx, hy, eqGuard, binOp, run_equal_ptrnil (P := P) (t := t)]
theorem ev_ptrnnil {t e u : TypeId} [h : TPtr P t e] {x : Operand} {p : Option Addr} (hx : opv l x = some (.pointer p)) : Ev P ⟨dst, .binOp .neq t x (.const (.pointer none)) u, ty, pos, aft, none⟩ l w (.bool (!p.isNone)) := fun _ a d ha => by
  have hy := ha.eval (x := .const (.pointer none)) (v := .pointer none) rfl
  simp [execOp, ha.eval hx, hy, eqGuard, binOp, run_equal_ptrnil (P := P) (t := t)]
theorem ev_errnil {t u : TypeId} [h : TIface P t] {x : Operand} (hx : opv l x = some .nilIface) : Ev P ⟨dst, .binOp .eql t x (.const .nilIface) u, ty, pos, aft, none⟩ l w (.bool true) := fun _ a d ha => by
  have hy := ha.eval (x := .const .nilIface) (v := .nilIface) rfl
  simp [execOp, ha.eval hx, hy, eqGuard, binOp, run_equal_nilnil (P := P) (t := t)]
theorem ev_errnil' {t u : TypeId} [h : TIface P t] {x : Operand} {s : TypeId} {v : Value} (hx : opv l x = some (.iface s v)) : Ev P ⟨dst, .binOp .eql t x (.const .nilIface) u, ty, pos, aft, none⟩ l w (.bool false) := fun _ a d ha => by
  have hy := ha.eval (x := .const .nilIface) (v := .nilIface) rfl
  simp [execOp, ha.eval hx, hy, eqGuard, binOp, run_equal_ifacenil (P := P) (t := t)]
theorem ev_errnnil {t u : TypeId} [h : TIface P t] {x : Operand} (hx : opv l x = some .nilIface) : Ev P ⟨dst, .binOp .neq t x (.const .nilIface) u, ty, pos, aft, none⟩ l w (.bool false) := fun _ a d ha => by
  have hy := ha.eval (x := .const .nilIface) (v := .nilIface) rfl
  simp [execOp, ha.eval hx, hy, eqGuard, binOp, run_equal_nilnil (P := P) (t := t)]
theorem ev_errnnil' {t u : TypeId} [h : TIface P t] {x : Operand} {s : TypeId} {v : Value} (hx : opv l x = some (.iface s v)) : Ev P ⟨dst, .binOp .neq t x (.const .nilIface) u, ty, pos, aft, none⟩ l w (.bool true) := fun _ a d ha => by
  have hy := ha.eval (x := .const .nilIface) (v := .nilIface) rfl
  simp [execOp, ha.eval hx, hy, eqGuard, binOp, run_equal_ifacenil (P := P) (t := t)]
theorem ev_index {t : TypeId} [h : TStr P t] {x i : Operand} {k : IntKind} {s : ByteArray} {j : Nat} (hx : opv l x = some (.string s)) (hq : opv l i = some (.int k (j : Int))) (hlt : j < s.size) :
    Ev P ⟨dst, .index t x i, ty, pos, aft, none⟩ l w (.int .u8 ((s[j]'hlt).toNat : Int)) := fun _ a d ha => by
  simp [execOp, ha.eval hx, ha.eval hq, Instr.index, asIntOf, run_underlying h.eq, hlt]
theorem ev_mkfunc {fn : Fn} {xs ys : List Operand} {vs us : List Value} (hx : opvs l xs = some vs) (hy : opvs l ys = some us) : Ev P ⟨dst, .makeFunc fn xs.toArray ys.toArray, ty, pos, aft, none⟩ l w (.func fn vs.toArray us.toArray) := fun _ a d ha => by
  simp [execOp, Instr.makeFunc, ha.evals hx, ha.evals hy]
end
end Go.Proofs.Ytdhaelekmjgbmaa

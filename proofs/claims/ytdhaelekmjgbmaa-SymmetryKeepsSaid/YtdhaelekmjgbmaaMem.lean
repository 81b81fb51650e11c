/- Own text: the rules of the operations that make or turn memory, of calls and of a function's beginning and end, for the calculus of XCore. They hold for every program. -/
import Derived.Test.YtdhaelekmjgbmaaRep
namespace Go.Proofs.Ytdhaelekmjgbmaa
open Go Go.RowKit

class Callable (P : Program) (f : FuncId) : Prop where eq : ∃ fn, P.funcs[f]? = some fn ∧ fn.body.isNone = false ∧ (fn.name == "runtime.NumGoroutine") = false
/-- A function's contract: from this world it returns a value, and R holds of it and of the world behind the call. -/
def Fn (P : Program) (f : FuncId) (args : List Value) (w : World) (R : Value → World → Prop) : Prop :=
  ∀ d, Calls P f args.toArray (dr w d) fun e w' => ∃ v w₀ d', e = .returned v ∧ w' = dr w₀ d' ∧ R v w₀
theorem Fn.mono {P : Program} {f : FuncId} {args : List Value} {w : World} {R R' : Value → World → Prop} (h : Fn P f args w R) (hr : ∀ v w', R v w' → R' v w') : Fn P f args w R' :=
  fun d => (h d).mono fun _ _ ⟨v, w₀, d', he, hw, hR⟩ => ⟨v, w₀, d', he, hw, hr _ _ hR⟩

theorem alloc_dr (w : World) (d : Nat) (o : Obj) : (dr w d).alloc o = dr (w.alloc o) d := rfl
theorem run_newRow {P : Program} (w : World) (e : TypeId) (cs : Array Value) : (newRow e cs).run P w = .ok ⟨w.heap.size, 0, none⟩ (w.alloc (.cells cs e)) := by
  simp [newRow, newObj, Sem.run]
section
variable {P : Program} {n : Nat} {ops : Array Oper} {Q : Post} {rest : List Oper} {l : Env} {w : World} {d : Tmp} {ty : TypeId} {pos : String} {aft : Array Edge}
theorem owp_alloc {t : TypeId} {z : Value} {size bytes : Nat} [TInfo P t z size bytes] (hd : Nat.blt d n = true)
    (h : ∀ w', New w w' t z.cells.toList → owp P n ops Q rest ((d, .pointer (some ⟨w.heap.size, 0, none⟩)) :: l) w') : owp P n ops Q (⟨some d, .alloc t, ty, pos, aft, none⟩ :: rest) l w :=
  owp_eff (w' := w.alloc (.cells z.cells t)) (fun a e ha => .inl ⟨.pointer (some ⟨w.heap.size, 0, none⟩), e, by
    simp [execOp, Instr.alloc, run_zero (P := P) (t := t), newVar, run_newRow, dr_heap, alloc_dr], ha.put hd _⟩) (h _ (by simpa using New.mk' w t z.cells.toList))
theorem owp_box {t : TypeId} {x : Operand} {v : Value} (hx : opv l x = some v) (hd : Nat.blt d n = true)
    (h : ∀ w', New w w' t v.cells.toList → owp P n ops Q rest ((d, .pointer (some ⟨w.heap.size, 0, none⟩)) :: l) w') : owp P n ops Q (⟨some d, .box t x, ty, pos, aft, none⟩ :: rest) l w :=
  owp_eff (w' := w.alloc (.cells v.cells t)) (fun a e ha => .inl ⟨.pointer (some ⟨w.heap.size, 0, none⟩), e, by
    simp [execOp, Instr.box, ha.eval hx, newVar, run_newRow, dr_heap, alloc_dr], ha.put hd _⟩) (h _ (by simpa using New.mk' w t v.cells.toList))
def setFrom (cs : List Value) (o : Nat) : List Value → List Value
  | [] => cs
  | v :: r => setFrom (cs.set o v) (o + 1) r
theorem run_storeCells (g : Nat) (t : TypeId) (o : Nat) : ∀ (vs : List Value) (i : Nat) (cs : List Value) (w : World), Blk w g t cs → o + i + vs.length ≤ cs.length → (∀ u ∈ vs, u.oneCell' = true) →
    ∃ w', (storeCells ⟨g, o, none⟩ vs i).run P w = .ok () w' ∧ Upd w w' g t (setFrom cs (o + i) vs) ∧ w'.drawn = w.drawn
  | [], i, cs, w, hb, _, _ => ⟨w, by simp [storeCells], ⟨rfl, rfl, rfl, rfl, hb, fun _ _ => rfl⟩, rfl⟩
  | v :: r, i, cs, w, hb, hl, h1 => by
    have hlen : o + i < cs.length := by simp at hl; omega
    have hc : w.cell? ⟨g, o + i, none⟩ = some (cs[o + i]) := hb.cell (List.getElem?_eq_getElem hlen)
    have hf := hb.frozen (o + i)
    have hb' : Blk (w.setCell ⟨g, o + i, none⟩ v) g t (cs.set (o + i) v) := by
      unfold Blk at hb ⊢
      simp [World.setCell, Array.getElem?_modify, hb]
    obtain ⟨w', hr, hu, hd⟩ := run_storeCells g t o r (i + 1) (cs.set (o + i) v) (w.setCell ⟨g, o + i, none⟩ v) hb' (by simp at hl ⊢; omega) (fun u hu => h1 u (by simp [hu]))
    have hv : v.oneCell' = true := h1 v (by simp)
    refine ⟨w', ?_, ⟨hu.os, hu.tape, hu.output, by rw [hu.size]; simp [World.setCell], ?_, fun k hk => ?_⟩, hd⟩
    · simp only [storeCells]
      have hs : (store (⟨g, o + i, none⟩ : Addr) v).run P w = .ok () (w.setCell ⟨g, o + i, none⟩ v) := by
        cases v <;> simp [Value.oneCell'] at hv <;> simp [store, Sem.run, hc, hf]
      simp [add_mk, hs, hr]
    · have := hu.blk
      rwa [show o + (i + 1) = o + i + 1 from by omega] at this
    · rw [hu.other k hk, Below.heap_setCell _ _ _ _ hk]
theorem owp_store {t : TypeId} {z : Value} {size bytes : Nat} [TInfo P t z size bytes] {x y : Operand} {g o : Nat} {te : TypeId} {v : Value} {cs : List Value} (hx : opv l x = some (.pointer (some ⟨g, o, none⟩))) (hy : opv l y = some v)
    (hb : Blk w g te cs) (hsz : v.cells.toList.length = size) (hl : o + size ≤ cs.length) (h1 : ∀ u ∈ v.cells.toList, u.oneCell' = true)
    (h : ∀ w', Upd w w' g te (setFrom cs o v.cells.toList) → owp P n ops Q rest l w') : owp P n ops Q (⟨none, .store t x y, ty, pos, aft, none⟩ :: rest) l w := fun a e ha => by
  refine wpList_plain rfl fun K hK => ?_
  have hbd : Blk (dr w e) g te cs := hb
  obtain ⟨w', hr, hu, hd⟩ := run_storeCells (P := P) g te o v.cells.toList 0 cs (dr w e) hbd (by omega) h1
  have hu' : Upd w w' g te (setFrom cs o v.cells.toList) := ⟨hu.os, hu.tape, hu.output, hu.size, hu.blk, hu.other⟩
  unfold Oper.wp
  have hsz' : v.cells.size = size := by simpa using hsz
  have : (execOp a.eval ⟨none, .store t x y, ty, pos, aft, none⟩).run P (dr w e) = .ok .skip w' := by
    simp [execOp, Instr.storeAt, Instr.sureAddr, ha.eval hx, ha.eval hy, storeVar, run_sizeOf (P := P) (t := t), hsz', hr]
  rw [this]
  exact hK _ _ (h w' hu' a w'.drawn ha)
theorem setFrom_length : ∀ (vs cs : List Value) (o : Nat), (setFrom cs o vs).length = cs.length
  | [], _, _ => rfl
  | _ :: r, cs, o => by rw [setFrom, setFrom_length r]; simp
theorem setFrom_mid : ∀ (vs pre mid post : List Value), mid.length = vs.length → setFrom (pre ++ (mid ++ post)) pre.length vs = pre ++ (vs ++ post)
  | [], pre, mid, post, h => by
    have : mid = [] := List.eq_nil_of_length_eq_zero h
    simp [setFrom, this]
  | v :: r, pre, mid, post, h => by
    cases mid with
    | nil => simp at h
    | cons m mid =>
      have ih := setFrom_mid r (pre ++ [v]) mid post (by simpa using h)
      simp only [setFrom]
      rw [show (pre ++ (m :: mid ++ post)).set pre.length v = (pre ++ [v]) ++ (mid ++ post) from by simp, show pre.length + 1 = (pre ++ [v]).length from by simp, ih]
      simp
theorem foldl_setFrom : ∀ (vs : List Value) (k off : Nat) (acc : Array Value), ((vs.zipIdx k).foldl (fun cs (p : Value × Nat) => cs.setIfInBounds (off + p.2) p.1) acc).toList = setFrom acc.toList (off + k) vs
  | [], _, _, _ => rfl
  | v :: r, k, off, acc => by
    simp only [List.zipIdx_cons, List.foldl_cons, setFrom]
    rw [foldl_setFrom r (k + 1) off]
    simp [Nat.add_assoc]
def idxs {β : Type} : Nat → List β → List (Nat × β)
  | _, [] => []
  | k, x :: r => (k, x) :: idxs (k + 1) r
def idxOk {β : Type} : Nat → List (Nat × β) → Bool
  | _, [] => true
  | k, p :: r => match Nat.beq p.1 k with
    | true => idxOk (k + 1) r
    | false => false
theorem idxOk_eq {β : Type} : ∀ (ps : List (Nat × β)) (k : Nat), idxOk k ps = true → ps = idxs k (ps.map (·.2))
  | [], _, _ => rfl
  | p :: r, k, h => by
    simp only [idxOk] at h
    cases hb : Nat.beq p.1 k with
    | false => rw [hb] at h; simp at h
    | true =>
      rw [hb] at h
      have hk : p.1 = k := Nat.eq_of_beq_eq_true hb
      obtain ⟨a, b⟩ := p
      simp only at hk
      subst hk
      simp only [List.map_cons, idxs]
      rw [← idxOk_eq r (a + 1) h]
theorem idxs_map {β γ : Type} (f : β → γ) : ∀ (xs : List β) (k : Nat), (idxs k xs).map (fun p => (p.1, f p.2)) = idxs k (xs.map f)
  | [], _ => rfl
  | x :: r, k => by simp [idxs, idxs_map f r]
theorem fill_all {size : Nat} : ∀ (vs : List Value) (k : Nat) (acc : Array Value) (pre post : List Value), acc.toList = pre ++ post → pre.length = k * size → post.length = vs.length * size → (∀ v ∈ vs, v.cells.size = size) →
    ∃ out, Instr.fill (fun i => some (i * size, size)) acc (idxs k vs) = some out ∧ out.toList = pre ++ vs.flatMap (fun v => v.cells.toList)
  | [], k, acc, pre, post, h, _, h2, _ => by
    have : post = [] := List.eq_nil_of_length_eq_zero (by simpa using h2)
    subst this
    exact ⟨acc, rfl, by simpa using h⟩
  | v :: r, k, acc, pre, post, h, h1, h2, hv => by
    have hvs : v.cells.size = size := hv v (by simp)
    have hsz : acc.size = pre.length + post.length := by rw [← Array.length_toList, h, List.length_append]
    have hps : post = post.take size ++ post.drop size := (List.take_append_drop size post).symm
    have hl2 : post.length = size + r.length * size := by rw [h2, List.length_cons, Nat.add_mul]; omega
    simp only [idxs, Instr.fill]
    rw [if_neg (by simp [hvs]; omega)]
    have hf := foldl_setFrom v.cells.toList 0 (k * size) acc
    rw [Nat.add_zero, h, ← h1, hps, setFrom_mid _ _ _ _ (by simp [hvs]; omega)] at hf
    obtain ⟨out, ho1, ho2⟩ := fill_all r (k + 1) ((v.cells.toList.zipIdx 0).foldl (fun cs (p : Value × Nat) => cs.setIfInBounds (pre.length + p.2) p.1) acc) (pre ++ v.cells.toList) (post.drop size) (by rw [hf]; simp)
      (by simp [hvs, h1, Nat.add_mul]) (by simp; omega) (fun u hu => hv u (by simp [hu]))
    refine ⟨out, ?_, by rw [ho2]; simp⟩
    rw [← ho1]
    congr 1
    rw [← Array.foldl_toList, Array.toList_zipIdx, h1]
theorem owp_slice {t e : TypeId} [hs : TSlice P t e] {z : Value} {size bytes len : Nat} [TInfo P e z size bytes] {ps : List (Nat × Operand)} {vs : List Value} (hk : idxOk 0 ps = true) (hx : opvs l (ps.map (·.2)) = some vs) (hlen : vs.length = len) (hv : ∀ v ∈ vs, v.cells.toList.length = size) (hz : len * size ≤ 16777216) (hd : Nat.blt d n = true)
    (h : ∀ w', New w w' e (vs.flatMap fun v => v.cells.toList) → owp P n ops Q rest ((d, .slice (some ⟨w.heap.size, 0, none⟩) len len) :: l) w') : owp P n ops Q (⟨some d, .buildSlice t len ps.toArray, ty, pos, aft, none⟩ :: rest) l w :=
  owp_eff (w' := w.alloc (.cells (vs.flatMap fun v => v.cells.toList).toArray e)) (fun a q ha => .inl ⟨.slice (some ⟨w.heap.size, 0, none⟩) len len, q, by
    have hps : (ps.map fun p => (p.1, a.eval p.2)) = idxs 0 vs := by
      rw [idxOk_eq ps 0 hk, idxs_map, ha.evals hx]
    have hv' : ∀ v ∈ vs, v.cells.size = size := fun v hm => by simpa using hv v hm
    have h24 : ¬ 16777216 < len * size := by omega
    have hf : ∀ acc : Array Value, acc.size = len * size → Instr.fill (fun i => some (i * size, size)) acc (idxs 0 vs) = some (vs.flatMap fun v => v.cells.toList).toArray := fun acc hacc => by
      obtain ⟨out, ho1, ho2⟩ := fill_all (size := size) vs 0 acc [] acc.toList (by simp) (by simp) (by simp [hacc, hlen]) hv'
      rw [ho1]
      congr 1
      apply Array.toList_inj.1
      rw [ho2]; simp
    simp only [execOp, Instr.buildSlice]
    by_cases h0 : len * size = 0
    · simp [run_underlying hs.eq, run_sizeOf (P := P) (t := e), h0]
      rw [hps, hf _ (by simp [h0])]
      simp [run_newRow, dr_heap, alloc_dr]
    · simp [run_underlying hs.eq, run_sizeOf (P := P) (t := e), run_zero (P := P) (t := e), h0, h24]
      rw [hps, hf _ (by simp)]
      simp [run_newRow, dr_heap, alloc_dr], ha.put hd _⟩) (h _ (by simpa using New.mk' w e (vs.flatMap fun v => v.cells.toList)))
theorem owp_make {t e : TypeId} [hs : TSlice P t e] {z : Value} {size bytes : Nat} [hi : TInfo P e z size bytes] {x y : Operand} {k k' : IntKind} {m : Nat} (hx : opv l x = some (.int k (m : Int))) (hy : opv l y = some (.int k' (m : Int))) (hm : bytes * m ≤ 281474976710656) (h63 : m ≤ 9223372036854775807) (hd : Nat.blt d n = true)
    (h : ∀ w', New w w' e (madeCells z.cells (m * size)).toList → owp P n ops Q rest ((d, .slice (some ⟨w.heap.size, 0, none⟩) m m) :: l) w') : owp P n ops Q (⟨some d, .makeSlice t x y, ty, pos, aft, none⟩ :: rest) l w := by
  obtain ⟨i, h1, h2, h3, h4⟩ := hi.eq
  have hbm : (i.bytes : Int) * (m : Int) ≤ 281474976710656 := by
    rw [h4]
    have : ((bytes * m : Nat) : Int) ≤ 281474976710656 := by omega
    rwa [Int.natCast_mul] at this
  refine owp_eff (w' := w.alloc (.cells (madeCells z.cells (m * size)) e)) (fun a q ha => .inl ⟨.slice (some ⟨w.heap.size, 0, none⟩) m m, q, ?_, ha.put hd _⟩) (h _ (by simpa using New.mk' w e (madeCells z.cells (m * size)).toList))
  have hr := run_make (P := P) (dr w q) t e i z hs.eq h1 h2 k k' (m : Int) (m : Int) (by omega) (Int.le_refl _) hbm (by omega)
  simp [execOp, ha.eval hx, ha.eval hy, hr, h3, dr_heap, alloc_dr]
theorem owp_call {f : FuncId} [hf : Callable P f] {xs : List Operand} {vs : List Value} {ts : Array TypeId} {R : Value → World → Prop} (hx : opvs l xs = some vs) (hd : Nat.blt d n = true) (hc : Fn P f vs w R)
    (h : ∀ v w', R v w' → owp P n ops Q rest ((d, v) :: l) w') : owp P n ops Q (⟨some d, .call { callee := .value (.func f), args := xs.toArray, argTypes := ts }, ty, pos, aft, none⟩ :: rest) l w :=
  owp_run fun a e ha K hK => by
    obtain ⟨fn, h1, h2, h3⟩ := hf.eq
    have h2' : ¬ fn.body = none := fun e => by rw [e] at h2; simp at h2
    have h3' : ¬ fn.name = "runtime.NumGoroutine" := fun e => by rw [e] at h3; simp at h3
    unfold Oper.wp
    have hev : a.eval (.func f) = .func (.func f) #[] #[] := rfl
    have : (execOp a.eval ⟨some d, .call { callee := .value (.func f), args := xs.toArray, argTypes := ts }, ty, pos, aft, none⟩).run P (dr w e) = .ok (.enter f vs.toArray) (dr w e) := by
      simp [execOp, resolve, hev, Deferred.ofValue, invoke, callFunc, h1, h2', h3', ha.evals hx]
    rw [this]
    exact (hc e).mono fun _ _ ⟨v, w₀, d', he, hw, hR⟩ => by subst he; subst hw; exact hK _ _ (h v w₀ hR _ _ (ha.put hd v))
/-- A call of a function value. -/
theorem owp_callv {f : FuncId} [hf : Callable P f] {y : Operand} {caps : List Value} {xs : List Operand} {vs : List Value} {ts : Array TypeId} {R : Value → World → Prop} (hy : opv l y = some (.func (.func f) #[] caps.toArray)) (hx : opvs l xs = some vs) (hd : Nat.blt d n = true) (hc : Fn P f (vs ++ caps) w R)
    (h : ∀ v w', R v w' → owp P n ops Q rest ((d, v) :: l) w') : owp P n ops Q (⟨some d, .call { callee := .value y, args := xs.toArray, argTypes := ts }, ty, pos, aft, none⟩ :: rest) l w :=
  owp_run fun a e ha K hK => by
    obtain ⟨fn, h1, h2, h3⟩ := hf.eq
    have h2' : ¬ fn.body = none := fun e => by rw [e] at h2; simp at h2
    have h3' : ¬ fn.name = "runtime.NumGoroutine" := fun e => by rw [e] at h3; simp at h3
    unfold Oper.wp
    have : (execOp a.eval ⟨some d, .call { callee := .value y, args := xs.toArray, argTypes := ts }, ty, pos, aft, none⟩).run P (dr w e) = .ok (.enter f (vs ++ caps).toArray) (dr w e) := by
      simp [execOp, resolve, ha.eval hy, Deferred.ofValue, invoke, callFunc, h1, h2', h3', ha.evals hx]
    rw [this]
    exact (hc e).mono fun _ _ ⟨v, w₀, d', he, hw, hR⟩ => by subst he; subst hw; exact hK _ _ (h v w₀ hR _ _ (ha.put hd v))
/-- append of elements to an owned row. -/
theorem owp_append {α : Type} [Rp α] {t e : TypeId} [hs : TSlice P t e] {z : Value} {bytes : Nat} [hi : TInfo P e z (Rp.size α) bytes] {x y : Operand} {v : Value} {xs ys : List α} {base : Nat} {F : Nat → Prop} {A : Option Addr} {c : Nat} {cells : List Value}
    (hx : opv l x = some v) (hy : opv l y = some (.slice A ys.length c)) (hown : Own w base F e v xs) (hF : ∀ k, F k → k < w.heap.size) (hbase : base ≤ w.heap.size) (hch : Chunks w F cells ys) (hat : 0 < ys.length → ∃ b o, A = some ⟨b, o, none⟩ ∧ cellsAt w b o cells)
    (hz0 : 0 < Rp.size α) (hb : (xs.length + ys.length) * bytes ≤ 140737488355328) (h63 : xs.length + ys.length ≤ 9223372036854775807) (hd : Nat.blt d n = true)
    (h : ∀ v' w', Own w' base F e v' (xs ++ ys) → w.grownBy w' v.ownBlock → (v'.ownBlock = v.ownBlock ∨ v'.ownBlock = some w.heap.size) → owp P n ops Q rest ((d, v') :: l) w') :
    owp P n ops Q (⟨some d, .call { callee := .builtin .append, args := #[x, y], argTypes := #[t, t] }, ty, pos, aft, none⟩ :: rest) l w := fun a q ha => by
  refine wpList_plain rfl fun K hK => ?_
  obtain ⟨i, i1, i2, i3, i4⟩ := hi.eq
  obtain ⟨cs, ho1, ho2, ho3⟩ := hown
  unfold Oper.wp
  have key : ∃ v' w', (Builtin.append_ #[t, t] ty #[v, .slice A ys.length c]).run P (dr w q) = .ok v' w' ∧ w'.ownsRow base e (Rp.size α) v' (xs.length + ys.length) (cs ++ cells) ∧ (dr w q).grownBy w' v.ownBlock ∧ (v'.ownBlock = v.ownBlock ∨ v'.ownBlock = some (dr w q).heap.size) := by
    cases A with
    | none =>
      have hy0 : ys.length = 0 := by
        rcases Nat.eq_zero_or_pos ys.length with h0 | h0
        · exact h0
        · obtain ⟨b, o, hA, _⟩ := hat h0; cases hA
      have hyn : ys = [] := List.eq_nil_of_length_eq_zero hy0
      subst hyn
      have hc0 : cells = [] := hch
      subst hc0
      refine ⟨v, dr w q, ?_, by simpa using (show (dr w q).ownsRow base e (Rp.size α) v xs.length cs from ho1), World.grownBy.refl _ _, .inl rfl⟩
      rcases ho1.2 with ⟨rfl, hn⟩ | ⟨g, cap, cur, rfl, _, _, hnc, _⟩
      · have hxn : xs = [] := List.eq_nil_of_length_eq_zero hn
        simp [Builtin.append_, run_underlying hs.eq, sizeOf, typeInfo, i1, Builtin.lenOf, Builtin.firstCells]
      · simp [Builtin.append_, run_underlying hs.eq, sizeOf, typeInfo, i1, Builtin.lenOf, Builtin.firstCells, hnc, storeCells]
    | some ad =>
      have hcells : ∀ j u, cells[j]? = some u → (dr w q).cell? (ad.add j) = some u := by
        intro j u hu
        rcases Nat.eq_zero_or_pos ys.length with h0 | h0
        · have hyn : ys = [] := List.eq_nil_of_length_eq_zero h0
          subst hyn
          have hc0 : cells = [] := hch
          subst hc0
          simp at hu
        · obtain ⟨b, o, hA, hc⟩ := hat h0
          injection hA with hA
          subst hA
          rw [add_mk]
          exact cellsAt_get hc j u hu
      obtain ⟨v', w', hrun, h2, h3, _, h5⟩ := run_append_own_at (P := P) (dr w q) base t ty e i z (Rp.size α) bytes hs.eq i1 i2 i3 i4 hi.sz hz0 v xs.length cs ho1 ad ys.length c cells hch.length hcells hch.one (by simpa [maxLen] using h63) hb hbase
      exact ⟨v', w', hrun, h2, h3, h5⟩
  obtain ⟨v', w', hrun, h2, h3, h5⟩ := key
  have hev : (execOp a.eval ⟨some d, .call { callee := .builtin .append, args := #[x, y], argTypes := #[t, t] }, ty, pos, aft, none⟩).run P (dr w q) = .ok (.value v') w' := by
    simp [execOp, resolve, invoke, builtin, ha.eval hx, ha.eval hy, hrun]
  rw [hev]
  have hg : w.grownBy w' v.ownBlock := ⟨h3.os, h3.tape, h3.output, h3.size, h3.block⟩
  have hagree : Agree F w w' := fun k hk => hg.block k (hF k hk) (fun he => ho3 k he.symm hk)
  have hown' : Own w' base F e v' (xs ++ ys) := by
    refine ⟨cs ++ cells, by rw [List.length_append]; exact h2, (ho2.append hch).agree hagree, fun g hg' => ?_⟩
    rcases h5 with h5 | h5
    · exact ho3 g (h5 ▸ hg')
    · intro hk
      have h6 : g = w.heap.size := by rw [h5] at hg'; exact (Option.some.inj hg').symm
      have := hF g hk
      omega
  exact hK _ _ (h v' w' hown' hg h5 _ w'.drawn (ha.put hd v'))
end

/-- What a function's end hands back. -/
def Res (P : Program) (fn : Func) (l : Env) (w : World) (v : Value) : Prop := ∀ n a d, Ok n a l → (results fn a.tmps).run P (dr w d) = .ok v (dr w d)
def retPost (P : Program) (fn : Func) (R : Value → World → Prop) : Post
  | .normal, l, w => ∃ v, Res P fn l w v ∧ R v w
  | .ret, l, w => ∃ v, Res P fn l w v ∧ R v w
  | _, _, _ => False
def ent : Nat → List Value → Env
  | _, [] => []
  | k, v :: r => (k, v) :: ent (k + 1) r
theorem lk_ent : ∀ (vs : List Value) (k i : Nat) (v : Value), lk (ent k vs) i = some v → k ≤ i ∧ vs[i - k]? = some v
  | [], _, _, _, h => by simp [ent, lk] at h
  | u :: r, k, i, v, h => by
    simp only [ent, lk] at h
    cases hb : Nat.beq k i with
    | true =>
      rw [hb] at h
      have : k = i := Nat.eq_of_beq_eq_true hb
      subst this
      simpa using h
    | false =>
      rw [hb] at h
      obtain ⟨h1, h2⟩ := lk_ent r (k + 1) i v h
      refine ⟨by omega, ?_⟩
      rw [show i - k = (i - (k + 1)) + 1 from by omega]
      simpa using h2
theorem fn_enter {P : Program} {f : FuncId} {fn : Func} {c : Code} {vs : List Value} {w : World} {R : Value → World → Prop} {n : Nat} (hf : P.funcs[f]? = some fn) (hb : fn.body = some c) (hn : fn.ntmps = n) (hl : Nat.ble vs.length n = true)
    (h : ewp P n c (retPost P fn R) (ent 0 vs) w) : Fn P f vs w R := fun d => by
  have hl' : vs.length ≤ n := by simpa using hl
  refine calls_of_wp hf hb (Code.wp_mono (fun e a w' hq => ?_) (h _ d (?_ : Ok n { tmps := vs.toArray ++ Array.replicate (fn.ntmps - vs.toArray.size) undef, defers := [] } (ent 0 vs))))
  · obtain ⟨hp, l, w₀, d', rfl, ho, q⟩ := hq
    cases e with
    | normal => obtain ⟨v, hr, hR⟩ := q; exact ⟨ho.defers, v, hr n a d' ho, v, w₀, d', rfl, rfl, hR⟩
    | ret => obtain ⟨v, hr, hR⟩ := q; exact ⟨ho.defers, v, hr n a d' ho, v, w₀, d', rfl, rfl, hR⟩
    | panic c => exact hp.elim
    | outgrown => exact hp.elim
    | exit i => exact q.elim
    | goto i => exact q.elim
  · refine ⟨by simp [hn]; omega, rfl, fun i v hv => ?_⟩
    obtain ⟨_, h2⟩ := lk_ent vs 0 i v hv
    simp only [Nat.sub_zero] at h2
    have hi : i < vs.length := (List.getElem?_eq_some_iff.1 h2).1
    simp only [Array.getD_eq_getD_getElem?]
    rw [Array.getElem?_append_left (by simpa using hi)]
    simp [h2]
section
variable {P : Program} {fn : Func} {l : Env} {w : World}
def rv (tmps : Array Value) : ResultVar → Sem Value
  | .tmp t => pure (tmps.getD t undef)
  | .cell b t => do loadVar t (← asAddr (tmps.getD b undef))
theorem results_rv (fn : Func) (tmps : Array Value) : results fn tmps = (do let vs ← fn.results.mapM (rv tmps); pure (if h : vs.size = 1 then vs[0] else .tuple vs)) := by
  unfold results
  congr 1
def Res1 (P : Program) (l : Env) (w : World) (r : ResultVar) (v : Value) : Prop := ∀ n a d, Ok n a l → (rv a.tmps r).run P (dr w d) = .ok v (dr w d)
theorem res_tmp {t : Tmp} {v : Value} (h : lk l t = some v) : Res1 P l w (.tmp t) v := fun _ a d ha => by have := ha.knows t v h; simpa [rv] using this
theorem res_cell1 {b : Tmp} {t : TypeId} [TOne P t] {ad : Addr} {v : Value} (h : lk l b = some (.pointer (some ad))) (hc : w.cell? ad = some v) : Res1 P l w (.cell b t) v := fun _ a d ha => by
  have := ha.knows b _ h
  simp only [rv, this]
  simp [asAddr, loadVar, run_isAgg_no, load, Sem.run, dr_cell, hc]
theorem res_cell {b : Tmp} {t : TypeId} [TAgg P t] {z : Value} {size bytes : Nat} [TInfo P t z size bytes] {g o : Nat} {cs : List Value} (h : lk l b = some (.pointer (some ⟨g, o, none⟩))) (hl : cs.length = size) (hc : cellsAt w g o cs) : Res1 P l w (.cell b t) (.agg cs.toArray) := fun _ a d ha => by
  have hk := ha.knows b _ h
  subst hl
  have := run_loadCellsFrom (P := P) (dr w d) g o cs 0 #[] (fun j v hv => by rw [Nat.zero_add]; exact cellsAt_get hc j v hv)
  simp only [rv, hk]
  simp [asAddr, loadVar, run_isAgg_yes, run_sizeOf (P := P) (t := t), loadCells, this]
theorem res1 {r : ResultVar} {v : Value} (hr : fn.results = #[r]) (h : Res1 P l w r v) : Res P fn l w v := fun n a d ha => by
  simp [results_rv, hr, h n a d ha]
theorem res2 {r s : ResultVar} {v u : Value} (hr : fn.results = #[r, s]) (h : Res1 P l w r v) (k : Res1 P l w s u) : Res P fn l w (.tuple #[v, u]) := fun n a d ha => by
  simp [results_rv, hr, h n a d ha, k n a d ha]
theorem res3 {r s q : ResultVar} {v u x : Value} (hr : fn.results = #[r, s, q]) (h : Res1 P l w r v) (k : Res1 P l w s u) (j : Res1 P l w q x) : Res P fn l w (.tuple #[v, u, x]) := fun n a d ha => by
  simp [results_rv, hr, h n a d ha, k n a d ha, j n a d ha]
end
end Go.Proofs.Ytdhaelekmjgbmaa

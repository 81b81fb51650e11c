/- StubbornCommutes returns true for every task and all pairs of bytes, and the task reads behind the call as before. No conditions. -/
import Derived.Test.YtgnmjmcjadpmhaaPComD
import Derived.Test.YtgnmjmcjadpmhaaRows
namespace Go.Proofs.Ytgnmjmcjadpmhaa
open Go Go.RowKit
section
open Go Go.RowKit
def Le {α : Type} (x y : Option α) : Prop := ∀ r, x = some r → y = some r
theorem Le.rf {α : Type} {x : Option α} : Le x x := fun _ h => h
theorem Le.bnd {α β : Type} {x x' : Option α} {f f' : α → Option β} (h : Le x x') (hf : ∀ a, Le (f a) (f' a)) : Le (bnd x f) (bnd x' f') := fun r hr => by
  obtain ⟨a, ha, hb⟩ := bs hr
  rw [h a ha, bnd_some]
  exact hf a r hb
theorem Le.ite {α : Type} {p : Prop} [Decidable p] {x x' y y' : Option α} (h : Le x x') (k : Le y y') : Le (if p then x else y) (if p then x' else y') := by
  by_cases hp : p
  · rw [if_pos hp, if_pos hp]; exact h
  · rw [if_neg hp, if_neg hp]; exact k
theorem Le.fin {σ κ : Type} {y : Fin σ κ} {f f' : σ → Option κ} (hf : ∀ a, Le (f a) (f' a)) : Le (fin y f) (fin y f') := by
  cases y with
  | done s => exact hf s
  | ret c => exact Le.rf
theorem Le.rng {α σ ρ : Type} {f f' : Nat → α → σ → Option (Ctl σ ρ)} (hf : ∀ k a s, Le (f k a s) (f' k a s)) : ∀ {xs : List α} {k : Nat} {s : σ}, Le (rng f xs k s) (rng f' xs k s)
  | [], _, _ => Le.rf
  | x :: xs, k, s => fun r hr => by
    simp only [Proofs.Ytgnmjmcjadpmhaa.rng] at hr ⊢
    cases hc : f k x s with
    | none => rw [hc] at hr; cases hr
    | some c =>
      rw [hc] at hr
      rw [hf k x s c hc]
      cases c with
      | next s' => exact Le.rng hf r hr
      | brk s' => exact hr
      | ret q => exact hr
theorem Le.rngN {σ ρ : Type} {f f' : Nat → σ → Option (Ctl σ ρ)} {n : Nat} {s : σ} (hf : ∀ k s, Le (f k s) (f' k s)) : Le (rngN f n s) (rngN f' n s) := Le.rng fun _ k s => hf k s
theorem Le.itr {σ ρ : Type} {f f' : σ → Option (Ctl σ ρ)} (hf : ∀ s, Le (f s) (f' s)) : ∀ (n : Nat) (s : σ), Le (itr f n s) (itr f' n s)
  | 0, _ => Le.rf
  | n + 1, s => fun r hr => by
    simp only [Proofs.Ytgnmjmcjadpmhaa.itr] at hr ⊢
    cases hc : f s with
    | none => rw [hc] at hr; cases hr
    | some c =>
      rw [hc] at hr
      rw [hf s c hc]
      cases c with
      | next s' => exact Le.itr hf n s' r hr
      | brk s' => exact hr
      | ret q => exact hr
def lopE {σ ρ : Type} (f : σ → Option (Ctl σ ρ)) (s : σ) : Option (Fin σ ρ) := itr f 600 s
theorem Le.lop {σ ρ : Type} {f f' : σ → Option (Ctl σ ρ)} {s : σ} (hf : ∀ s, Le (f s) (f' s)) : Le (lopE f s) (lop f' s) := fun r hr => lop_some.2 ⟨600, Le.itr hf 600 s r hr⟩
end
section
open Go Go.RowKit
def factB (vars : List Int) (x : Fct) : Bool := decide (0 ≤ x.var) && (decide (0 ≤ x.val) && (match vars[x.var.toNat]? with | some y => decide (x.val < y) | none => false))
theorem factB_ok {vars : List Int} {x : Fct} (h : factB vars x = true) : FactOk vars x := by
  unfold factB at h
  simp only [Bool.and_eq_true, decide_eq_true_eq] at h
  obtain ⟨h1, h2, h3⟩ := h
  cases hv : vars[x.var.toNat]? with
  | none => rw [hv] at h3; cases h3
  | some y => rw [hv] at h3; exact ⟨h1, h2, y, hv, by simpa using h3⟩
def ascB : List Fct → Bool
  | x :: y :: r => decide (x.var < y.var) && ascB (y :: r)
  | _ => true
theorem ascB_ok : ∀ {f : List Fct}, ascB f = true → ∀ (i : Nat) x y, f[i]? = some x → f[i + 1]? = some y → x.var < y.var
  | [], _, i, x, y, h, _ => by simp at h
  | [_], _, i, x, y, _, h => by simp at h
  | a :: b :: r, h, i, x, y, h1, h2 => by
    simp only [ascB, Bool.and_eq_true, decide_eq_true_eq] at h
    cases i with
    | zero => simp at h1 h2; subst h1; subst h2; exact h.1
    | succ i => exact ascB_ok h.2 i x y (by simpa using h1) (by simpa using h2)
def factsB (vars : List Int) (f : List Fct) : Bool := f.all (factB vars) && ascB f
theorem factsB_ok {vars : List Int} {f : List Fct} (h : factsB vars f = true) : FactsOk vars f := by
  unfold factsB at h
  rw [Bool.and_eq_true, List.all_eq_true] at h
  exact ⟨fun i x hx => factB_ok (h.1 x (List.mem_of_getElem? hx)), ascB_ok h.2⟩
def stateB : List Int → List Int → Bool
  | [], [] => true
  | y :: vars, x :: s => decide (0 ≤ x) && (decide (x < y) && stateB vars s)
  | _, _ => false
theorem stateB_ok : ∀ {vars s : List Int}, stateB vars s = true → StateOk vars s
  | [], [], _ => ⟨rfl, fun i x y h => by simp at h⟩
  | y :: vars, x :: s, h => by
    simp only [stateB, Bool.and_eq_true, decide_eq_true_eq] at h
    obtain ⟨h1, h2⟩ := stateB_ok h.2.2
    refine ⟨by simp [h1], fun i a b ha hb => ?_⟩
    cases i with
    | zero => simp at ha hb; subst ha; subst hb; exact ⟨h.1, h.2.1⟩
    | succ i => exact h2 i a b (by simpa using ha) (by simpa using hb)
  | [], _ :: _, h => by simp [stateB] at h
  | _ :: _, [], h => by simp [stateB] at h
def nameB (s : ByteArray) : Bool := decide (s.size ≤ 256) && s.data.toList.all fun c => decide (32 ≤ c.toNat) && decide (c.toNat ≤ 126)
theorem nameB_ok {s : ByteArray} (h : nameB s = true) : NameOk s := by
  unfold nameB at h
  simp only [Bool.and_eq_true, decide_eq_true_eq, List.all_eq_true] at h
  refine ⟨h.1, fun i hi => h.2 _ ?_⟩
  show s.data[i] ∈ _
  simp
def opB (vars : List Int) (o : Opr) : Bool := decide (0 ≤ o.cost) && (decide (o.cost ≤ 1048576) && (decide (o.effs.length ≤ 64) && (nameB o.name && (factsB vars o.pre && o.effs.all fun e => factsB vars e.cond && factB vars ⟨e.var, e.val⟩))))
theorem opB_ok {vars : List Int} {o : Opr} (h : opB vars o = true) : OpOk vars o := by
  unfold opB at h
  simp only [Bool.and_eq_true, decide_eq_true_eq, List.all_eq_true] at h
  obtain ⟨h1, h2, h3, h4, h5, h6⟩ := h
  exact ⟨h1, h2, h3, nameB_ok h4, factsB_ok h5, fun i e he => ⟨factsB_ok (h6 e (List.mem_of_getElem? he)).1, factB_ok (h6 e (List.mem_of_getElem? he)).2⟩⟩
def taskB (t : Tsk) : Bool := decide (t.vars.length ≤ 64) && (decide (t.ops.length ≤ 4096) && ((t.vars.all fun n => decide (1 ≤ n) && decide (n ≤ 64)) && (stateB t.vars t.init && (factsB t.vars t.goal && t.ops.all (opB t.vars)))))
theorem taskB_ok {t : Tsk} (h : taskB t = true) : TaskOk t := by
  unfold taskB at h
  simp only [Bool.and_eq_true, decide_eq_true_eq, List.all_eq_true] at h
  obtain ⟨h1, h2, h3, h4, h5, h6⟩ := h
  exact ⟨h1, h2, fun i n hn => h3 n (List.mem_of_getElem? hn), stateB_ok h4, factsB_ok h5, fun i o ho => opB_ok (h6 o (List.mem_of_getElem? ho))⟩
def e_task_Check (t : Tsk) : Option Err := if taskB t = true then some ⟨0⟩ else none
theorem le_task_Check (t : Tsk) : Le (e_task_Check t) (m_task_Check t) := fun r h => by
  obtain ⟨h1, rfl⟩ := ite_some h
  unfold m_task_Check
  rw [check_ok.2 (taskB_ok h1)]
def e_task_Proper (x y : List Int) : Option Bool := if stateB x y = true then some true else none
theorem le_task_Proper (x y : List Int) : Le (e_task_Proper x y) (m_task_Proper x y) := fun r h => by
  obtain ⟨h1, rfl⟩ := ite_some h
  unfold m_task_Proper
  rw [bof_t (stateB_ok h1)]
def e_base_Ints (x y : List Int) : Option Bool := some (decide (x = y))
theorem le_base_Ints (x y : List Int) : Le (e_base_Ints x y) (m_base_Ints x y) := fun r h => by
  unfold e_base_Ints at h
  unfold m_base_Ints
  rw [← h]
  by_cases hx : x = y
  · rw [bof_t hx]; simp [hx]
  · rw [bof_f hx]; simp [hx]
def e_task_Holds (f : List Fct) (s : List Int) : Option Bool := m_task_Holds f s
theorem le_task_Holds (f : List Fct) (s : List Int) : Le (e_task_Holds f s) (m_task_Holds f s) := Le.rf
def e_slices_Clone_Lint_int (x : List Int) : Option (List Int) := m_slices_Clone_Lint_int x
theorem le_slices_Clone_Lint_int (x : List Int) : Le (e_slices_Clone_Lint_int x) (m_slices_Clone_Lint_int x) := Le.rf
end
section
open Go Go.RowKit
def e_slices_Sort_Lint_int (xs : List Int) : Option (List Int) := if xs.length ≤ 1000000 then some (insS xs) else none
theorem le_slices_Sort_Lint_int (xs : List Int) : Le (e_slices_Sort_Lint_int xs) (m_slices_Sort_Lint_int xs) := fun r h => by
  unfold e_slices_Sort_Lint_int at h
  unfold m_slices_Sort_Lint_int
  rw [sortL_ins]; exact h
def e_slices_Clone_Luint64_uint64 (x : List U64) : Option (List U64) := m_slices_Clone_Luint64_uint64 x
theorem le_slices_Clone_Luint64_uint64 (x : List U64) : Le (e_slices_Clone_Luint64_uint64 x) (m_slices_Clone_Luint64_uint64 x) := Le.rf
noncomputable def e_pqueue_New  : Option (Option Que) :=
  some (some (⟨([] : List QEn), 0⟩ : Que))
theorem le_pqueue_New  : Le (e_pqueue_New ) (m_pqueue_New ) := by
  unfold e_pqueue_New m_pqueue_New
  repeat' (first | apply Le.ite | apply Le.bnd | apply Le.fin | apply Le.rng | apply Le.rngN | apply Le.lop | exact Le.rf | intro _)
noncomputable def e_pqueue_before (x0 : QEn) (x1 : QEn) : Option Bool :=
  if x0.key ≠ x1.key then (bnd (if x0.key < x1.key then (some true) else (some false) : Option Bool) fun y24 => some y24) else (if x0.tie ≠ x1.tie then (bnd (if x0.tie < x1.tie then (some true) else (some false) : Option Bool) fun y34 => some y34) else (bnd (if x0.number < x1.number then (some true) else (some false) : Option Bool) fun y43 => some y43))
theorem le_pqueue_before (x0 : QEn) (x1 : QEn) : Le (e_pqueue_before x0 x1) (m_pqueue_before x0 x1) := by
  unfold e_pqueue_before m_pqueue_before
  repeat' (first | apply Le.ite | apply Le.bnd | apply Le.fin | apply Le.rng | apply Le.rngN | apply Le.lop | exact Le.rf | intro _)
noncomputable def e_pqueue_Queue_Len (x0 : Que) : Option Int :=
  some (x0.heap.length : Int)
theorem le_pqueue_Queue_Len (x0 : Que) : Le (e_pqueue_Queue_Len x0) (m_pqueue_Queue_Len x0) := by
  unfold e_pqueue_Queue_Len m_pqueue_Queue_Len
  repeat' (first | apply Le.ite | apply Le.bnd | apply Le.fin | apply Le.rng | apply Le.rngN | apply Le.lop | exact Le.rf | intro _)
noncomputable def e_pqueue_Queue_Peek (x0 : Que) : Option (Int × Int × Int × Err) :=
  if (x0.heap.length : Int) = 0 then (some (0, 0, 0, (⟨3⟩ : Err))) else (bnd (atI x0.heap 0) fun a20 => some (a20.key, a20.tie, a20.item, (⟨0⟩ : Err)))
theorem le_pqueue_Queue_Peek (x0 : Que) : Le (e_pqueue_Queue_Peek x0) (m_pqueue_Queue_Peek x0) := by
  unfold e_pqueue_Queue_Peek m_pqueue_Queue_Peek
  repeat' (first | apply Le.ite | apply Le.bnd | apply Le.fin | apply Le.rng | apply Le.rngN | apply Le.lop | exact Le.rf | intro _)
noncomputable def e_pqueue_Queue_up (x0 : Que) (x1 : Int) : Option Que :=
  bnd (lopE (ρ := Que) (fun (s5 : Int × Que) => if 0 < s5.1 then (bnd (chkI (s5.1 - 1)) fun n23 => bnd (quoI n23 2) fun n26 => bnd (atI s5.2.heap s5.1) fun a39 => bnd (atI s5.2.heap n26) fun a54 => bnd (e_pqueue_before a39 a54) fun q69 => if q69 = true then bnd (atI s5.2.heap n26) fun a81 => bnd (atI s5.2.heap s5.1) fun a96 => bnd (atI s5.2.heap s5.1) fun a111 => bnd (atI (s5.2.heap.set (s5.1 : Int).toNat a81) n26) fun a128 => some (.next (n26, (⟨((s5.2.heap.set (s5.1 : Int).toNat a81).set (n26 : Int).toNat a96), s5.2.next⟩ : Que))) else some (.ret s5.2)) else (some (.brk (s5.1, s5.2)))) (x1, x0)) fun res3 => fin res3 fun (s154 : Int × Que) => some s154.2
theorem le_pqueue_Queue_up (x0 : Que) (x1 : Int) : Le (e_pqueue_Queue_up x0 x1) (m_pqueue_Queue_up x0 x1) := by
  unfold e_pqueue_Queue_up m_pqueue_Queue_up
  repeat' (first | apply le_pqueue_before | apply Le.ite | apply Le.bnd | apply Le.fin | apply Le.rng | apply Le.rngN | apply Le.lop | exact Le.rf | intro _)
noncomputable def e_pqueue_Queue_down (x0 : Que) (x1 : Int) : Option Que :=
  bnd (lopE (ρ := Que) (fun (s5 : Int × Que) => bnd (chkI (2 * s5.1)) fun n22 => bnd (chkI (n22 + 1)) fun n25 => if (s5.2.heap.length : Int) ≤ n25 then (some (.ret s5.2)) else (bnd (bnd (bnd (chkI (n25 + 1)) fun n55 => if n55 < (s5.2.heap.length : Int) then (bnd (chkI (n25 + 1)) fun n61 => bnd (atI s5.2.heap n61) fun a64 => bnd (atI s5.2.heap n25) fun a79 => bnd (e_pqueue_before a64 a79) fun q94 => if q94 = true then some true else some false) else (some false) : Option Bool) fun y51 => if y51 = true then (bnd (chkI (n25 + 1)) fun n121 => some n121) else (some n25) : Option Int) fun y46 => bnd (atI s5.2.heap y46) fun a138 => bnd (atI s5.2.heap s5.1) fun a153 => bnd (e_pqueue_before a138 a153) fun q168 => if q168 = true then bnd (atI s5.2.heap y46) fun a180 => bnd (atI s5.2.heap s5.1) fun a195 => bnd (atI s5.2.heap s5.1) fun a210 => bnd (atI (s5.2.heap.set (s5.1 : Int).toNat a180) y46) fun a227 => some (.next (y46, (⟨((s5.2.heap.set (s5.1 : Int).toNat a180).set (y46 : Int).toNat a195), s5.2.next⟩ : Que))) else some (.ret s5.2))) (x1, x0)) fun res3 => fin res3 fun (_ : Int × Que) => none
theorem le_pqueue_Queue_down (x0 : Que) (x1 : Int) : Le (e_pqueue_Queue_down x0 x1) (m_pqueue_Queue_down x0 x1) := by
  unfold e_pqueue_Queue_down m_pqueue_Queue_down
  repeat' (first | apply le_pqueue_before | apply Le.ite | apply Le.bnd | apply Le.fin | apply Le.rng | apply Le.rngN | apply Le.lop | exact Le.rf | intro _)
noncomputable def e_pqueue_Queue_Push (x0 : Que) (x1 : Int) (x2 : Int) (x3 : Int) : Option (Err × Que) :=
  if 65536 ≤ (x0.heap.length : Int) then (some ((⟨10⟩ : Err), x0)) else (bnd (appI 32 x0.heap [(⟨x1, x2, x3, x0.next⟩ : QEn)]) fun u29 => bnd (chkI (x0.next + 1)) fun n42 => bnd (chkI ((u29.length : Int) - 1)) fun n49 => bnd (e_pqueue_Queue_up (⟨u29, n42⟩ : Que) n49) fun q57 => some ((⟨0⟩ : Err), q57))
theorem le_pqueue_Queue_Push (x0 : Que) (x1 : Int) (x2 : Int) (x3 : Int) : Le (e_pqueue_Queue_Push x0 x1 x2 x3) (m_pqueue_Queue_Push x0 x1 x2 x3) := by
  unfold e_pqueue_Queue_Push m_pqueue_Queue_Push
  repeat' (first | apply le_pqueue_Queue_up | apply Le.ite | apply Le.bnd | apply Le.fin | apply Le.rng | apply Le.rngN | apply Le.lop | exact Le.rf | intro _)
noncomputable def e_pqueue_Queue_Pop (x0 : Que) : Option (Int × Int × Int × Err × Que) :=
  bnd (e_pqueue_Queue_Peek x0) fun q2 => if q2.2.2.2.n ≠ 0 then (some (0, 0, 0, (⟨q2.2.2.2.n⟩ : Err), x0)) else (bnd (chkI ((x0.heap.length : Int) - 1)) fun n35 => bnd (atI x0.heap n35) fun a38 => bnd (atI x0.heap 0) fun a53 => bnd (cutI (x0.heap.set (0 : Int).toNat a38) 0 n35) fun u70 => bnd (e_pqueue_Queue_down (⟨u70, x0.next⟩ : Que) 0) fun q82 => some (q2.1, q2.2.1, q2.2.2.1, (⟨0⟩ : Err), q82))
theorem le_pqueue_Queue_Pop (x0 : Que) : Le (e_pqueue_Queue_Pop x0) (m_pqueue_Queue_Pop x0) := by
  unfold e_pqueue_Queue_Pop m_pqueue_Queue_Pop
  repeat' (first | apply le_pqueue_Queue_Peek | apply le_pqueue_Queue_down | apply Le.ite | apply Le.bnd | apply Le.fin | apply Le.rng | apply Le.rngN | apply Le.lop | exact Le.rf | intro _)
noncomputable def e_pack_New (x0 : List Int) : Option ((Option Pkr) × Err) :=
  if 64 < (x0.length : Int) then (some (none, (⟨5⟩ : Err))) else (bnd (rng (ρ := (Option Pkr) × Err) (fun (k25 : Nat) (a26 : Int) (s23 : Int × Pkr) => bnd (if a26 < 1 then (some true) else (if 64 < a26 then (some true) else (some false)) : Option Bool) fun y48 => if y48 = true then (some (.ret (none, (⟨1⟩ : Err)))) else (bnd (lopE (ρ := Ctl (Int × Pkr) ((Option Pkr) × Err)) (fun (s61 : Int) => bnd (shlI 1 s61) fun n76 => if n76 < a26 then (bnd (chkI (s61 + 1)) fun n80 => some (.next n80)) else (some (.brk s61))) 0) fun res59 => fin res59 fun (s87 : Int) => bnd (bnd (chkI (s23.1 + s87)) fun n95 => if 64 < n95 then (bnd (chkI (s23.2.words + 1)) fun n109 => some (0, (⟨s23.2.fields, n109⟩ : Pkr))) else (some (s23.1, s23.2)) : Option (Int × Pkr)) fun y89 => bnd (chkI (y89.2.words - 1)) fun n133 => bnd (appI 32 y89.2.fields [(⟨n133, y89.1, s87, a26⟩ : PFd)]) fun u142 => bnd (chkI (y89.1 + s87)) fun n155 => some (.next (n155, (⟨u142, y89.2.words⟩ : Pkr))))) x0 0 (0, (⟨([] : List PFd), 1⟩ : Pkr))) fun res21 => fin res21 fun (s167 : Int × Pkr) => some ((some s167.2), (⟨0⟩ : Err)))
theorem le_pack_New (x0 : List Int) : Le (e_pack_New x0) (m_pack_New x0) := by
  unfold e_pack_New m_pack_New
  repeat' (first | apply Le.ite | apply Le.bnd | apply Le.fin | apply Le.rng | apply Le.rngN | apply Le.lop | exact Le.rf | intro _)
noncomputable def e_pack_field_mask (x0 : PFd) : Option U64 :=
  bnd (shlU (1 : U64) x0.width) fun n12 => bnd (shlU (n12 - (1 : U64)) x0.bit) fun n14 => some n14
theorem le_pack_field_mask (x0 : PFd) : Le (e_pack_field_mask x0) (m_pack_field_mask x0) := by
  unfold e_pack_field_mask m_pack_field_mask
  repeat' (first | apply Le.ite | apply Le.bnd | apply Le.fin | apply Le.rng | apply Le.rngN | apply Le.lop | exact Le.rf | intro _)
noncomputable def e_pack_field_get (x0 : PFd) (x1 : List U64) : Option Int :=
  bnd (atI x1 x0.word) fun a15 => bnd (e_pack_field_mask x0) fun q26 => bnd (shrU (a15 &&& q26) x0.bit) fun n33 => some n33.toInt
theorem le_pack_field_get (x0 : PFd) (x1 : List U64) : Le (e_pack_field_get x0 x1) (m_pack_field_get x0 x1) := by
  unfold e_pack_field_get m_pack_field_get
  repeat' (first | apply le_pack_field_mask | apply Le.ite | apply Le.bnd | apply Le.fin | apply Le.rng | apply Le.rngN | apply Le.lop | exact Le.rf | intro _)
noncomputable def e_pack_Packer_Pack (x0 : Pkr) (x1 : List Int) : Option ((List U64) × Err) :=
  if (x1.length : Int) ≠ (x0.fields.length : Int) then (some (([] : List U64), (⟨2⟩ : Err))) else (bnd (mkI 8 ((0 : U64) : U64) x0.words) fun u25 => bnd (rng (ρ := (List U64) × Err) (fun (k50 : Nat) (a51 : PFd) (s48 : (List U64)) => bnd (bnd (x1[k50]?) fun a87 => if a87 < 0 then (some true) else (bnd (x1[k50]?) fun a98 => if a51.size ≤ a98 then (some true) else (some false)) : Option Bool) fun y83 => if y83 = true then (some (.ret (([] : List U64), (⟨2⟩ : Err)))) else (bnd (atI s48 a51.word) fun a114 => bnd (x1[k50]?) fun a125 => bnd (shlU (BitVec.ofInt 64 a125) a51.bit) fun n135 => bnd (atI s48 a51.word) fun a137 => some (.next (s48.set (a51.word : Int).toNat (a114 ||| n135))))) x0.fields 0 u25) fun res46 => fin res46 fun (s154 : (List U64)) => some (s154, (⟨0⟩ : Err)))
theorem le_pack_Packer_Pack (x0 : Pkr) (x1 : List Int) : Le (e_pack_Packer_Pack x0 x1) (m_pack_Packer_Pack x0 x1) := by
  unfold e_pack_Packer_Pack m_pack_Packer_Pack
  repeat' (first | apply Le.ite | apply Le.bnd | apply Le.fin | apply Le.rng | apply Le.rngN | apply Le.lop | exact Le.rf | intro _)
noncomputable def e_pack_Packer_Unpack (x0 : Pkr) (x1 : List U64) : Option ((List Int) × Err) :=
  if (x1.length : Int) ≠ x0.words then (some (([] : List Int), (⟨2⟩ : Err))) else (bnd (mkI 8 (0 : Int) (x0.fields.length : Int)) fun u25 => bnd (e_slices_Clone_Luint64_uint64 x1) fun q38 => bnd (rng (ρ := (List Int) × Err) (fun (k60 : Nat) (a61 : PFd) (s58 : (List Int) × (List U64)) => bnd (e_pack_field_get a61 x1) fun q97 => bnd (s58.1[k60]?) fun a105 => bnd ((s58.1.set k60 q97)[k60]?) fun a117 => if a61.size ≤ a117 then (some (.ret (([] : List Int), (⟨2⟩ : Err)))) else (bnd (atI s58.2 a61.word) fun a128 => bnd (e_pack_field_mask a61) fun q139 => bnd (atI s58.2 a61.word) fun a146 => some (.next ((s58.1.set k60 q97), (s58.2.set (a61.word : Int).toNat (a128 &&& ~~~q139)))))) x0.fields 0 (u25, q38)) fun res56 => fin res56 fun (s163 : (List Int) × (List U64)) => bnd (rng (ρ := (List Int) × Err) (fun (k171 : Nat) (a172 : U64) (s169 : Unit) => bnd (s163.2[k171]?) fun a182 => if (a182.toNat : Int) ≠ ((0 : U64).toNat : Int) then (some (.ret (([] : List Int), (⟨2⟩ : Err)))) else (some (.next ()))) q38 0 ()) fun res167 => fin res167 fun (s196 : Unit) => some (s163.1, (⟨0⟩ : Err)))
theorem le_pack_Packer_Unpack (x0 : Pkr) (x1 : List U64) : Le (e_pack_Packer_Unpack x0 x1) (m_pack_Packer_Unpack x0 x1) := by
  unfold e_pack_Packer_Unpack m_pack_Packer_Unpack
  repeat' (first | apply le_pack_field_get | apply le_pack_field_mask | apply le_slices_Clone_Luint64_uint64 | apply Le.ite | apply Le.bnd | apply Le.fin | apply Le.rng | apply Le.rngN | apply Le.lop | exact Le.rf | intro _)
noncomputable def e_pack_Packer_Hash (x0 : Pkr) (x1 : List U64) : Option Int :=
  bnd (rng (ρ := Int) (fun (k13 : Nat) (a14 : U64) (s11 : U64) => bnd (shrU ((s11 ^^^ a14) * (13787848793156543929 : U64)) 29) fun n31 => some (.next (((s11 ^^^ a14) * (13787848793156543929 : U64)) ^^^ n31))) x1 0 ((BitVec.ofInt 64 (x1.length : Int)) + (11400714819323198485 : U64))) fun res9 => fin res9 fun (s37 : U64) => bnd (shrU s37 2) fun n39 => some n39.toInt
theorem le_pack_Packer_Hash (x0 : Pkr) (x1 : List U64) : Le (e_pack_Packer_Hash x0 x1) (m_pack_Packer_Hash x0 x1) := by
  unfold e_pack_Packer_Hash m_pack_Packer_Hash
  repeat' (first | apply Le.ite | apply Le.bnd | apply Le.fin | apply Le.rng | apply Le.rngN | apply Le.lop | exact Le.rf | intro _)
noncomputable def e_slices_Equal_Luint64_uint64 (x0 : List U64) (x1 : List U64) : Option Bool :=
  if (x0.length : Int) ≠ (x1.length : Int) then (some false) else (bnd (rng (ρ := Bool) (fun (k18 : Nat) (a19 : U64) (s16 : Unit) => bnd (x1[k18]?) fun a36 => if (a19.toNat : Int) ≠ (a36.toNat : Int) then (some (.ret false)) else (some (.next ()))) x0 0 ()) fun res14 => fin res14 fun (s50 : Unit) => some true)
theorem le_slices_Equal_Luint64_uint64 (x0 : List U64) (x1 : List U64) : Le (e_slices_Equal_Luint64_uint64 x0 x1) (m_slices_Equal_Luint64_uint64 x0 x1) := by
  unfold e_slices_Equal_Luint64_uint64 m_slices_Equal_Luint64_uint64
  repeat' (first | apply Le.ite | apply Le.bnd | apply Le.fin | apply Le.rng | apply Le.rngN | apply Le.lop | exact Le.rf | intro _)
noncomputable def e_registry_New (x0 : List Int) : Option ((Option Reg) × Err) :=
  bnd (e_pack_New x0) fun q4 => if q4.2.n ≠ 0 then (some (none, (⟨q4.2.n⟩ : Err))) else (bnd q4.1 fun o22 => some ((some (⟨o22, ([] : List REn), (⟨[]⟩ : MapR 3 Int Int)⟩ : Reg)), (⟨0⟩ : Err)))
theorem le_registry_New (x0 : List Int) : Le (e_registry_New x0) (m_registry_New x0) := by
  unfold e_registry_New m_registry_New
  repeat' (first | apply le_pack_New | apply Le.ite | apply Le.bnd | apply Le.fin | apply Le.rng | apply Le.rngN | apply Le.lop | exact Le.rf | intro _)
noncomputable def e_registry_Registry_find (x0 : Reg) (x1 : List Int) : Option ((List U64) × Int × Int × Err) :=
  bnd (e_pack_Packer_Pack x0.packer x1) fun q20 => if q20.2.n ≠ 0 then (some (([] : List U64), 0, (-1), (⟨2⟩ : Err))) else (bnd (e_pack_Packer_Hash x0.packer q20.1) fun q41 => bnd (rng (ρ := (List U64) × Int × Int × Err) (fun (k66 : Nat) (a67 : Int) (s64 : Unit) => bnd (atI x0.entries a67) fun a100 => bnd (e_slices_Equal_Luint64_uint64 a100.words q20.1) fun q118 => if q118 = true then some (.ret (q20.1, q41, a67, (⟨0⟩ : Err))) else some (.next ())) (mget ([] : List Int) x0.table.l q41) 0 ()) fun res62 => fin res62 fun (s139 : Unit) => some (q20.1, q41, (-1), (⟨0⟩ : Err)))
theorem le_registry_Registry_find (x0 : Reg) (x1 : List Int) : Le (e_registry_Registry_find x0 x1) (m_registry_Registry_find x0 x1) := by
  unfold e_registry_Registry_find m_registry_Registry_find
  repeat' (first | apply le_pack_Packer_Hash | apply le_pack_Packer_Pack | apply le_slices_Equal_Luint64_uint64 | apply Le.ite | apply Le.bnd | apply Le.fin | apply Le.rng | apply Le.rngN | apply Le.lop | exact Le.rf | intro _)
noncomputable def e_registry_Registry_Add (x0 : Reg) (x1 : List Int) : Option (Int × Bool × Err × Reg) :=
  bnd (e_registry_Registry_find x0 x1) fun q5 => if q5.2.2.2.n ≠ 0 then (some (0, false, (⟨q5.2.2.2.n⟩ : Err), x0)) else (if 0 ≤ q5.2.2.1 then (some (q5.2.2.1, false, (⟨0⟩ : Err), x0)) else (if 65536 ≤ (x0.entries.length : Int) then (some (0, false, (⟨10⟩ : Err), x0)) else (bnd (appI 48 x0.entries [(⟨q5.1, (⟨(-1), (-1), 0⟩ : RLk)⟩ : REn)]) fun u53 => bnd (appI 8 (mget ([] : List Int) x0.table.l q5.2.1) [(x0.entries.length : Int)]) fun u82 => some ((x0.entries.length : Int), true, (⟨0⟩ : Err), (⟨x0.packer, u53, (⟨mput x0.table.l q5.2.1 u82⟩ : MapR 3 Int Int)⟩ : Reg)))))
theorem le_registry_Registry_Add (x0 : Reg) (x1 : List Int) : Le (e_registry_Registry_Add x0 x1) (m_registry_Registry_Add x0 x1) := by
  unfold e_registry_Registry_Add m_registry_Registry_Add
  repeat' (first | apply le_registry_Registry_find | apply Le.ite | apply Le.bnd | apply Le.fin | apply Le.rng | apply Le.rngN | apply Le.lop | exact Le.rf | intro _)
noncomputable def e_registry_Registry_has (x0 : Reg) (x1 : Int) : Option Bool :=
  bnd (if 0 ≤ x1 then (if x1 < (x0.entries.length : Int) then (some true) else (some false)) else (some false) : Option Bool) fun y3 => some y3
theorem le_registry_Registry_has (x0 : Reg) (x1 : Int) : Le (e_registry_Registry_has x0 x1) (m_registry_Registry_has x0 x1) := by
  unfold e_registry_Registry_has m_registry_Registry_has
  repeat' (first | apply Le.ite | apply Le.bnd | apply Le.fin | apply Le.rng | apply Le.rngN | apply Le.lop | exact Le.rf | intro _)
noncomputable def e_registry_Registry_State (x0 : Reg) (x1 : Int) : Option ((List Int) × Err) :=
  bnd (e_registry_Registry_has x0 x1) fun q3 => if q3 = true then bnd (atI x0.entries x1) fun a27 => bnd (e_pack_Packer_Unpack x0.packer a27.words) fun q45 => some (q45.1, (⟨q45.2.n⟩ : Err)) else some (([] : List Int), (⟨1⟩ : Err))
theorem le_registry_Registry_State (x0 : Reg) (x1 : Int) : Le (e_registry_Registry_State x0 x1) (m_registry_Registry_State x0 x1) := by
  unfold e_registry_Registry_State m_registry_Registry_State
  repeat' (first | apply le_pack_Packer_Unpack | apply le_registry_Registry_has | apply Le.ite | apply Le.bnd | apply Le.fin | apply Le.rng | apply Le.rngN | apply Le.lop | exact Le.rf | intro _)
noncomputable def e_registry_Registry_SetLink (x0 : Reg) (x1 : Int) (x2 : Int) (x3 : Int) (x4 : Int) : Option (Err × Reg) :=
  bnd (bnd (e_registry_Registry_has x0 x1) fun q10 => if q10 = true then if x2 ≠ (-1) then (bnd (e_registry_Registry_has x0 x2) fun q20 => if q20 = true then some false else some true) else (some false) else some true : Option Bool) fun y6 => if y6 = true then (some ((⟨1⟩ : Err), x0)) else (bnd (atI x0.entries x1) fun a49 => some ((⟨0⟩ : Err), (⟨x0.packer, (x0.entries.set (x1 : Int).toNat ({ a49 with link := (⟨x2, x3, x4⟩ : RLk) } : REn)), x0.table⟩ : Reg)))
theorem le_registry_Registry_SetLink (x0 : Reg) (x1 : Int) (x2 : Int) (x3 : Int) (x4 : Int) : Le (e_registry_Registry_SetLink x0 x1 x2 x3 x4) (m_registry_Registry_SetLink x0 x1 x2 x3 x4) := by
  unfold e_registry_Registry_SetLink m_registry_Registry_SetLink
  repeat' (first | apply le_registry_Registry_has | apply Le.ite | apply Le.bnd | apply Le.fin | apply Le.rng | apply Le.rngN | apply Le.lop | exact Le.rf | intro _)
noncomputable def e_slices_Reverse_Lint_int (x0 : List Int) : Option (List Int) :=
  bnd (chkI ((x0.length : Int) - 1)) fun n4 => bnd (lopE (ρ := (List Int)) (fun (s9 : (List Int) × Int × Int) => if s9.2.1 < s9.2.2 then (bnd (atI s9.1 s9.2.2) fun a31 => bnd (atI s9.1 s9.2.1) fun a43 => bnd (atI s9.1 s9.2.1) fun a55 => bnd (atI (s9.1.set (s9.2.1 : Int).toNat a31) s9.2.2) fun a69 => bnd (chkI (s9.2.1 + 1)) fun n83 => bnd (chkI (s9.2.2 - 1)) fun n86 => some (.next (((s9.1.set (s9.2.1 : Int).toNat a31).set (s9.2.2 : Int).toNat a43), n83, n86))) else (some (.brk (s9.1, s9.2.1, s9.2.2)))) (x0, 0, n4)) fun res7 => fin res7 fun (s93 : (List Int) × Int × Int) => some s93.1
theorem le_slices_Reverse_Lint_int (x0 : List Int) : Le (e_slices_Reverse_Lint_int x0) (m_slices_Reverse_Lint_int x0) := by
  unfold e_slices_Reverse_Lint_int m_slices_Reverse_Lint_int
  repeat' (first | apply Le.ite | apply Le.bnd | apply Le.fin | apply Le.rng | apply Le.rngN | apply Le.lop | exact Le.rf | intro _)
noncomputable def e_registry_Registry_Path (x0 : Reg) (x1 : Int) : Option ((List Int) × Err) :=
  bnd (e_registry_Registry_has x0 x1) fun q3 => if q3 = true then bnd (lopE (ρ := (List Int) × Err) (fun (s14 : Int × (List Int)) => bnd (atI x0.entries s14.1) fun a48 => if a48.link.parent < 0 then (bnd (e_slices_Reverse_Lint_int s14.2) fun q74 => some (.ret (q74, (⟨0⟩ : Err)))) else (bnd (appI 8 s14.2 [a48.link.op]) fun u89 => if (x0.entries.length : Int) < (u89.length : Int) then (some (.ret (([] : List Int), (⟨21⟩ : Err)))) else (some (.next (a48.link.parent, u89))))) (x1, ([] : List Int))) fun res12 => fin res12 fun (_ : Int × (List Int)) => none else some (([] : List Int), (⟨1⟩ : Err))
theorem le_registry_Registry_Path (x0 : Reg) (x1 : Int) : Le (e_registry_Registry_Path x0 x1) (m_registry_Registry_Path x0 x1) := by
  unfold e_registry_Registry_Path m_registry_Registry_Path
  repeat' (first | apply le_registry_Registry_has | apply le_slices_Reverse_Lint_int | apply Le.ite | apply Le.bnd | apply Le.fin | apply Le.rng | apply Le.rngN | apply Le.lop | exact Le.rf | intro _)
noncomputable def e_stubborn_on (x0 : List Fct) (x1 : Int) : Option (Int × Bool) :=
  bnd (rng (ρ := Int × Bool) (fun (k11 : Nat) (a12 : Fct) (s9 : Unit) => if a12.var = x1 then (some (.ret (a12.val, true))) else (some (.next ()))) x0 0 ()) fun res7 => fin res7 fun (s43 : Unit) => some (0, false)
theorem le_stubborn_on (x0 : List Fct) (x1 : Int) : Le (e_stubborn_on x0 x1) (m_stubborn_on x0 x1) := by
  unfold e_stubborn_on m_stubborn_on
  repeat' (first | apply Le.ite | apply Le.bnd | apply Le.fin | apply Le.rng | apply Le.rngN | apply Le.lop | exact Le.rf | intro _)
noncomputable def e_stubborn_hinders (x0 : Opr) (x1 : Opr) : Option Bool :=
  bnd (rng (ρ := Bool) (fun (k41 : Nat) (a42 : Eff) (s39 : Unit) => bnd (e_stubborn_on x1.pre a42.var) fun q72 => bnd (if q72.2 = true then (if q72.1 ≠ a42.val then (some true) else (some false)) else (some false) : Option Bool) fun y84 => if y84 = true then (some (.ret true)) else (bnd (rng (ρ := Ctl Unit Bool) (fun (k101 : Nat) (a102 : Eff) (s99 : Unit) => bnd (e_stubborn_on a102.cond a42.var) fun q132 => bnd (if q132.2 = true then (some true) else (if a102.var = a42.var then (if a102.val ≠ a42.val then (some true) else (some false)) else (some false)) : Option Bool) fun y144 => if y144 = true then (some (.ret (.ret true))) else (some (.next ()))) x1.effs 0 ()) fun res97 => fin res97 fun (s160 : Unit) => some (.next ()))) x0.effs 0 ()) fun res37 => fin res37 fun (s166 : Unit) => some false
theorem le_stubborn_hinders (x0 : Opr) (x1 : Opr) : Le (e_stubborn_hinders x0 x1) (m_stubborn_hinders x0 x1) := by
  unfold e_stubborn_hinders m_stubborn_hinders
  repeat' (first | apply le_stubborn_on | apply Le.ite | apply Le.bnd | apply Le.fin | apply Le.rng | apply Le.rngN | apply Le.lop | exact Le.rf | intro _)
noncomputable def e_stubborn_interfere (x0 : Tsk) (x1 : Int) (x2 : Int) : Option Bool :=
  bnd (if x1 ≠ x2 then (bnd (atI x0.ops x1) fun a31 => bnd (atI x0.ops x2) fun a52 => bnd (e_stubborn_hinders a31 a52) fun q73 => if q73 = true then some true else bnd (atI x0.ops x2) fun a80 => bnd (atI x0.ops x1) fun a101 => bnd (e_stubborn_hinders a80 a101) fun q122 => if q122 = true then some true else some false) else (some false) : Option Bool) fun y26 => some y26
theorem le_stubborn_interfere (x0 : Tsk) (x1 : Int) (x2 : Int) : Le (e_stubborn_interfere x0 x1 x2) (m_stubborn_interfere x0 x1 x2) := by
  unfold e_stubborn_interfere m_stubborn_interfere
  repeat' (first | apply le_stubborn_hinders | apply Le.ite | apply Le.bnd | apply Le.fin | apply Le.rng | apply Le.rngN | apply Le.lop | exact Le.rf | intro _)
noncomputable def e_stubborn_missing (x0 : List Fct) (x1 : List Int) : Option (Fct × Bool) :=
  bnd (rng (ρ := Fct × Bool) (fun (k18 : Nat) (a19 : Fct) (s16 : Unit) => bnd (atI x1 a19.var) fun a45 => if a45 ≠ a19.val then (some (.ret (a19, true))) else (some (.next ()))) x0 0 ()) fun res14 => fin res14 fun (s64 : Unit) => some ((⟨0, 0⟩ : Fct), false)
theorem le_stubborn_missing (x0 : List Fct) (x1 : List Int) : Le (e_stubborn_missing x0 x1) (m_stubborn_missing x0 x1) := by
  unfold e_stubborn_missing m_stubborn_missing
  repeat' (first | apply Le.ite | apply Le.bnd | apply Le.fin | apply Le.rng | apply Le.rngN | apply Le.lop | exact Le.rf | intro _)
noncomputable def e_stubborn_writers_l1 (x0 : Eff) (y0 : Fct) : Option Bool :=
  bnd (if x0.var = y0.var then (if x0.val = y0.val then (some true) else (some false)) else (some false) : Option Bool) fun y16 => some y16
theorem le_stubborn_writers_l1 (x0 : Eff) (y0 : Fct) : Le (e_stubborn_writers_l1 x0 y0) (m_stubborn_writers_l1 x0 y0) := by
  unfold e_stubborn_writers_l1 m_stubborn_writers_l1
  repeat' (first | apply Le.ite | apply Le.bnd | apply Le.fin | apply Le.rng | apply Le.rngN | apply Le.lop | exact Le.rf | intro _)
noncomputable def e_slices_IndexFunc_Lapi_Effect_api_Effect__stubborn_writers_l1 (x0 : List Eff) (y0 : Fct) : Option Int :=
  bnd (rng (ρ := Int) (fun (k13 : Nat) (a14 : Eff) (s11 : Unit) => bnd (e_stubborn_writers_l1 a14 y0) fun q37 => if q37 = true then some (.ret (k13 : Int)) else some (.next ())) x0 0 ()) fun res9 => fin res9 fun (s48 : Unit) => some (-1)
theorem le_slices_IndexFunc_Lapi_Effect_api_Effect__stubborn_writers_l1 (x0 : List Eff) (y0 : Fct) : Le (e_slices_IndexFunc_Lapi_Effect_api_Effect__stubborn_writers_l1 x0 y0) (m_slices_IndexFunc_Lapi_Effect_api_Effect__stubborn_writers_l1 x0 y0) := by
  unfold e_slices_IndexFunc_Lapi_Effect_api_Effect__stubborn_writers_l1 m_slices_IndexFunc_Lapi_Effect_api_Effect__stubborn_writers_l1
  repeat' (first | apply le_stubborn_writers_l1 | apply Le.ite | apply Le.bnd | apply Le.fin | apply Le.rng | apply Le.rngN | apply Le.lop | exact Le.rf | intro _)
noncomputable def e_slices_ContainsFunc_Lapi_Effect_api_Effect__stubborn_writers_l1 (x0 : List Eff) (y0 : Fct) : Option Bool :=
  bnd (bnd (e_slices_IndexFunc_Lapi_Effect_api_Effect__stubborn_writers_l1 x0 y0) fun q11 => if 0 ≤ q11 then (some true) else (some false) : Option Bool) fun y7 => some y7
theorem le_slices_ContainsFunc_Lapi_Effect_api_Effect__stubborn_writers_l1 (x0 : List Eff) (y0 : Fct) : Le (e_slices_ContainsFunc_Lapi_Effect_api_Effect__stubborn_writers_l1 x0 y0) (m_slices_ContainsFunc_Lapi_Effect_api_Effect__stubborn_writers_l1 x0 y0) := by
  unfold e_slices_ContainsFunc_Lapi_Effect_api_Effect__stubborn_writers_l1 m_slices_ContainsFunc_Lapi_Effect_api_Effect__stubborn_writers_l1
  repeat' (first | apply le_slices_IndexFunc_Lapi_Effect_api_Effect__stubborn_writers_l1 | apply Le.ite | apply Le.bnd | apply Le.fin | apply Le.rng | apply Le.rngN | apply Le.lop | exact Le.rf | intro _)
noncomputable def e_stubborn_writers (x0 : Tsk) (x1 : Fct) : Option (List Int) :=
  bnd (rng (ρ := (List Int)) (fun (k39 : Nat) (a40 : Opr) (s37 : (List Int)) => bnd (e_slices_ContainsFunc_Lapi_Effect_api_Effect__stubborn_writers_l1 a40.effs x1) fun q78 => if q78 = true then bnd (appI 8 s37 [(k39 : Int)]) fun u85 => some (.next u85) else some (.next s37)) x0.ops 0 ([] : List Int)) fun res35 => fin res35 fun (s101 : (List Int)) => some s101
theorem le_stubborn_writers (x0 : Tsk) (x1 : Fct) : Le (e_stubborn_writers x0 x1) (m_stubborn_writers x0 x1) := by
  unfold e_stubborn_writers m_stubborn_writers
  repeat' (first | apply le_slices_ContainsFunc_Lapi_Effect_api_Effect__stubborn_writers_l1 | apply Le.ite | apply Le.bnd | apply Le.fin | apply Le.rng | apply Le.rngN | apply Le.lop | exact Le.rf | intro _)
noncomputable def e_stubborn_meets (x0 : Tsk) (x1 : Int) : Option (List Int) :=
  bnd (rng (ρ := (List Int)) (fun (k31 : Nat) (a32 : Opr) (s29 : (List Int)) => bnd (e_stubborn_interfere x0 x1 (k31 : Int)) fun q46 => if q46 = true then bnd (appI 8 s29 [(k31 : Int)]) fun u53 => some (.next u53) else some (.next s29)) x0.ops 0 ([] : List Int)) fun res27 => fin res27 fun (s69 : (List Int)) => some s69
theorem le_stubborn_meets (x0 : Tsk) (x1 : Int) : Le (e_stubborn_meets x0 x1) (m_stubborn_meets x0 x1) := by
  unfold e_stubborn_meets m_stubborn_meets
  repeat' (first | apply le_stubborn_interfere | apply Le.ite | apply Le.bnd | apply Le.fin | apply Le.rng | apply Le.rngN | apply Le.lop | exact Le.rf | intro _)
noncomputable def e_stubborn_set_l1 (x0 : List Int) (x1 : BxR 55 4 Bool) (x2 : BxR 22 3 Int) : Option ((BxR 55 4 Bool) × (BxR 22 3 Int)) :=
  bnd (rng (ρ := (BxR 55 4 Bool) × (BxR 22 3 Int)) (fun (k10 : Nat) (a11 : Int) (s8 : (BxR 55 4 Bool) × (BxR 22 3 Int)) => bnd (atI s8.1.l a11) fun a42 => if (!a42) = true then (bnd (atI s8.1.l a11) fun a54 => bnd (appI 8 s8.2.l [a11]) fun u76 => some (.next ((⟨(s8.1.l.set (a11 : Int).toNat true)⟩ : BxR 55 4 Bool), (⟨u76⟩ : BxR 22 3 Int)))) else (some (.next (s8.1, s8.2)))) x0 0 (x1, x2)) fun res6 => fin res6 fun (s109 : (BxR 55 4 Bool) × (BxR 22 3 Int)) => some (s109.1, s109.2)
theorem le_stubborn_set_l1 (x0 : List Int) (x1 : BxR 55 4 Bool) (x2 : BxR 22 3 Int) : Le (e_stubborn_set_l1 x0 x1 x2) (m_stubborn_set_l1 x0 x1 x2) := by
  unfold e_stubborn_set_l1 m_stubborn_set_l1
  repeat' (first | apply Le.ite | apply Le.bnd | apply Le.fin | apply Le.rng | apply Le.rngN | apply Le.lop | exact Le.rf | intro _)
noncomputable def e_stubborn_set (x0 : Tsk) (x1 : List Int) : Option (List Int) :=
  bnd (mkI 1 (false : Bool) (x0.ops.length : Int)) fun u29 => bnd (e_stubborn_missing x0.goal x1) fun q54 => bnd (if (!q54.2) = true then (bnd (rng (ρ := (BxR 22 3 Int) × (BxR 55 4 Bool)) (fun (k100 : Nat) (a101 : Opr) (s98 : (BxR 22 3 Int) × (BxR 55 4 Bool)) => bnd (e_stubborn_set_l1 [(k100 : Int)] s98.2 s98.1) fun q123 => some (.next (q123.2, q123.1))) x0.ops 0 ((⟨([] : List Int)⟩ : BxR 22 3 Int), (⟨u29⟩ : BxR 55 4 Bool))) fun res96 => fin res96 fun (s136 : (BxR 22 3 Int) × (BxR 55 4 Bool)) => some (s136.1, s136.2)) else (bnd (e_stubborn_writers x0 q54.1) fun q138 => bnd (e_stubborn_set_l1 q138 (⟨u29⟩ : BxR 55 4 Bool) (⟨([] : List Int)⟩ : BxR 22 3 Int)) fun q159 => some (q159.2, q159.1)) : Option ((BxR 22 3 Int) × (BxR 55 4 Bool))) fun y75 => bnd (lopE (ρ := (List Int)) (fun (s174 : (List Int) × Int × (BxR 22 3 Int) × (BxR 55 4 Bool)) => if s174.2.1 < (s174.2.2.1.l.length : Int) then (bnd (bnd (atI s174.2.2.1.l s174.2.1) fun a217 => bnd (atI x0.ops a217) fun a219 => bnd (e_stubborn_missing a219.pre x1) fun q221 => bnd (some () : Option Unit) fun y223 => if q221.2 = true then (bnd (e_stubborn_writers x0 q221.1) fun q312 => bnd (e_stubborn_set_l1 q312 s174.2.2.2 s174.2.2.1) fun q321 => some (s174.1, q321.2, q321.1)) else (bnd (atI s174.2.2.1.l s174.2.1) fun a339 => bnd (appI 8 s174.1 [a339]) fun u351 => bnd (atI s174.2.2.1.l s174.2.1) fun a363 => bnd (e_stubborn_meets x0 a363) fun q375 => bnd (e_stubborn_set_l1 q375 s174.2.2.2 s174.2.2.1) fun q389 => some (u351, q389.2, q389.1)) : Option ((List Int) × (BxR 22 3 Int) × (BxR 55 4 Bool))) fun y209 => bnd (chkI (s174.2.1 + 1)) fun n402 => some (.next (y209.1, n402, y209.2.1, y209.2.2))) else (some (.brk (s174.1, s174.2.1, s174.2.2.1, s174.2.2.2)))) (([] : List Int), 0, y75.1, y75.2)) fun res172 => fin res172 fun (s414 : (List Int) × Int × (BxR 22 3 Int) × (BxR 55 4 Bool)) => bnd (e_slices_Sort_Lint_int s414.1) fun q416 => some q416
theorem le_stubborn_set (x0 : Tsk) (x1 : List Int) : Le (e_stubborn_set x0 x1) (m_stubborn_set x0 x1) := by
  unfold e_stubborn_set m_stubborn_set
  repeat' (first | apply le_slices_Sort_Lint_int | apply le_stubborn_meets | apply le_stubborn_missing | apply le_stubborn_set_l1 | apply le_stubborn_writers | apply Le.ite | apply Le.bnd | apply Le.fin | apply Le.rng | apply Le.rngN | apply Le.lop | exact Le.rf | intro _)
noncomputable def e_stubborn_Set (x0 : Tsk) (x1 : List Int) : Option ((List Int) × Err) :=
  bnd (e_task_Check x0) fun q27 => if q27.n ≠ 0 then (some (([] : List Int), (⟨q27.n⟩ : Err))) else (bnd (e_task_Proper x0.vars x1) fun q36 => if q36 = true then bnd (e_stubborn_set x0 x1) fun q43 => some (q43, (⟨0⟩ : Err)) else some (([] : List Int), (⟨2⟩ : Err)))
theorem le_stubborn_Set (x0 : Tsk) (x1 : List Int) : Le (e_stubborn_Set x0 x1) (m_stubborn_Set x0 x1) := by
  unfold e_stubborn_Set m_stubborn_Set
  repeat' (first | apply le_stubborn_set | apply le_task_Check | apply le_task_Proper | apply Le.ite | apply Le.bnd | apply Le.fin | apply Le.rng | apply Le.rngN | apply Le.lop | exact Le.rf | intro _)
noncomputable def e_task_apply (x0 : Tsk) (x1 : List Int) (x2 : Int) : Option ((List Int) × Err) :=
  bnd (if x2 < 0 then (some true) else (if (x0.ops.length : Int) ≤ x2 then (some true) else (some false)) : Option Bool) fun y28 => if y28 = true then (some (([] : List Int), (⟨1⟩ : Err))) else (bnd (e_task_Proper x0.vars x1) fun q41 => if q41 = true then bnd (atI x0.ops x2) fun a48 => bnd (e_task_Holds a48.pre x1) fun q69 => if q69 = true then bnd (e_slices_Clone_Lint_int x1) fun q76 => bnd (atI x0.ops x2) fun a86 => bnd (rng (ρ := (List Int) × Err) (fun (k113 : Nat) (a114 : Eff) (s111 : (List Int)) => bnd (e_task_Holds a114.cond x1) fun q148 => if q148 = true then bnd (atI s111 a114.var) fun a155 => some (.next (s111.set (a114.var : Int).toNat a114.val)) else some (.next s111)) a86.effs 0 q76) fun res109 => fin res109 fun (s173 : (List Int)) => some (s173, (⟨0⟩ : Err)) else some (([] : List Int), (⟨12⟩ : Err)) else some (([] : List Int), (⟨2⟩ : Err)))
theorem le_task_apply (x0 : Tsk) (x1 : List Int) (x2 : Int) : Le (e_task_apply x0 x1 x2) (m_task_apply x0 x1 x2) := by
  unfold e_task_apply m_task_apply
  repeat' (first | apply le_slices_Clone_Lint_int | apply le_task_Holds | apply le_task_Proper | apply Le.ite | apply Le.bnd | apply Le.fin | apply Le.rng | apply Le.rngN | apply Le.lop | exact Le.rf | intro _)
noncomputable def e_task_Apply (x0 : Tsk) (x1 : List Int) (x2 : Int) : Option ((List Int) × Err) :=
  bnd (e_task_Check x0) fun q28 => if q28.n ≠ 0 then (some (([] : List Int), (⟨q28.n⟩ : Err))) else (bnd (e_task_apply x0 x1 x2) fun q37 => some (q37.1, (⟨q37.2.n⟩ : Err)))
theorem le_task_Apply (x0 : Tsk) (x1 : List Int) (x2 : Int) : Le (e_task_Apply x0 x1 x2) (m_task_Apply x0 x1 x2) := by
  unfold e_task_Apply m_task_Apply
  repeat' (first | apply le_task_Check | apply le_task_apply | apply Le.ite | apply Le.bnd | apply Le.fin | apply Le.rng | apply Le.rngN | apply Le.lop | exact Le.rf | intro _)
noncomputable def e_stubborn_search_reach (x0 : Sch) (x1 : List Int) (x2 : Int) (x3 : Int) (x4 : Int) : Option (Err × Sch) :=
  bnd (e_registry_Registry_Add x0.states x1) fun q45 => if q45.2.2.1.n ≠ 0 then (some ((⟨q45.2.2.1.n⟩ : Err), (⟨(⟨x0.t.vars, x0.t.init, x0.t.goal, x0.t.ops⟩ : Tsk), q45.2.2.2, x0.que, x0.costs, x0.fin, x0.exp⟩ : Sch))) else (bnd (if q45.2.1 = true then (bnd (appI 8 x0.costs [1125899906842624]) fun u73 => bnd (appI 1 x0.fin [false]) fun u75 => some (⟨(⟨x0.t.vars, x0.t.init, x0.t.goal, x0.t.ops⟩ : Tsk), q45.2.2.2, x0.que, u73, u75, x0.exp⟩ : Sch)) else (some (⟨(⟨x0.t.vars, x0.t.init, x0.t.goal, x0.t.ops⟩ : Tsk), q45.2.2.2, x0.que, x0.costs, x0.fin, x0.exp⟩ : Sch)) : Option Sch) fun y67 => bnd (atI y67.costs q45.1) fun a234 => if a234 ≤ x4 then (some ((⟨0⟩ : Err), y67)) else (bnd (atI y67.costs q45.1) fun a252 => bnd (e_registry_Registry_SetLink y67.states q45.1 x2 x3 x4) fun q266 => if q266.1.n ≠ 0 then (some ((⟨q266.1.n⟩ : Err), (⟨(⟨y67.t.vars, y67.t.init, y67.t.goal, y67.t.ops⟩ : Tsk), q266.2, y67.que, (y67.costs.set (q45.1 : Int).toNat x4), y67.fin, y67.exp⟩ : Sch))) else (bnd (e_pqueue_Queue_Push y67.que x4 0 q45.1) fun q282 => some ((⟨q282.1.n⟩ : Err), (⟨(⟨y67.t.vars, y67.t.init, y67.t.goal, y67.t.ops⟩ : Tsk), q266.2, q282.2, (y67.costs.set (q45.1 : Int).toNat x4), y67.fin, y67.exp⟩ : Sch)))))
theorem le_stubborn_search_reach (x0 : Sch) (x1 : List Int) (x2 : Int) (x3 : Int) (x4 : Int) : Le (e_stubborn_search_reach x0 x1 x2 x3 x4) (m_stubborn_search_reach x0 x1 x2 x3 x4) := by
  unfold e_stubborn_search_reach m_stubborn_search_reach
  repeat' (first | apply le_pqueue_Queue_Push | apply le_registry_Registry_Add | apply le_registry_Registry_SetLink | apply Le.ite | apply Le.bnd | apply Le.fin | apply Le.rng | apply Le.rngN | apply Le.lop | exact Le.rf | intro _)
noncomputable def e_stubborn_search_expand (x0 : Sch) (x1 : Int) (x2 : List Int) : Option (Err × Sch) :=
  bnd (atI x0.fin x1) fun a43 => bnd (chkI (x0.exp + 1)) fun n56 => bnd (e_stubborn_set (⟨x0.t.vars, x0.t.init, x0.t.goal, x0.t.ops⟩ : Tsk) x2) fun q61 => bnd (rng (ρ := Err × Sch) (fun (k81 : Nat) (a82 : Int) (s79 : Sch) => bnd (e_task_Apply (⟨s79.t.vars, s79.t.init, s79.t.goal, s79.t.ops⟩ : Tsk) x2 a82) fun q139 => if q139.2.n ≠ 0 then (some (.ret ((⟨q139.2.n⟩ : Err), s79))) else (bnd (atI s79.costs x1) fun a159 => bnd (atI s79.t.ops a82) fun a171 => bnd (chkI (a159 + a171.cost)) fun n192 => bnd (e_stubborn_search_reach s79 q139.1 x1 a82 n192) fun q200 => if q200.1.n ≠ 0 then (some (.ret ((⟨q200.1.n⟩ : Err), q200.2))) else (some (.next q200.2)))) q61 0 (⟨(⟨x0.t.vars, x0.t.init, x0.t.goal, x0.t.ops⟩ : Tsk), x0.states, x0.que, x0.costs, (x0.fin.set (x1 : Int).toNat true), n56⟩ : Sch)) fun res77 => fin res77 fun (s215 : Sch) => some ((⟨0⟩ : Err), s215)
theorem le_stubborn_search_expand (x0 : Sch) (x1 : Int) (x2 : List Int) : Le (e_stubborn_search_expand x0 x1 x2) (m_stubborn_search_expand x0 x1 x2) := by
  unfold e_stubborn_search_expand m_stubborn_search_expand
  repeat' (first | apply le_stubborn_search_reach | apply le_stubborn_set | apply le_task_Apply | apply Le.ite | apply Le.bnd | apply Le.fin | apply Le.rng | apply Le.rngN | apply Le.lop | exact Le.rf | intro _)
noncomputable def e_stubborn_search_run (x0 : Sch) (x1 : Int) : Option (Rsl × Sch) :=
  bnd (lopE (ρ := Rsl × Sch) (fun (s17 : Int × Sch) => bnd (e_pqueue_Queue_Len s17.2.que) fun q71 => if 0 < q71 then (bnd (e_pqueue_Queue_Pop s17.2.que) fun q82 => bnd (if q82.2.2.2.1.n ≠ 0 then (some true) else (bnd (atI s17.2.fin q82.2.2.1) fun a112 => if a112 = true then (some true) else (bnd (atI s17.2.costs q82.2.2.1) fun a129 => if q82.1 ≠ a129 then (some true) else (some false))) : Option Bool) fun y102 => if y102 = true then (some (.next (s17.1, (⟨(⟨s17.2.t.vars, s17.2.t.init, s17.2.t.goal, s17.2.t.ops⟩ : Tsk), s17.2.states, q82.2.2.2.2, s17.2.costs, s17.2.fin, s17.2.exp⟩ : Sch)))) else (bnd (e_registry_Registry_State ((⟨(⟨s17.2.t.vars, s17.2.t.init, s17.2.t.goal, s17.2.t.ops⟩ : Tsk), s17.2.states, q82.2.2.2.2, s17.2.costs, s17.2.fin, s17.2.exp⟩ : Sch).states) q82.2.2.1) fun q194 => if q194.2.n ≠ 0 then (some (.brk (s17.1, (⟨(⟨s17.2.t.vars, s17.2.t.init, s17.2.t.goal, s17.2.t.ops⟩ : Tsk), s17.2.states, q82.2.2.2.2, s17.2.costs, s17.2.fin, s17.2.exp⟩ : Sch)))) else (bnd (e_task_Holds ((⟨(⟨s17.2.t.vars, s17.2.t.init, s17.2.t.goal, s17.2.t.ops⟩ : Tsk), s17.2.states, q82.2.2.2.2, s17.2.costs, s17.2.fin, s17.2.exp⟩ : Sch).t.goal) q194.1) fun q215 => if q215 = true then bnd (e_registry_Registry_Path ((⟨(⟨s17.2.t.vars, s17.2.t.init, s17.2.t.goal, s17.2.t.ops⟩ : Tsk), s17.2.states, q82.2.2.2.2, s17.2.costs, s17.2.fin, s17.2.exp⟩ : Sch).states) q82.2.2.1) fun q294 => if q294.2.n ≠ 0 then (some (.brk (s17.1, (⟨(⟨s17.2.t.vars, s17.2.t.init, s17.2.t.goal, s17.2.t.ops⟩ : Tsk), s17.2.states, q82.2.2.2.2, s17.2.costs, s17.2.fin, s17.2.exp⟩ : Sch)))) else (some (.ret ((⟨1, q294.1, q82.1, (⟨(⟨s17.2.t.vars, s17.2.t.init, s17.2.t.goal, s17.2.t.ops⟩ : Tsk), s17.2.states, q82.2.2.2.2, s17.2.costs, s17.2.fin, s17.2.exp⟩ : Sch).exp⟩ : Rsl), (⟨(⟨s17.2.t.vars, s17.2.t.init, s17.2.t.goal, s17.2.t.ops⟩ : Tsk), s17.2.states, q82.2.2.2.2, s17.2.costs, s17.2.fin, s17.2.exp⟩ : Sch)))) else if x1 ≤ ((⟨(⟨s17.2.t.vars, s17.2.t.init, s17.2.t.goal, s17.2.t.ops⟩ : Tsk), s17.2.states, q82.2.2.2.2, s17.2.costs, s17.2.fin, s17.2.exp⟩ : Sch).exp) then (some (.ret ((⟨3, ([] : List Int), 0, (⟨(⟨s17.2.t.vars, s17.2.t.init, s17.2.t.goal, s17.2.t.ops⟩ : Tsk), s17.2.states, q82.2.2.2.2, s17.2.costs, s17.2.fin, s17.2.exp⟩ : Sch).exp⟩ : Rsl), (⟨(⟨s17.2.t.vars, s17.2.t.init, s17.2.t.goal, s17.2.t.ops⟩ : Tsk), s17.2.states, q82.2.2.2.2, s17.2.costs, s17.2.fin, s17.2.exp⟩ : Sch)))) else (bnd (e_stubborn_search_expand (⟨(⟨s17.2.t.vars, s17.2.t.init, s17.2.t.goal, s17.2.t.ops⟩ : Tsk), s17.2.states, q82.2.2.2.2, s17.2.costs, s17.2.fin, s17.2.exp⟩ : Sch) q82.2.2.1 q194.1) fun q237 => if q237.1.n ≠ 0 then (some (.ret ((⟨3, ([] : List Int), 0, q237.2.exp⟩ : Rsl), q237.2))) else (some (.next ((⟨(⟨s17.2.t.vars, s17.2.t.init, s17.2.t.goal, s17.2.t.ops⟩ : Tsk), s17.2.states, q82.2.2.2.2, s17.2.costs, s17.2.fin, s17.2.exp⟩ : Sch).exp, q237.2))))))) else (some (.brk (s17.1, s17.2)))) (0, x0)) fun res15 => fin res15 fun (s331 : Int × Sch) => some ((⟨2, ([] : List Int), 0, s331.2.exp⟩ : Rsl), s331.2)
theorem le_stubborn_search_run (x0 : Sch) (x1 : Int) : Le (e_stubborn_search_run x0 x1) (m_stubborn_search_run x0 x1) := by
  unfold e_stubborn_search_run m_stubborn_search_run
  repeat' (first | apply le_pqueue_Queue_Len | apply le_pqueue_Queue_Pop | apply le_registry_Registry_Path | apply le_registry_Registry_State | apply le_stubborn_search_expand | apply le_task_Holds | apply Le.ite | apply Le.bnd | apply Le.fin | apply Le.rng | apply Le.rngN | apply Le.lop | exact Le.rf | intro _)
noncomputable def e_stubborn_Search (x0 : Tsk) (x1 : Int) : Option (Rsl × Err) :=
  bnd (e_task_Check x0) fun q30 => if q30.n ≠ 0 then (some ((⟨0, ([] : List Int), 0, 0⟩ : Rsl), (⟨q30.n⟩ : Err))) else (bnd (e_registry_New x0.vars) fun q41 => if q41.2.n ≠ 0 then (some ((⟨0, ([] : List Int), 0, 0⟩ : Rsl), (⟨q41.2.n⟩ : Err))) else (bnd (e_pqueue_New) fun q56 => bnd q41.1 fun o64 => bnd q56 fun o67 => bnd (e_stubborn_search_reach (⟨(⟨x0.vars, x0.init, x0.goal, x0.ops⟩ : Tsk), o64, o67, ([] : List Int), ([] : List Bool), 0⟩ : Sch) x0.init (-1) (-1) 0) fun q84 => if q84.1.n ≠ 0 then (some ((⟨0, ([] : List Int), 0, 0⟩ : Rsl), (⟨q84.1.n⟩ : Err))) else (bnd (e_stubborn_search_run q84.2 (max x1 0)) fun q97 => some (q97.1, (⟨0⟩ : Err)))))
theorem le_stubborn_Search (x0 : Tsk) (x1 : Int) : Le (e_stubborn_Search x0 x1) (m_stubborn_Search x0 x1) := by
  unfold e_stubborn_Search m_stubborn_Search
  repeat' (first | apply le_pqueue_New | apply le_registry_New | apply le_stubborn_search_reach | apply le_stubborn_search_run | apply le_task_Check | apply Le.ite | apply Le.bnd | apply Le.fin | apply Le.rng | apply Le.rngN | apply Le.lop | exact Le.rf | intro _)
noncomputable def e_law53_switches  : Option Tsk :=
  some (⟨[2, 2], [0, 0], [(⟨0, 1⟩ : Fct), (⟨1, 1⟩ : Fct)], [(⟨(⟨#[]⟩ : ByteArray), 1, [(⟨0, 0⟩ : Fct)], [(⟨([] : List Fct), 0, 1⟩ : Eff)]⟩ : Opr), (⟨(⟨#[]⟩ : ByteArray), 1, [(⟨1, 0⟩ : Fct)], [(⟨([] : List Fct), 1, 1⟩ : Eff)]⟩ : Opr)]⟩ : Tsk)
theorem le_law53_switches  : Le (e_law53_switches ) (m_law53_switches ) := by
  unfold e_law53_switches m_law53_switches
  repeat' (first | apply Le.ite | apply Le.bnd | apply Le.fin | apply Le.rng | apply Le.rngN | apply Le.lop | exact Le.rf | intro _)
noncomputable def e_law53_awake  : Option Bool :=
  bnd (e_law53_switches) fun q1 => bnd (e_stubborn_Set q1 [0, 0]) fun q33 => bnd (e_law53_switches) fun q47 => bnd (e_stubborn_Search q47 10) fun q71 => bnd (if q33.2.n = 0 then (if q71.2.n = 0 then (bnd (e_base_Ints q33.1 [0]) fun q110 => if q110 = true then if q71.1.verdict = 1 then (if q71.1.cost = 2 then (if q71.1.expanded = 2 then (some true) else (some false)) else (some false)) else (some false) else some false) else (some false)) else (some false) : Option Bool) fun y98 => some y98
theorem le_law53_awake  : Le (e_law53_awake ) (m_law53_awake ) := by
  unfold e_law53_awake m_law53_awake
  repeat' (first | apply le_base_Ints | apply le_law53_switches | apply le_stubborn_Search | apply le_stubborn_Set | apply Le.ite | apply Le.bnd | apply Le.fin | apply Le.rng | apply Le.rngN | apply Le.lop | exact Le.rf | intro _)
set_option maxRecDepth 100000 in
theorem awake53 : m_law53_awake = some true := le_law53_awake true (by kernel_rfl)
end
section
open Go Go.RowKit
theorem small_t {t : Tsk} (h : SmallOk t) : m_base_Small t = some true := by unfold m_base_Small; rw [bof_t h]
theorem small_f {t : Tsk} (h : ¬ SmallOk t) : m_base_Small t = some false := by unfold m_base_Small; rw [bof_f h]
theorem ints_t {a : List Int} : m_base_Ints a a = some true := by unfold m_base_Ints; rw [bof_t rfl]
theorem rem_nat {b : Byt} {n : Nat} (h : 0 < n) : ∃ k : Nat, k < n ∧ remI b.n (n : Int) = some (k : Int) := by
  have h1 := Int.emod_nonneg b.n (show (n : Int) ≠ 0 by omega)
  have h2 := Int.emod_lt_of_pos b.n (show (0 : Int) < n by omega)
  refine ⟨(b.n % n).toNat, by omega, ?_⟩
  rw [remI_eq b.lo (by omega)]
  congr 1
  omega
theorem commutes_eq (t : Tsk) (x : Byt × Byt) : m_law53_StubbornCommutes t x = some true := by
  unfold m_law53_StubbornCommutes
  by_cases hs : SmallOk t
  case neg => rw [awake53, bnd_some, if_t, small_f hs]; rfl
  by_cases h0 : (t.ops.length : Int) = 0
  · rw [awake53, bnd_some, if_t, small_t hs, bnd_some, if_t, if_pos h0]; rfl
  rw [awake53, bnd_some, if_t, small_t hs, bnd_some, if_t, if_neg h0, bnd_some, if_f]
  have hok := hs.ok
  obtain ⟨a, ha, ea⟩ := rem_nat (b := x.1) (n := t.ops.length) (by omega)
  obtain ⟨b, hb, eb⟩ := rem_nat (b := x.2) (n := t.ops.length) (by omega)
  rw [ea, eb, bnd_some, bnd_some]
  have hr : rangeB t (a : Int) (b : Int) = false := by unfold rangeB; simp; omega
  have hr' : rangeB t (b : Int) (a : Int) = false := by unfold rangeB; simp; omega
  obtain ⟨o, p, h1, h2, h3, h4, h5⟩ := Int_ok hok hr
  obtain ⟨p', o', g1, g2, g3, g4, g5⟩ := Int_ok hok hr'
  rw [h2] at g1
  rw [h1] at g2
  have := sm g1
  subst this
  have := sm g2
  subst this
  simp only [Int.toNat_natCast] at h3 h4
  rw [h5, g5, bnd_some, bnd_some]
  rw [intB_comm p o, show decide ((b : Int) ≠ (a : Int)) = decide ((a : Int) ≠ (b : Int)) from by simp [eq_comm]]
  by_cases hab : (a : Int) = (b : Int)
  · simp [hab, bnd]
  cases hi : intB o p with
  | true => simp [hab, bnd]
  | false =>
    simp only [Bool.and_false, hab, if_false, bnd_some, Bool.false_eq_true, ne_eq, not_true_eq_false]
    rw [states_small hs, bnd_some, rng_unit, bnd_some]
    · rfl
    · intro k s hk
      have hso : StateOk t.vars s := mem_statesL.1 (List.mem_of_getElem? hk)
      rw [apply_all hok hso h3, apply_all hok hso h4, bnd_some, bnd_some]
      by_cases hp : holdsB o.pre s = true
      case neg => simp [hp, bnd]
      by_cases hq : holdsB p.pre s = true
      case neg => simp [hp, hq, bnd]
      rw [if_pos hp, if_pos hq]
      obtain ⟨c1, c2, c3⟩ := commute (hok.effs hso _ o h3) (hok.effs hso _ p h4) hp hq hi
      simp only [Bool.not_true, Bool.false_eq_true, if_false, bnd_some]
      rw [apply_all hok (succ_ok hok hso h3) h4, apply_all hok (succ_ok hok hso h4) h3, if_pos c1, if_pos c2, bnd_some, bnd_some, c3]
      simp only [Bool.not_true, Bool.false_eq_true, if_false, ints_t, bnd_some, if_true]
end
section
open Go Go.RowKit Go.ChangeShapes Go.WideShapes Go.Deep
instance : Reads Try.prog 62 (Byt × Byt) := readsArr2 Try.underlying62 c_byte (by kernel_rfl)
theorem lawCommutes {w : World} {v0 : Value} {a0 : Tsk} (h0 : V w v0 a0) {v1 : Value} {a1 : Byt × Byt} (h1 : V w v1 a1) : Fn Try.prog 9 [v0, v1] w fun v w' => v = .bool true ∧ Ext w w' :=
  (c_law53_StubbornCommutes (fun _ h => h) h0 h1 (commutes_eq a0 a1)).mono fun _ _ h => ⟨h.2.bool, h.1⟩
set_option maxRecDepth 100000 in
theorem stubbornCommutes_lifted (os : Os) (started : os.Started) (H : Type) (enc : TypeId × Value → H) :
    ReturnsInHanded {} Try.checked os 9 .any (Rows.stubbornCommutesSpec.pre6 enc Try.prog Try.f9 Rows.stubbornCommutesRow.domain false) (Rows.stubbornCommutesSpec.post enc Try.prog Try.f9 false true false false) := by
  refine returnsInHanded_of_change (C := Try.checked) ownTry started (by kernel_rfl) Try.func9 (ChangeSpec.witness6 (enc := enc) (C := Try.checked) false ⟨#[], #[(.agg #[.slice none 0 0, .slice none 0 0, .slice none 0 0, .slice none 0 0]), (.agg #[.int .u8 0, .int .u8 0])], []⟩ 8 (by kernel_rfl) (by kernel_rfl) (by kernel_rfl) (by kernel_rfl)) ?_
  intro W base args ds gs before hval hW _ _
  have hopen : ∀ p, DataW.TrodAll enc Try.prog W 0 (fun _ => true) true Try.f9.params.toList args.toList ds p → ∃ v0 v1 d0 d1, args = #[v0, v1] ∧ ds = [d0, d1] ∧ (∃ a : Tsk, V W v0 a) ∧ (∃ a : Byt × Byt, V W v1 a) := by
    intro p hA
    rw [Try.params9] at hA
    replace hval : ∀ (j : Nat) t v, (#[26, 62] : Array TypeId)[j]? = some t → args[j]? = some v → Value.okWide Try.prog W .any base t v := by rw [← Try.params9]; exact hval
    obtain ⟨v0, vs0, d0, ds0, p0, q0, g0, e0, _, h0, r0⟩ := trodAll_cons hA
    obtain ⟨v1, vs1, d1, ds1, p1, q1, g1, e1, _, h1, r1⟩ := trodAll_cons r0
    obtain ⟨g, e, _⟩ := trodAll_nil r1
    rw [g] at g1; rw [e] at e1
    rw [g1] at g0; rw [e1] at e0
    obtain rfl : args = #[v0, v1] := by cases args; simp_all
    exact ⟨v0, v1, d0, d1, rfl, e0, (by first | exact openAgg rfl (hval 0 26 v0 rfl rfl) h0 | exact openOne rfl (hval 0 26 v0 rfl rfl) h0), (by first | exact openAgg rfl (hval 1 62 v1 rfl rfl) h1 | exact openOne rfl (hval 1 62 v1 rfl rfl) h1)⟩
  refine lawPost rfl (by kernel_rfl) (by rw [Try.params9]; exact of_decide_eq_true (by kernel_rfl)) hW ?_ ?_
  · intro p hA
    obtain ⟨v0, v1, d0, d1, _, rfl, _⟩ := hopen p hA
    rfl
  · intro p hA
    obtain ⟨v0, v1, d0, d1, rfl, _, ⟨a0, h0⟩, ⟨a1, h1⟩⟩ := hopen p hA
    exact lawCommutes h0 h1
theorem stubbornCommutes_holds : Rows.StubbornCommutesSaid :=
  OpenClaim.holds_of_wide 9 Try.f9 rfl rfl rfl rfl rfl rfl rfl ⟨rfl, rfl, rfl, rfl, rfl⟩ rfl rfl rfl rfl rfl (by kernel_rfl) Try.func9 (by kernel_rfl)
    (of_decide_eq_true (by kernel_rfl)) (by unfold Func.isWrapper; first | (rw [if_pos (by decide +kernel)]; kernel_rfl) | (rw [if_neg (by decide +kernel)]; exact ⟨rfl, rfl⟩))
    (fun os started H enc _ => stubbornCommutes_lifted os started H enc)
#print axioms stubbornCommutes_holds
end
end Go.Proofs.Ytgnmjmcjadpmhaa

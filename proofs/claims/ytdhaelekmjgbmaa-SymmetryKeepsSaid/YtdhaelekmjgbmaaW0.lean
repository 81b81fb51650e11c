/- Own text: contracts that were proved by hand, in the words of the models. -/
import Derived.Test.YtdhaelekmjgbmaaPlain0
import Derived.Test.YtdhaelekmjgbmaaShort2
namespace Go.Proofs.Ytdhaelekmjgbmaa
open Go Go.RowKit
attribute [local irreducible] ewp owp hwp hwq hws Ev Evg Fn retPost loud loudS Res1
section
variable {w : World} {A : Nat → Prop} (hA : ∀ k, A k → k < w.heap.size) {v0 v1 : Value}
include hA
omit hA in
def m_base_Holds (f : List Fct) (s : List Int) : Option Bool := some (holdsB f s)
theorem c_base_Holds {x0 : List Fct} (h0 : Vb w A v0 x0) {x1 : List Int} (h1 : Vb w A v1 x1) {r : Bool} (hm : m_base_Holds x0 x1 = some r) : Fn Try.prog 61 [v0, v1] w fun v w' => Ext w w' ∧ Vb w' (upA A w w') v r := by
  obtain rfl := sm hm
  refine (baseHolds (h0.mono hA) (h1.mono hA)).mono fun v w' h => ⟨h.2, ?_⟩
  rw [h.1, bof_b]; exact vBool
omit hA in
def m_task_Holds (f : List Fct) (s : List Int) : Option Bool := some (holdsB f s)
theorem c_task_Holds {x0 : List Fct} (h0 : Vb w A v0 x0) {x1 : List Int} (h1 : Vb w A v1 x1) {r : Bool} (hm : m_task_Holds x0 x1 = some r) : Fn Try.prog 64 [v0, v1] w fun v w' => Ext w w' ∧ Vb w' (upA A w w') v r := by
  obtain rfl := sm hm
  refine (taskHolds (h0.mono hA) (h1.mono hA)).mono fun v w' h => ⟨h.2, ?_⟩
  rw [h.1, bof_b]; exact vBool
omit hA in
noncomputable def m_base_Ints (x : List Int) (y : List Int) : Option Bool := some (bof (x = y))
theorem c_base_Ints {x0 : List Int} (h0 : Vb w A v0 x0) {x1 : List Int} (h1 : Vb w A v1 x1) {r : Bool} (hm : m_base_Ints x0 x1 = some r) : Fn Try.prog 18 [v0, v1] w fun v w' => Ext w w' ∧ Vb w' (upA A w w') v r := by
  obtain rfl := sm hm
  refine (baseInts (h0.mono hA) (h1.mono hA)).mono fun v w' h => ⟨h.2, ?_⟩
  rw [h.1]; exact vBool
omit hA in
noncomputable def m_base_State (x : List Int) (y : List Int) : Option Bool := some (bof (StateOk x y))
theorem c_base_State {x0 : List Int} (h0 : Vb w A v0 x0) {x1 : List Int} (h1 : Vb w A v1 x1) {r : Bool} (hm : m_base_State x0 x1 = some r) : Fn Try.prog 19 [v0, v1] w fun v w' => Ext w w' ∧ Vb w' (upA A w w') v r := by
  obtain rfl := sm hm
  refine (baseState (h0.mono hA) (h1.mono hA)).mono fun v w' h => ⟨h.2, ?_⟩
  rw [h.1]; exact vBool
omit hA in
noncomputable def m_base_Proper (x : List Int) (y : List Fct) : Option Bool := some (bof (FactsOk x y))
theorem c_base_Proper {x0 : List Int} (h0 : Vb w A v0 x0) {x1 : List Fct} (h1 : Vb w A v1 x1) {r : Bool} (hm : m_base_Proper x0 x1 = some r) : Fn Try.prog 75 [v0, v1] w fun v w' => Ext w w' ∧ Vb w' (upA A w w') v r := by
  obtain rfl := sm hm
  refine (baseProper (h0.mono hA) (h1.mono hA)).mono fun v w' h => ⟨h.2, ?_⟩
  rw [h.1]; exact vBool
omit hA in
noncomputable def m_task_Proper (x : List Int) (y : List Int) : Option Bool := some (bof (StateOk x y))
theorem c_task_Proper {x0 : List Int} (h0 : Vb w A v0 x0) {x1 : List Int} (h1 : Vb w A v1 x1) {r : Bool} (hm : m_task_Proper x0 x1 = some r) : Fn Try.prog 46 [v0, v1] w fun v w' => Ext w w' ∧ Vb w' (upA A w w') v r := by
  obtain rfl := sm hm
  refine (taskProper (h0.mono hA) (h1.mono hA)).mono fun v w' h => ⟨h.2, ?_⟩
  rw [h.1]; exact vBool
omit hA in
noncomputable def m_task_Facts (x : List Int) (y : List Fct) : Option Bool := some (bof (FactsOk x y))
theorem c_task_Facts {x0 : List Int} (h0 : Vb w A v0 x0) {x1 : List Fct} (h1 : Vb w A v1 x1) {r : Bool} (hm : m_task_Facts x0 x1 = some r) : Fn Try.prog 67 [v0, v1] w fun v w' => Ext w w' ∧ Vb w' (upA A w w') v r := by
  obtain rfl := sm hm
  refine (taskFacts (h0.mono hA) (h1.mono hA)).mono fun v w' h => ⟨h.2, ?_⟩
  rw [h.1]; exact vBool
omit hA in
noncomputable def m_base_Good (t : Tsk) : Option Bool := some (bof (TaskOk t))
theorem c_base_Good {x0 : Tsk} (h0 : Vb w A v0 x0) {r : Bool} (hm : m_base_Good x0 = some r) : Fn Try.prog 40 [v0] w fun v w' => Ext w w' ∧ Vb w' (upA A w w') v r := by
  obtain rfl := sm hm
  refine (baseGood (h0.mono hA)).mono fun v w' h => ⟨h.2, ?_⟩
  rw [h.1]; exact vBool
omit hA in
noncomputable def m_base_Small (t : Tsk) : Option Bool := some (bof (SmallOk t))
theorem c_base_Small {x0 : Tsk} (h0 : Vb w A v0 x0) {r : Bool} (hm : m_base_Small x0 = some r) : Fn Try.prog 21 [v0] w fun v w' => Ext w w' ∧ Vb w' (upA A w w') v r := by
  obtain rfl := sm hm
  refine (baseSmall (h0.mono hA)).mono fun v w' h => ⟨h.2, ?_⟩
  rw [h.1]; exact vBool
end
noncomputable def m_task_Check (t : Tsk) : Option Err := some ⟨checkN t⟩
theorem checkN_rng (t : Tsk) : inI64 (checkN t) := by unfold checkN; (repeat' split) <;> decide
theorem c_task_Check {w : World} {A : Nat → Prop} (hA : ∀ k, A k → k < w.heap.size) {v0 : Value} {x0 : Tsk} (h0 : Vb w A v0 x0) {r : Err} (hm : m_task_Check x0 = some r) : Fn Try.prog 38 [v0] w fun v w' => Ext w w' ∧ Vb w' (upA A w w') v r := by
  obtain rfl := sm hm
  refine (taskCheck (h0.mono hA)).mono fun v w' h => ⟨h.2, ?_⟩
  rw [h.1]
  exact vErr (checkN_rng _)
def m_base_Num (x : Err) : Option Int := some x.n
theorem c_base_Num {w : World} {A : Nat → Prop} (hA : ∀ k, A k → k < w.heap.size) {x0 : Err} (r0 : inI64 x0.n) {r : Int} (hm : m_base_Num x0 = some r) : Fn Try.prog 16 [errV x0.n] w fun v w' => Ext w w' ∧ Vb w' (upA A w w') v r := by
  obtain rfl := sm hm
  refine fn_enter Try.func16 rfl Try.ntmps16 rfl ?_
  by_cases h : x0.n = 0
  · rw [h, errV_zero]
    ((repeat (first | refine ewp_seq ?_ | refine ewp_block ?_ | refine ewp_region ?_ | refine ewp_skip ?_ | refine ewp_exit ?_ | refine ewp_ret ?_ | refine ewp_true rfl ?_ | refine ewp_false rfl ?_)) <;> (refine o_as rfl rfl ?_ <;> (first | refine owp_nilT ?_ | refine owp_nilB ?_ | refine owp_nilBB ?_ | refine owp_nil ?_)) <;> (repeat (first | refine ewp_seq ?_ | refine ewp_block ?_ | refine ewp_region ?_ | refine ewp_skip ?_ | refine ewp_exit ?_ | refine ewp_ret ?_ | refine ewp_true rfl ?_ | refine ewp_false rfl ?_)) <;> (refine o_mv rfl rfl ?_ <;> (first | refine o_en rfl rfl ?_ | refine o_eo rfl rfl ?_) <;> (first | refine owp_nilT ?_ | refine owp_nilB ?_ | refine owp_nilBB ?_ | refine owp_nil ?_)) <;> (repeat (first | refine ewp_seq ?_ | refine ewp_block ?_ | refine ewp_region ?_ | refine ewp_skip ?_ | refine ewp_exit ?_ | refine ewp_ret ?_ | refine ewp_true rfl ?_ | refine ewp_false rfl ?_)) <;> (refine o_as rfl rfl ?_ <;> (first | refine owp_nilT ?_ | refine owp_nilB ?_ | refine owp_nilBB ?_ | refine owp_nil ?_)) <;> (repeat (first | refine ewp_seq ?_ | refine ewp_block ?_ | refine ewp_region ?_ | refine ewp_skip ?_ | refine ewp_exit ?_ | refine ewp_ret ?_ | refine ewp_true rfl ?_ | refine ewp_false rfl ?_)))
    exact ret1 rfl rfl ⟨Below.refl _ _, vInt (by decide)⟩
  · rw [errV_pos h]
    have h2 : -9223372036854775808 ≤ x0.n ∧ x0.n ≤ 9223372036854775807 := r0
    ((repeat (first | refine ewp_seq ?_ | refine ewp_block ?_ | refine ewp_region ?_ | refine ewp_skip ?_ | refine ewp_exit ?_ | refine ewp_ret ?_ | refine ewp_true rfl ?_ | refine ewp_false rfl ?_)) <;> (refine o_as rfl rfl ?_ <;> (first | refine owp_nilT ?_ | refine owp_nilB ?_ | refine owp_nilBB ?_ | refine owp_nil ?_)) <;> (repeat (first | refine ewp_seq ?_ | refine ewp_block ?_ | refine ewp_region ?_ | refine ewp_skip ?_ | refine ewp_exit ?_ | refine ewp_ret ?_ | refine ewp_true rfl ?_ | refine ewp_false rfl ?_)) <;> (refine o_mv rfl rfl ?_ <;> (first | refine o_en rfl rfl ?_ | refine o_eo rfl rfl ?_) <;> (first | refine owp_nilT ?_ | refine owp_nilB ?_ | refine owp_nilBB ?_ | refine owp_nil ?_)) <;> (repeat (first | refine ewp_seq ?_ | refine ewp_block ?_ | refine ewp_region ?_ | refine ewp_skip ?_ | refine ewp_exit ?_ | refine ewp_ret ?_ | refine ewp_true rfl ?_ | refine ewp_false rfl ?_)) <;> (refine o_mv rfl rfl ?_ <;> refine o_ta rfl rfl ?_ <;> refine o_mv rfl rfl ?_ <;> refine o_ex rfl rfl rfl ?_ <;> refine o_ex rfl rfl rfl ?_ <;> refine o_as rfl rfl ?_ <;> refine o_as rfl rfl ?_ <;> (first | refine owp_nilT ?_ | refine owp_nilB ?_ | refine owp_nilBB ?_ | refine owp_nil ?_)) <;> (repeat (first | refine ewp_seq ?_ | refine ewp_block ?_ | refine ewp_region ?_ | refine ewp_skip ?_ | refine ewp_exit ?_ | refine ewp_ret ?_ | refine ewp_true rfl ?_ | refine ewp_false rfl ?_)) <;> (refine o_mv rfl rfl ?_ <;> (first | refine owp_nilT ?_ | refine owp_nilB ?_ | refine owp_nilBB ?_ | refine owp_nil ?_)) <;> (repeat (first | refine ewp_seq ?_ | refine ewp_block ?_ | refine ewp_region ?_ | refine ewp_skip ?_ | refine ewp_exit ?_ | refine ewp_ret ?_ | refine ewp_true rfl ?_ | refine ewp_false rfl ?_)) <;> (refine o_mv rfl rfl ?_ <;> refine o_as rfl rfl ?_ <;> (first | refine owp_nilT ?_ | refine owp_nilB ?_ | refine owp_nilBB ?_ | refine owp_nil ?_)) <;> (repeat (first | refine ewp_seq ?_ | refine ewp_block ?_ | refine ewp_region ?_ | refine ewp_skip ?_ | refine ewp_exit ?_ | refine ewp_ret ?_ | refine ewp_true rfl ?_ | refine ewp_false rfl ?_)))
    exact ret1 rfl rfl ⟨Below.refl _ _, vInt r0⟩
def m_slices_Clone_Lint_int (xs : List Int) : Option (List Int) := if xs.length * 8 ≤ 140737488355328 ∧ xs.length ≤ 9223372036854775807 then some xs else none
theorem c_slices_Clone_Lint_int {w : World} {A : Nat → Prop} (hA : ∀ k, A k → k < w.heap.size) {v0 : Value} {x0 : List Int} (h0 : Vb w A v0 x0) {r : List Int} (hm : m_slices_Clone_Lint_int x0 = some r) :
    Fn Try.prog 56 [v0] w fun v w' => Ext w w' ∧ RowR w w' (upA A w w') 3 v r := by
  obtain ⟨⟨hl, hl2⟩, rfl⟩ := ite_some hm
  obtain ⟨O, hB, hA0⟩ := enter hA
  replace h0 := h0.mono hA0
  obtain ⟨Ad, c, rfl⟩ := h0.form
  refine fn_enter Try.func56 rfl Try.ntmps56 rfl ?_
  cases Ad with
  | none =>
    have hx : x0 = [] := by
      cases x0 with
      | nil => rfl
      | cons x xs => obtain ⟨_, _, _, h, _⟩ := h0.elem (k := 0) (x := x) rfl; cases h
    subst hx
    ((repeat (first | refine ewp_seq ?_ | refine ewp_block ?_ | refine ewp_region ?_ | refine ewp_skip ?_ | refine ewp_exit ?_ | refine ewp_ret ?_ | refine ewp_true rfl ?_ | refine ewp_false rfl ?_)) <;> (refine o_as rfl rfl ?_ <;> (first | refine owp_nilT ?_ | refine owp_nilB ?_ | refine owp_nilBB ?_ | refine owp_nil ?_)) <;> (repeat (first | refine ewp_seq ?_ | refine ewp_block ?_ | refine ewp_region ?_ | refine ewp_skip ?_ | refine ewp_exit ?_ | refine ewp_ret ?_ | refine ewp_true rfl ?_ | refine ewp_false rfl ?_)) <;> (refine o_mv rfl rfl ?_ <;> refine o_sn rfl rfl ?_ <;> (first | refine owp_nilT ?_ | refine owp_nilB ?_ | refine owp_nilBB ?_ | refine owp_nil ?_)) <;> (repeat (first | refine ewp_seq ?_ | refine ewp_block ?_ | refine ewp_region ?_ | refine ewp_skip ?_ | refine ewp_exit ?_ | refine ewp_ret ?_ | refine ewp_true rfl ?_ | refine ewp_false rfl ?_)) <;> (refine o_as rfl rfl ?_ <;> (first | refine owp_nilT ?_ | refine owp_nilB ?_ | refine owp_nilBB ?_ | refine owp_nil ?_)) <;> (repeat (first | refine ewp_seq ?_ | refine ewp_block ?_ | refine ewp_region ?_ | refine ewp_skip ?_ | refine ewp_exit ?_ | refine ewp_ret ?_ | refine ewp_true rfl ?_ | refine ewp_false rfl ?_)))
    exact ret1 rfl rfl ⟨Below.refl _ _, RowR.nil⟩
  | some ad =>
    ((repeat (first | refine ewp_seq ?_ | refine ewp_block ?_ | refine ewp_region ?_ | refine ewp_skip ?_ | refine ewp_exit ?_ | refine ewp_ret ?_ | refine ewp_true rfl ?_ | refine ewp_false rfl ?_)) <;> (refine o_as rfl rfl ?_ <;> (first | refine owp_nilT ?_ | refine owp_nilB ?_ | refine owp_nilBB ?_ | refine owp_nil ?_)) <;> (repeat (first | refine ewp_seq ?_ | refine ewp_block ?_ | refine ewp_region ?_ | refine ewp_skip ?_ | refine ewp_exit ?_ | refine ewp_ret ?_ | refine ewp_true rfl ?_ | refine ewp_false rfl ?_)) <;> (refine o_mv rfl rfl ?_ <;> refine o_sn rfl rfl ?_ <;> (first | refine owp_nilT ?_ | refine owp_nilB ?_ | refine owp_nilBB ?_ | refine owp_nil ?_)) <;> (repeat (first | refine ewp_seq ?_ | refine ewp_block ?_ | refine ewp_region ?_ | refine ewp_skip ?_ | refine ewp_exit ?_ | refine ewp_ret ?_ | refine ewp_true rfl ?_ | refine ewp_false rfl ?_)))
    refine l_bslice 2 (by decide) O (xs := ([] : List Int)) rfl rfl rfl rfl trivial (by decide) (by decide) rfl fun g w1 O1 S1 h1 => ?_
    replace hB := hB.st S1 (fun h => h) (fun h => h)
    replace h0 := h0.st S1 (fun h => h)
    (refine o_mv rfl rfl ?_)
    refine l_append rfl h1 h0.rd rfl rfl (by decide) (by simpa using hl) (by simpa using hl2) rfl fun A2 c2 w2 O2 S2 h2 => ?_
    replace hB := hB.st S2 (by decide) (by decide)
    rw [List.nil_append] at h2 ⊢
    (refine o_as rfl rfl ?_ <;> (first | refine owp_nilT ?_ | refine owp_nilB ?_ | refine owp_nilBB ?_ | refine owp_nil ?_))
    repeat (first | refine ewp_seq ?_ | refine ewp_block ?_ | refine ewp_region ?_ | refine ewp_skip ?_ | refine ewp_exit ?_ | refine ewp_ret ?_ | refine ewp_true rfl ?_ | refine ewp_false rfl ?_)
    exact ret1 rfl rfl ⟨hB.ext, h2.out hB (by decide)⟩
end Go.Proofs.Ytdhaelekmjgbmaa

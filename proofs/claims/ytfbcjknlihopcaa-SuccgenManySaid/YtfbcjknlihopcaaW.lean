/- Own text: contracts that were proved by hand, in the words of the models. -/
import Derived.Test.YtfbcjknlihopcaaGnr
import Derived.Test.YtfbcjknlihopcaaRight
namespace Go.Proofs.Ytfbcjknlihopcaa
open Go Go.RowKit
attribute [local irreducible] ewp owp hwp hwq hws Ev Evg Fn retPost loud loudS Res1
section
variable {w : World} {A : Nat → Prop} (hA : ∀ k, A k → k < w.heap.size) {v0 v1 : Value}
include hA
omit hA in
def m_base_Holds (f : List Fct) (s : List Int) : Option Bool := some (holdsB f s)
theorem c_base_Holds {x0 : List Fct} (h0 : Vb w A v0 x0) {x1 : List Int} (h1 : Vb w A v1 x1) {r : Bool} (hm : m_base_Holds x0 x1 = some r) : Fn Try.prog 42 [v0, v1] w fun v w' => Ext w w' ∧ Vb w' (upA A w w') v r := by
  obtain rfl := sm hm
  refine (baseHolds (h0.mono hA) (h1.mono hA)).mono fun v w' h => ⟨h.2, ?_⟩
  rw [h.1, bof_b]; exact vBool
omit hA in
def m_task_Holds (f : List Fct) (s : List Int) : Option Bool := some (holdsB f s)
theorem c_task_Holds {x0 : List Fct} (h0 : Vb w A v0 x0) {x1 : List Int} (h1 : Vb w A v1 x1) {r : Bool} (hm : m_task_Holds x0 x1 = some r) : Fn Try.prog 35 [v0, v1] w fun v w' => Ext w w' ∧ Vb w' (upA A w w') v r := by
  obtain rfl := sm hm
  refine (taskHolds (h0.mono hA) (h1.mono hA)).mono fun v w' h => ⟨h.2, ?_⟩
  rw [h.1, bof_b]; exact vBool
omit hA in
noncomputable def m_base_Ints (x : List Int) (y : List Int) : Option Bool := some (bof (x = y))
theorem c_base_Ints {x0 : List Int} (h0 : Vb w A v0 x0) {x1 : List Int} (h1 : Vb w A v1 x1) {r : Bool} (hm : m_base_Ints x0 x1 = some r) : Fn Try.prog 17 [v0, v1] w fun v w' => Ext w w' ∧ Vb w' (upA A w w') v r := by
  obtain rfl := sm hm
  refine (baseInts (h0.mono hA) (h1.mono hA)).mono fun v w' h => ⟨h.2, ?_⟩
  rw [h.1]; exact vBool
omit hA in
noncomputable def m_base_State (x : List Int) (y : List Int) : Option Bool := some (bof (StateOk x y))
theorem c_base_State {x0 : List Int} (h0 : Vb w A v0 x0) {x1 : List Int} (h1 : Vb w A v1 x1) {r : Bool} (hm : m_base_State x0 x1 = some r) : Fn Try.prog 26 [v0, v1] w fun v w' => Ext w w' ∧ Vb w' (upA A w w') v r := by
  obtain rfl := sm hm
  refine (baseState (h0.mono hA) (h1.mono hA)).mono fun v w' h => ⟨h.2, ?_⟩
  rw [h.1]; exact vBool
omit hA in
noncomputable def m_base_Proper (x : List Int) (y : List Fct) : Option Bool := some (bof (FactsOk x y))
theorem c_base_Proper {x0 : List Int} (h0 : Vb w A v0 x0) {x1 : List Fct} (h1 : Vb w A v1 x1) {r : Bool} (hm : m_base_Proper x0 x1 = some r) : Fn Try.prog 12 [v0, v1] w fun v w' => Ext w w' ∧ Vb w' (upA A w w') v r := by
  obtain rfl := sm hm
  refine (baseProper (h0.mono hA) (h1.mono hA)).mono fun v w' h => ⟨h.2, ?_⟩
  rw [h.1]; exact vBool
omit hA in
noncomputable def m_task_Proper (x : List Int) (y : List Int) : Option Bool := some (bof (StateOk x y))
theorem c_task_Proper {x0 : List Int} (h0 : Vb w A v0 x0) {x1 : List Int} (h1 : Vb w A v1 x1) {r : Bool} (hm : m_task_Proper x0 x1 = some r) : Fn Try.prog 38 [v0, v1] w fun v w' => Ext w w' ∧ Vb w' (upA A w w') v r := by
  obtain rfl := sm hm
  refine (taskProper (h0.mono hA) (h1.mono hA)).mono fun v w' h => ⟨h.2, ?_⟩
  rw [h.1]; exact vBool
omit hA in
noncomputable def m_task_Facts (x : List Int) (y : List Fct) : Option Bool := some (bof (FactsOk x y))
theorem c_task_Facts {x0 : List Int} (h0 : Vb w A v0 x0) {x1 : List Fct} (h1 : Vb w A v1 x1) {r : Bool} (hm : m_task_Facts x0 x1 = some r) : Fn Try.prog 40 [v0, v1] w fun v w' => Ext w w' ∧ Vb w' (upA A w w') v r := by
  obtain rfl := sm hm
  refine (taskFacts (h0.mono hA) (h1.mono hA)).mono fun v w' h => ⟨h.2, ?_⟩
  rw [h.1]; exact vBool
omit hA in
noncomputable def m_base_Good (t : Tsk) : Option Bool := some (bof (TaskOk t))
theorem c_base_Good {x0 : Tsk} (h0 : Vb w A v0 x0) {r : Bool} (hm : m_base_Good x0 = some r) : Fn Try.prog 23 [v0] w fun v w' => Ext w w' ∧ Vb w' (upA A w w') v r := by
  obtain rfl := sm hm
  refine (baseGood (h0.mono hA)).mono fun v w' h => ⟨h.2, ?_⟩
  rw [h.1]; exact vBool
omit hA in
noncomputable def m_base_Small (t : Tsk) : Option Bool := some (bof (SmallOk t))
theorem c_base_Small {x0 : Tsk} (h0 : Vb w A v0 x0) {r : Bool} (hm : m_base_Small x0 = some r) : Fn Try.prog 11 [v0] w fun v w' => Ext w w' ∧ Vb w' (upA A w w') v r := by
  obtain rfl := sm hm
  refine (baseSmall (h0.mono hA)).mono fun v w' h => ⟨h.2, ?_⟩
  rw [h.1]; exact vBool
omit hA in
def m_ref24_Applicable (t : Tsk) (s : List Int) : Option (List Int) := if t.ops.length ≤ 1000000 then some (appl t s) else none
theorem c_ref24_Applicable {x0 : Tsk} (h0 : Vb w A v0 x0) {x1 : List Int} (h1 : Vb w A v1 x1) {r : List Int} (hm : m_ref24_Applicable x0 x1 = some r) : Fn Try.prog 27 [v0, v1] w fun v w' => Ext w w' ∧ RowR w w' (upA A w w') 3 v r := by
  obtain ⟨hl, rfl⟩ := ite_some hm
  exact (refApplicable (h0.mono hA) (h1.mono hA) hl).mono fun v w' h => ⟨h.2, h.1.intRow⟩
omit hA in
def m_ref24_Looked (t : Tsk) : Option Int := if looked t ≤ 1000000 then some (looked t : Int) else none
theorem c_ref24_Looked {x0 : Tsk} (h0 : Vb w A v0 x0) {r : Int} (hm : m_ref24_Looked x0 = some r) : Fn Try.prog 22 [v0] w fun v w' => Ext w w' ∧ Vb w' (upA A w w') v r := by
  obtain ⟨hl, rfl⟩ := ite_some hm
  refine (refLooked (h0.mono hA)).mono fun v w' h => ⟨h.2, ?_⟩
  rw [h.1]; exact vInt (rngNat (by omega))
end
end Go.Proofs.Ytfbcjknlihopcaa

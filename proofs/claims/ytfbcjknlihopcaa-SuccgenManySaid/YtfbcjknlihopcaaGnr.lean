/- Own text: the successor generator as a plain datum, and its functions in the words of the models. -/
import Derived.Test.YtfbcjknlihopcaaGen
import Derived.Test.YtfbcjknlihopcaaShort2
namespace Go.Proofs.Ytfbcjknlihopcaa
open Go Go.RowKit
attribute [local irreducible] ewp owp hwp hwq hws Ev Evg Fn retPost loud loudS Res1
/-- A generator by its task. -/
structure Gnr where
  t : Tsk
def GnrR (w : World) (F : Nat → Prop) (v : Value) : Option Gnr → Prop
  | none => v = .pointer none
  | some g => TaskOk g.t ∧ GenR w F v g.t (treeOf g.t)
theorem GnrR.one {w : World} {F : Nat → Prop} {v : Value} : ∀ {x : Option Gnr}, GnrR w F v x → v.oneCell' = true
  | none, h => by have : v = .pointer none := h
                  subst this; rfl
  | some g, h => by
    obtain ⟨gb, rfl⟩ := h.2.form
    rfl
instance : Rp (Option Gnr) where
  isAgg := false
  size := 1
  R w F cs x := ∃ v, cs = [v] ∧ GnrR w F v x
  len := by rintro w F cs x ⟨v, rfl, _⟩; rfl
  one := by
    rintro w F cs x ⟨v, rfl, h⟩ u hu
    have : u = v := by simpa using hu
    subst this; exact h.one
  agree := by
    rintro w w' F cs x ⟨v, rfl, h⟩ ha
    refine ⟨v, rfl, ?_⟩
    cases x with
    | none => exact h
    | some g => exact ⟨h.1, h.2.agree ha⟩
  mono := by
    rintro w F G cs x ⟨v, rfl, h⟩ hk
    refine ⟨v, rfl, ?_⟩
    cases x with
    | none => exact h
    | some g => exact ⟨h.1, h.2.mono hk⟩
theorem vNone {w : World} {F : Nat → Prop} : Vb w F (.pointer none) (none : Option Gnr) := ⟨_, rfl, rfl⟩
theorem Vb.gnr {w : World} {F : Nat → Prop} {v : Value} {x : Option Gnr} (h : Vb w F v x) : GnrR w F v x := by
  obtain ⟨u, hu, h'⟩ := h
  have : v = u := by simpa using hu
  subst this; exact h'
theorem Vb.ptr {w : World} {F : Nat → Prop} {v : Value} {x : Option Gnr} (h : Vb w F v x) : ∃ p, v = .pointer p ∧ p.isNone = x.isNone := by
  cases x with
  | none => exact ⟨none, h.gnr, rfl⟩
  | some g => obtain ⟨gb, rfl⟩ := h.gnr.2.form; exact ⟨_, rfl, rfl⟩
theorem Gnr_open {w : World} {F : Nat → Prop} {p : Option Addr} {x : Option Gnr} {g : Gnr} (h : Vb w F (.pointer p) x) (e : x = some g) :
    ∃ gb a b c d r, p = some ⟨gb, 0, none⟩ ∧ F gb ∧ cellsAt w gb 0 [a, b, c, d, r] ∧ Vb w F a g.t.vars ∧ Vb w F b g.t.init ∧ Vb w F c g.t.goal ∧ Vb w F d g.t.ops := by
  subst e
  obtain ⟨_, gb, a, b, c, d, r, h1, h2, h3, h4, h5, h6, h7, _⟩ := h.gnr
  injection h1 with h1
  exact ⟨gb, a, b, c, d, r, h1, h2, h3.cellsAt, h4, h5, h6, h7⟩
theorem vGnr {w : World} {F : Nat → Prop} {v : Value} {g : Gnr} (h : TaskOk g.t) (hg : GenR w F v g.t (treeOf g.t)) : Vb w F v (some g) := ⟨v, rfl, h, hg⟩
theorem upA_all {A : Nat → Prop} {w w' : World} : ∀ k, nw w w' k → upA A w w' k := fun _ h => .inr h
/-- A row of numbers has no need of other memory. -/
theorem Own.intRow {w w' : World} {F A : Nat → Prop} {e : TypeId} {v : Value} {xs : List Int} (h : Own w' w.heap.size F e v xs) : RowR w w' (upA A w w') e v xs := by
  obtain ⟨cells, q1, q2, q3⟩ := h
  exact ⟨fun _ => False, fun _ h => h.elim, cells, q1, chunks_int' q2, fun _ _ h => h⟩
noncomputable def m_task_Check (t : Tsk) : Option Err := some ⟨checkN t⟩
theorem checkN_rng (t : Tsk) : inI64 (checkN t) := by unfold checkN; (repeat' split) <;> decide
theorem c_task_Check {w : World} {A : Nat → Prop} (hA : ∀ k, A k → k < w.heap.size) {v0 : Value} {x0 : Tsk} (h0 : Vb w A v0 x0) {r : Err} (hm : m_task_Check x0 = some r) : Fn Try.prog 25 [v0] w fun v w' => Ext w w' ∧ Vb w' (upA A w w') v r := by
  obtain rfl := sm hm
  refine (taskCheck (h0.mono hA)).mono fun v w' h => ⟨h.2, ?_⟩
  rw [h.1]
  exact vErr (checkN_rng _)
noncomputable def m_succgen_New (t : Tsk) : Option (Option Gnr × Err) := some (if bof (TaskOk t) = true then some ⟨t⟩ else none, ⟨checkN t⟩)
theorem c_succgen_New {w : World} {A : Nat → Prop} (hA : ∀ k, A k → k < w.heap.size) {v0 : Value} {x0 : Tsk} (h0 : Vb w A v0 x0) {r : Option Gnr × Err} (hm : m_succgen_New x0 = some r) : Fn Try.prog 14 [v0] w fun v w' => Ext w w' ∧ T2 w' (upA A w w') v r := by
  obtain rfl := sm hm
  refine (genNew (h0.mono hA)).mono fun v w' h => ⟨h.1, ?_⟩
  rcases h.2 with ⟨hok, gv, rfl, hg⟩ | ⟨hno, rfl⟩
  · rw [bof_t hok, check_ok.2 hok]
    exact ⟨gv, _, rfl, vGnr (g := ⟨x0⟩) hok (hg.mono upA_all), vErr0⟩
  · rw [bof_f hno]
    exact ⟨_, _, rfl, vNone, vErr (checkN_rng _)⟩
/-- What a generator finds. -/
noncomputable def appG : Option Gnr → List Int → List Int
  | none, _ => []
  | some g, s => appS g.t s
noncomputable def m_succgen_Generator_Applicable (x : Option Gnr) (s : List Int) : Option (List Int) := if s.length ≤ 1000000 then some (appG x s) else none
theorem ite_some {α : Type} {p : Prop} [Decidable p] {x y : α} (h : (if p then some x else none) = some y) : p ∧ x = y := by
  by_cases hp : p
  · rw [if_pos hp] at h; exact ⟨hp, sm h⟩
  · rw [if_neg hp] at h; cases h
theorem c_succgen_Generator_Applicable {w : World} {A : Nat → Prop} (hA : ∀ k, A k → k < w.heap.size) {v0 : Value} {x0 : Option Gnr} (h0 : Vb w A v0 x0) {v1 : Value} {x1 : List Int} (h1 : Vb w A v1 x1) {r : List Int} (hm : m_succgen_Generator_Applicable x0 x1 = some r) :
    Fn Try.prog 16 [v0, v1] w fun v w' => Ext w w' ∧ RowR w w' (upA A w w') 3 v r := by
  obtain ⟨hl, rfl⟩ := ite_some hm
  cases x0 with
  | none =>
    have h2 := h0.gnr
    have : v0 = .pointer none := h2
    subst this
    refine nilApplicable.mono fun v w' h => ⟨h.2, ?_⟩
    rw [h.1]; exact RowR.nil
  | some g =>
    obtain ⟨hok, hg⟩ := h0.gnr
    exact (applT hok (hg.mono hA) (h1.mono hA) hl).mono fun v w' h => ⟨h.1, h.2.intRow⟩
noncomputable def m_succgen_Generator_Count (x : Option Gnr) (s : List Int) : Option Int := if s.length ≤ 1000000 then some ((appG x s).length : Int) else none
theorem c_succgen_Generator_Count {w : World} {A : Nat → Prop} (hA : ∀ k, A k → k < w.heap.size) {v0 : Value} {x0 : Option Gnr} (h0 : Vb w A v0 x0) {v1 : Value} {x1 : List Int} (h1 : Vb w A v1 x1) {r : Int} (hm : m_succgen_Generator_Count x0 x1 = some r) :
    Fn Try.prog 19 [v0, v1] w fun v w' => Ext w w' ∧ Vb w' (upA A w w') v r := by
  obtain ⟨hl, rfl⟩ := ite_some hm
  cases x0 with
  | none =>
    have h2 := h0.gnr
    have : v0 = .pointer none := h2
    subst this
    refine nilCount.mono fun v w' h => ⟨h.2, ?_⟩
    rw [h.1]; exact vInt (by decide)
  | some g =>
    obtain ⟨hok, hg⟩ := h0.gnr
    refine (countT hok (hg.mono hA) (h1.mono hA) hl).mono fun v w' h => ⟨h.2, ?_⟩
    rw [h.1]
    have h2 := appS_len g.t x1
    have h3 := hok.2.1
    exact vInt (rngNat (by omega))
noncomputable def testG : Option Gnr → List Int → Nat
  | none, _ => 0
  | some g, s => findN g.t (treeOf g.t) s
noncomputable def m_succgen_Generator_Tests (x : Option Gnr) (s : List Int) : Option Int := if s.length ≤ 1000000 ∧ testG x s ≤ 1000000 then some (testG x s : Int) else none
theorem c_succgen_Generator_Tests {w : World} {A : Nat → Prop} (hA : ∀ k, A k → k < w.heap.size) {v0 : Value} {x0 : Option Gnr} (h0 : Vb w A v0 x0) {v1 : Value} {x1 : List Int} (h1 : Vb w A v1 x1) {r : Int} (hm : m_succgen_Generator_Tests x0 x1 = some r) :
    Fn Try.prog 21 [v0, v1] w fun v w' => Ext w w' ∧ Vb w' (upA A w w') v r := by
  obtain ⟨⟨hl, hl2⟩, rfl⟩ := ite_some hm
  cases x0 with
  | none =>
    have h2 := h0.gnr
    have : v0 = .pointer none := h2
    subst this
    refine nilTests.mono fun v w' h => ⟨h.2, ?_⟩
    rw [h.1]; exact vInt (by decide)
  | some g =>
    obtain ⟨hok, hg⟩ := h0.gnr
    refine (testsT hok (hg.mono hA) (h1.mono hA) hl).mono fun v w' h => ⟨h.2, ?_⟩
    rw [h.1]
    exact vInt (rngNat (show testG (some g) x1 ≤ _ by omega))
def m_base_Num (x : Err) : Option Int := some x.n
theorem c_base_Num {w : World} {A : Nat → Prop} (hA : ∀ k, A k → k < w.heap.size) {x0 : Err} (r0 : inI64 x0.n) {r : Int} (hm : m_base_Num x0 = some r) : Fn Try.prog 24 [errV x0.n] w fun v w' => Ext w w' ∧ Vb w' (upA A w w') v r := by
  obtain rfl := sm hm
  refine fn_enter Try.func24 rfl Try.ntmps24 rfl ?_
  by_cases h : x0.n = 0
  · rw [h, errV_zero]
    ((repeat (first | refine ewp_seq ?_ | refine ewp_block ?_ | refine ewp_region ?_ | refine ewp_skip ?_ | refine ewp_exit ?_ | refine ewp_ret ?_ | refine ewp_true rfl ?_ | refine ewp_false rfl ?_)) <;> (refine o_as rfl rfl ?_ <;> (first | refine owp_nilT ?_ | refine owp_nilB ?_ | refine owp_nilBB ?_ | refine owp_nil ?_)) <;> (repeat (first | refine ewp_seq ?_ | refine ewp_block ?_ | refine ewp_region ?_ | refine ewp_skip ?_ | refine ewp_exit ?_ | refine ewp_ret ?_ | refine ewp_true rfl ?_ | refine ewp_false rfl ?_)) <;> (refine o_mv rfl rfl ?_ <;> (first | refine o_en rfl rfl ?_ | refine o_eo rfl rfl ?_) <;> (first | refine owp_nilT ?_ | refine owp_nilB ?_ | refine owp_nilBB ?_ | refine owp_nil ?_)) <;> (repeat (first | refine ewp_seq ?_ | refine ewp_block ?_ | refine ewp_region ?_ | refine ewp_skip ?_ | refine ewp_exit ?_ | refine ewp_ret ?_ | refine ewp_true rfl ?_ | refine ewp_false rfl ?_)) <;> (refine o_as rfl rfl ?_ <;> (first | refine owp_nilT ?_ | refine owp_nilB ?_ | refine owp_nilBB ?_ | refine owp_nil ?_)) <;> (repeat (first | refine ewp_seq ?_ | refine ewp_block ?_ | refine ewp_region ?_ | refine ewp_skip ?_ | refine ewp_exit ?_ | refine ewp_ret ?_ | refine ewp_true rfl ?_ | refine ewp_false rfl ?_)))
    exact ret1 rfl rfl ⟨Below.refl _ _, vInt (by decide)⟩
  · rw [errV_pos h]
    have h2 : -9223372036854775808 ≤ x0.n ∧ x0.n ≤ 9223372036854775807 := r0
    ((repeat (first | refine ewp_seq ?_ | refine ewp_block ?_ | refine ewp_region ?_ | refine ewp_skip ?_ | refine ewp_exit ?_ | refine ewp_ret ?_ | refine ewp_true rfl ?_ | refine ewp_false rfl ?_)) <;> (refine o_as rfl rfl ?_ <;> (first | refine owp_nilT ?_ | refine owp_nilB ?_ | refine owp_nilBB ?_ | refine owp_nil ?_)) <;> (repeat (first | refine ewp_seq ?_ | refine ewp_block ?_ | refine ewp_region ?_ | refine ewp_skip ?_ | refine ewp_exit ?_ | refine ewp_ret ?_ | refine ewp_true rfl ?_ | refine ewp_false rfl ?_)) <;> (refine o_mv rfl rfl ?_ <;> (first | refine o_en rfl rfl ?_ | refine o_eo rfl rfl ?_) <;> (first | refine owp_nilT ?_ | refine owp_nilB ?_ | refine owp_nilBB ?_ | refine owp_nil ?_)) <;> (repeat (first | refine ewp_seq ?_ | refine ewp_block ?_ | refine ewp_region ?_ | refine ewp_skip ?_ | refine ewp_exit ?_ | refine ewp_ret ?_ | refine ewp_true rfl ?_ | refine ewp_false rfl ?_)) <;> (refine o_mv rfl rfl ?_ <;> refine o_ta rfl rfl ?_ <;> refine o_mv rfl rfl ?_ <;> refine o_ex rfl rfl rfl ?_ <;> refine o_ex rfl rfl rfl ?_ <;> refine o_as rfl rfl ?_ <;> refine o_as rfl rfl ?_ <;> (first | refine owp_nilT ?_ | refine owp_nilB ?_ | refine owp_nilBB ?_ | refine owp_nil ?_)) <;> (repeat (first | refine ewp_seq ?_ | refine ewp_block ?_ | refine ewp_region ?_ | refine ewp_skip ?_ | refine ewp_exit ?_ | refine ewp_ret ?_ | refine ewp_true rfl ?_ | refine ewp_false rfl ?_)) <;> (refine o_mv rfl rfl ?_ <;> (first | refine owp_nilT ?_ | refine owp_nilB ?_ | refine owp_nilBB ?_ | refine owp_nil ?_)) <;> (repeat (first | refine ewp_seq ?_ | refine ewp_block ?_ | refine ewp_region ?_ | refine ewp_skip ?_ | refine ewp_exit ?_ | refine ewp_ret ?_ | refine ewp_true rfl ?_ | refine ewp_false rfl ?_)) <;> (refine o_mv rfl rfl ?_ <;> refine o_as rfl rfl ?_ <;> (first | refine owp_nilT ?_ | refine owp_nilB ?_ | refine owp_nilBB ?_ | refine owp_nil ?_)) <;> (repeat (first | refine ewp_seq ?_ | refine ewp_block ?_ | refine ewp_region ?_ | refine ewp_skip ?_ | refine ewp_exit ?_ | refine ewp_ret ?_ | refine ewp_true rfl ?_ | refine ewp_false rfl ?_)))
    exact ret1 rfl rfl ⟨Below.refl _ _, vInt r0⟩
def m_slices_Clone_Lint_int (xs : List Int) : Option (List Int) := if xs.length * 8 ≤ 140737488355328 ∧ xs.length ≤ 9223372036854775807 then some xs else none
theorem c_slices_Clone_Lint_int {w : World} {A : Nat → Prop} (hA : ∀ k, A k → k < w.heap.size) {v0 : Value} {x0 : List Int} (h0 : Vb w A v0 x0) {r : List Int} (hm : m_slices_Clone_Lint_int x0 = some r) :
    Fn Try.prog 34 [v0] w fun v w' => Ext w w' ∧ RowR w w' (upA A w w') 3 v r := by
  obtain ⟨⟨hl, hl2⟩, rfl⟩ := ite_some hm
  obtain ⟨O, hB, hA0⟩ := enter hA
  replace h0 := h0.mono hA0
  obtain ⟨Ad, c, rfl⟩ := h0.form
  refine fn_enter Try.func34 rfl Try.ntmps34 rfl ?_
  cases Ad with
  | none =>
    have hx : x0 = [] := by
      cases x0 with
      | nil => rfl
      | cons x xs => obtain ⟨_, _, _, h, _⟩ := h0.elem (k := 0) (x := x) rfl; cases h
    subst hx
    ((repeat (first | refine ewp_seq ?_ | refine ewp_block ?_ | refine ewp_region ?_ | refine ewp_skip ?_ | refine ewp_exit ?_ | refine ewp_ret ?_ | refine ewp_true rfl ?_ | refine ewp_false rfl ?_)) <;> (refine o_as rfl rfl ?_ <;> (first | refine owp_nilT ?_ | refine owp_nilB ?_ | refine owp_nilBB ?_ | refine owp_nil ?_)) <;> (repeat (first | refine ewp_seq ?_ | refine ewp_block ?_ | refine ewp_region ?_ | refine ewp_skip ?_ | refine ewp_exit ?_ | refine ewp_ret ?_ | refine ewp_true rfl ?_ | refine ewp_false rfl ?_)) <;> (refine o_mv rfl rfl ?_ <;> refine o_sn rfl rfl ?_ <;> (first | refine owp_nilT ?_ | refine owp_nilB ?_ | refine owp_nilBB ?_ | refine owp_nil ?_)) <;> (repeat (first | refine ewp_seq ?_ | refine ewp_block ?_ | refine ewp_region ?_ | refine ewp_skip ?_ | refine ewp_exit ?_ | refine ewp_ret ?_ | refine ewp_true rfl ?_ | refine ewp_false rfl ?_)) <;> (refine o_as rfl rfl ?_ <;> (first | refine owp_nilT ?_ | refine owp_nilB ?_ | refine owp_nilBB ?_ | refine owp_nil ?_)) <;> (repeat (first | refine ewp_seq ?_ | refine ewp_block ?_ | refine ewp_region ?_ | refine ewp_skip ?_ | refine ewp_exit ?_ | refine ewp_ret ?_ | refine ewp_true rfl ?_ | refine ewp_false rfl ?_)))
    exact ret1 rfl rfl ⟨Below.refl _ _, RowR.nil⟩
  | some ad =>
    ((repeat (first | refine ewp_seq ?_ | refine ewp_block ?_ | refine ewp_region ?_ | refine ewp_skip ?_ | refine ewp_exit ?_ | refine ewp_ret ?_ | refine ewp_true rfl ?_ | refine ewp_false rfl ?_)) <;> (refine o_as rfl rfl ?_ <;> (first | refine owp_nilT ?_ | refine owp_nilB ?_ | refine owp_nilBB ?_ | refine owp_nil ?_)) <;> (repeat (first | refine ewp_seq ?_ | refine ewp_block ?_ | refine ewp_region ?_ | refine ewp_skip ?_ | refine ewp_exit ?_ | refine ewp_ret ?_ | refine ewp_true rfl ?_ | refine ewp_false rfl ?_)) <;> (refine o_mv rfl rfl ?_ <;> refine o_sn rfl rfl ?_ <;> (first | refine owp_nilT ?_ | refine owp_nilB ?_ | refine owp_nilBB ?_ | refine owp_nil ?_)) <;> (repeat (first | refine ewp_seq ?_ | refine ewp_block ?_ | refine ewp_region ?_ | refine ewp_skip ?_ | refine ewp_exit ?_ | refine ewp_ret ?_ | refine ewp_true rfl ?_ | refine ewp_false rfl ?_)))
    refine l_bslice 2 (by decide) O (xs := ([] : List Int)) rfl rfl rfl rfl trivial (by decide) (by decide) rfl fun g w1 O1 S1 h1 => ?_
    replace hB := hB.st S1 (fun h => h) (fun h => h)
    replace h0 := h0.st S1 (fun h => h)
    (refine o_mv rfl rfl ?_)
    refine l_append rfl h1 h0.rd rfl rfl (by decide) (by simpa using hl) (by simpa using hl2) rfl fun A2 c2 w2 O2 S2 h2 => ?_
    replace hB := hB.st S2 (by decide) (by decide)
    rw [List.nil_append] at h2 ⊢
    (refine o_as rfl rfl ?_ <;> (first | refine owp_nilT ?_ | refine owp_nilB ?_ | refine owp_nilBB ?_ | refine owp_nil ?_))
    repeat (first | refine ewp_seq ?_ | refine ewp_block ?_ | refine ewp_region ?_ | refine ewp_skip ?_ | refine ewp_exit ?_ | refine ewp_ret ?_ | refine ewp_true rfl ?_ | refine ewp_false rfl ?_)
    exact ret1 rfl rfl ⟨hB.ext, h2.out hB (by decide)⟩
def m_slices_Clone_Lapi_Fact_api_Fact (xs : List Fct) : Option (List Fct) := if xs.length * 16 ≤ 140737488355328 ∧ xs.length ≤ 9223372036854775807 then some xs else none
theorem c_slices_Clone_Lapi_Fact_api_Fact {w : World} {A : Nat → Prop} (hA : ∀ k, A k → k < w.heap.size) {v0 : Value} {x0 : List Fct} (h0 : Vb w A v0 x0) {r : List Fct} (hm : m_slices_Clone_Lapi_Fact_api_Fact x0 = some r) :
    Fn Try.prog 43 [v0] w fun v w' => Ext w w' ∧ RowR w w' (upA A w w') 28 v r := by
  obtain ⟨⟨hl, hl2⟩, rfl⟩ := ite_some hm
  obtain ⟨O, hB, hA0⟩ := enter hA
  replace h0 := h0.mono hA0
  obtain ⟨Ad, c, rfl⟩ := h0.form
  refine fn_enter Try.func43 rfl Try.ntmps43 rfl ?_
  cases Ad with
  | none =>
    have hx : x0 = [] := by
      cases x0 with
      | nil => rfl
      | cons x xs => obtain ⟨_, _, _, h, _⟩ := h0.elem (k := 0) (x := x) rfl; cases h
    subst hx
    ((repeat (first | refine ewp_seq ?_ | refine ewp_block ?_ | refine ewp_region ?_ | refine ewp_skip ?_ | refine ewp_exit ?_ | refine ewp_ret ?_ | refine ewp_true rfl ?_ | refine ewp_false rfl ?_)) <;> (refine o_as rfl rfl ?_ <;> (first | refine owp_nilT ?_ | refine owp_nilB ?_ | refine owp_nilBB ?_ | refine owp_nil ?_)) <;> (repeat (first | refine ewp_seq ?_ | refine ewp_block ?_ | refine ewp_region ?_ | refine ewp_skip ?_ | refine ewp_exit ?_ | refine ewp_ret ?_ | refine ewp_true rfl ?_ | refine ewp_false rfl ?_)) <;> (refine o_mv rfl rfl ?_ <;> refine o_sn rfl rfl ?_ <;> (first | refine owp_nilT ?_ | refine owp_nilB ?_ | refine owp_nilBB ?_ | refine owp_nil ?_)) <;> (repeat (first | refine ewp_seq ?_ | refine ewp_block ?_ | refine ewp_region ?_ | refine ewp_skip ?_ | refine ewp_exit ?_ | refine ewp_ret ?_ | refine ewp_true rfl ?_ | refine ewp_false rfl ?_)) <;> (refine o_as rfl rfl ?_ <;> (first | refine owp_nilT ?_ | refine owp_nilB ?_ | refine owp_nilBB ?_ | refine owp_nil ?_)) <;> (repeat (first | refine ewp_seq ?_ | refine ewp_block ?_ | refine ewp_region ?_ | refine ewp_skip ?_ | refine ewp_exit ?_ | refine ewp_ret ?_ | refine ewp_true rfl ?_ | refine ewp_false rfl ?_)))
    exact ret1 rfl rfl ⟨Below.refl _ _, RowR.nil⟩
  | some ad =>
    ((repeat (first | refine ewp_seq ?_ | refine ewp_block ?_ | refine ewp_region ?_ | refine ewp_skip ?_ | refine ewp_exit ?_ | refine ewp_ret ?_ | refine ewp_true rfl ?_ | refine ewp_false rfl ?_)) <;> (refine o_as rfl rfl ?_ <;> (first | refine owp_nilT ?_ | refine owp_nilB ?_ | refine owp_nilBB ?_ | refine owp_nil ?_)) <;> (repeat (first | refine ewp_seq ?_ | refine ewp_block ?_ | refine ewp_region ?_ | refine ewp_skip ?_ | refine ewp_exit ?_ | refine ewp_ret ?_ | refine ewp_true rfl ?_ | refine ewp_false rfl ?_)) <;> (refine o_mv rfl rfl ?_ <;> refine o_sn rfl rfl ?_ <;> (first | refine owp_nilT ?_ | refine owp_nilB ?_ | refine owp_nilBB ?_ | refine owp_nil ?_)) <;> (repeat (first | refine ewp_seq ?_ | refine ewp_block ?_ | refine ewp_region ?_ | refine ewp_skip ?_ | refine ewp_exit ?_ | refine ewp_ret ?_ | refine ewp_true rfl ?_ | refine ewp_false rfl ?_)))
    refine l_bslice 2 (by decide) O (xs := ([] : List Fct)) rfl rfl rfl rfl trivial (by decide) (by decide) rfl fun g w1 O1 S1 h1 => ?_
    replace hB := hB.st S1 (fun h => h) (fun h => h)
    replace h0 := h0.st S1 (fun h => h)
    (refine o_mv rfl rfl ?_)
    refine l_append rfl h1 h0.rd rfl rfl (by decide) (by simpa using hl) (by simpa using hl2) rfl fun A2 c2 w2 O2 S2 h2 => ?_
    replace hB := hB.st S2 (by decide) (by decide)
    rw [List.nil_append] at h2 ⊢
    (refine o_as rfl rfl ?_ <;> (first | refine owp_nilT ?_ | refine owp_nilB ?_ | refine owp_nilBB ?_ | refine owp_nil ?_))
    repeat (first | refine ewp_seq ?_ | refine ewp_block ?_ | refine ewp_region ?_ | refine ewp_skip ?_ | refine ewp_exit ?_ | refine ewp_ret ?_ | refine ewp_true rfl ?_ | refine ewp_false rfl ?_)
    exact ret1 rfl rfl ⟨hB.ext, h2.out hB (by decide)⟩
end Go.Proofs.Ytfbcjknlihopcaa

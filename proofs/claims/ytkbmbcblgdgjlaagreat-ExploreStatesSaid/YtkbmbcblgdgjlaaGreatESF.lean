/- ExploreStates returns true for every task and every limit, and these read behind the call as before. No conditions. -/
import Derived.Test.YtkbmbcblgdgjlaaGreatESE
import Derived.Test.YtkbmbcblgdgjlaaGreatRows
set_option linter.unusedVariables false
set_option linter.unusedSimpArgs false
namespace Go.Proofs.YtkbmbcblgdgjlaaGreat
open Go Go.RowKit
section
open Go Go.RowKit
set_option maxRecDepth 20000
attribute [local irreducible] bnd fin rng rngN chkI mkI appI atI quoI m_slices_Clone_Lapi_Fact_api_Fact m_slices_Clone_Lint_int m_slices_Clone_Luint64_uint64
def e_slices_Clone_Luint64_uint64 (x : List U64) : Option (List U64) := m_slices_Clone_Luint64_uint64 x
theorem le_slices_Clone_Luint64_uint64 (x : List U64) : Le (e_slices_Clone_Luint64_uint64 x) (m_slices_Clone_Luint64_uint64 x) := Le.rf
def e_slices_Clone_Lapi_Fact_api_Fact (x : List Fct) : Option (List Fct) := m_slices_Clone_Lapi_Fact_api_Fact x
theorem le_slices_Clone_Lapi_Fact_api_Fact (x : List Fct) : Le (e_slices_Clone_Lapi_Fact_api_Fact x) (m_slices_Clone_Lapi_Fact_api_Fact x) := Le.rf
def e_explore_relaxed (x : List (List Arc)) (y z : List Int) : Option (List Int × List Int) := m_explore_relaxed x y z
theorem le_explore_relaxed (x : List (List Arc)) (y z : List Int) : Le (e_explore_relaxed x y z) (m_explore_relaxed x y z) := Le.rf
def e_errors_Is (x y : Err) : Option Bool := m_errors_Is x y
theorem le_errors_Is (x y : Err) : Le (e_errors_Is x y) (m_errors_Is x y) := Le.rf
def e_succgen_New (t : Tsk) : Option (Option Gnr × Err) := if taskB t = true then some (some ⟨t⟩, ⟨0⟩) else none
theorem le_succgen_New (t : Tsk) : Le (e_succgen_New t) (m_succgen_New t) := fun r h => by
  obtain ⟨h1, rfl⟩ := ite_some h
  exact new_ok (taskB_ok h1)
def e_succgen_Generator_Applicable (x : Option Gnr) (s : List Int) : Option (List Int) := match x with
  | some g => if stateB g.t.vars s = true then (if s.length ≤ 1000000 then some (appl g.t s) else none) else none
  | none => none
theorem le_succgen_Generator_Applicable (x : Option Gnr) (s : List Int) : Le (e_succgen_Generator_Applicable x s) (m_succgen_Generator_Applicable x s) := fun r h => by
  cases x with
  | none => cases h
  | some g =>
    unfold e_succgen_Generator_Applicable at h
    dsimp only at h
    split at h
    · rename_i h1
      obtain ⟨h3, rfl⟩ := ite_some h
      unfold m_succgen_Generator_Applicable
      rw [if_pos h3]
      show some (appS g.t s) = _
      rw [appS_ok (stateB_ok h1)]
    · cases h
noncomputable def e_pack_New (x0 : List Int) : Option ((Option Pkr) × Err) :=
  if 64 < (x0.length : Int) then (some (none, (⟨5⟩ : Err))) else (bnd (rng (ρ := (Option Pkr) × Err) (fun (k25 : Nat) (a26 : Int) (s23 : Int × Pkr) => bnd (if a26 < 1 then (some true) else (if 64 < a26 then (some true) else (some false)) : Option Bool) fun y48 => if y48 = true then (some (.ret (none, (⟨1⟩ : Err)))) else (bnd (lopE (ρ := Ctl (Int × Pkr) ((Option Pkr) × Err)) (fun (s61 : Int) => bnd (shlI 1 s61) fun n76 => if n76 < a26 then (bnd (chkI (s61 + 1)) fun n80 => some (.next n80)) else (some (.brk s61))) 0) fun res59 => fin res59 fun (s87 : Int) => bnd (bnd (chkI (s23.1 + s87)) fun n95 => if 64 < n95 then (bnd (chkI (s23.2.words + 1)) fun n109 => some (0, (⟨s23.2.fields, n109⟩ : Pkr))) else (some (s23.1, s23.2)) : Option (Int × Pkr)) fun y89 => bnd (chkI (y89.2.words - 1)) fun n133 => bnd (appI 32 y89.2.fields [(⟨n133, y89.1, s87, a26⟩ : PFd)]) fun u142 => bnd (chkI (y89.1 + s87)) fun n155 => some (.next (n155, (⟨u142, y89.2.words⟩ : Pkr))))) x0 0 (0, (⟨([] : List PFd), 1⟩ : Pkr))) fun res21 => fin res21 fun (s167 : Int × Pkr) => some ((some s167.2), (⟨0⟩ : Err)))
theorem le_pack_New (x0 : List Int) : Le (e_pack_New x0) (m_pack_New x0) := by
  unfold e_pack_New m_pack_New
  repeat' (first | apply Le.ite | apply Le.bnd | apply Le.fin | apply Le.rng | apply Le.rngN | apply Le.lop | exact Le.rf | intro _)
noncomputable def e_pack_field_mask (x0 : PFd) : Option U64 :=
  bnd (shlU (1 : U64) x0.width) fun n12 => bnd (shlU (n12 - (1 : U64)) x0.bit) fun n14 => some n14
theorem le_pack_field_mask (x0 : PFd) : Le (e_pack_field_mask x0) (m_pack_field_mask x0) := by
  unfold e_pack_field_mask m_pack_field_mask
  repeat' (first | apply Le.ite | apply Le.bnd | apply Le.fin | apply Le.rng | apply Le.rngN | apply Le.lop | exact Le.rf | intro _)
noncomputable def e_pack_field_get (x0 : PFd) (x1 : List U64) : Option Int :=
  bnd (atI x1 x0.word) fun a15 => bnd (e_pack_field_mask x0) fun q26 => bnd (shrU (a15 &&& q26) x0.bit) fun n33 => some n33.toInt
theorem le_pack_field_get (x0 : PFd) (x1 : List U64) : Le (e_pack_field_get x0 x1) (m_pack_field_get x0 x1) := by
  unfold e_pack_field_get m_pack_field_get
  repeat' (first | apply le_pack_field_mask | apply Le.ite | apply Le.bnd | apply Le.fin | apply Le.rng | apply Le.rngN | apply Le.lop | exact Le.rf | intro _)
noncomputable def e_pack_Packer_Pack (x0 : Pkr) (x1 : List Int) : Option ((List U64) × Err) :=
  if (x1.length : Int) ≠ (x0.fields.length : Int) then (some (([] : List U64), (⟨2⟩ : Err))) else (bnd (mkI 8 ((0 : U64) : U64) x0.words) fun u25 => bnd (rng (ρ := (List U64) × Err) (fun (k50 : Nat) (a51 : PFd) (s48 : (List U64)) => bnd (bnd (x1[k50]?) fun a87 => if a87 < 0 then (some true) else (bnd (x1[k50]?) fun a98 => if a51.size ≤ a98 then (some true) else (some false)) : Option Bool) fun y83 => if y83 = true then (some (.ret (([] : List U64), (⟨2⟩ : Err)))) else (bnd (atI s48 a51.word) fun a114 => bnd (x1[k50]?) fun a125 => bnd (shlU (BitVec.ofInt 64 a125) a51.bit) fun n135 => bnd (atI s48 a51.word) fun a137 => some (.next (s48.set (a51.word : Int).toNat (a114 ||| n135))))) x0.fields 0 u25) fun res46 => fin res46 fun (s154 : (List U64)) => some (s154, (⟨0⟩ : Err)))
theorem le_pack_Packer_Pack (x0 : Pkr) (x1 : List Int) : Le (e_pack_Packer_Pack x0 x1) (m_pack_Packer_Pack x0 x1) := by
  unfold e_pack_Packer_Pack m_pack_Packer_Pack
  repeat' (first | apply Le.ite | apply Le.bnd | apply Le.fin | apply Le.rng | apply Le.rngN | apply Le.lop | exact Le.rf | intro _)
noncomputable def e_pack_Packer_Unpack (x0 : Pkr) (x1 : List U64) : Option ((List Int) × Err) :=
  if (x1.length : Int) ≠ x0.words then (some (([] : List Int), (⟨2⟩ : Err))) else (bnd (mkI 8 (0 : Int) (x0.fields.length : Int)) fun u25 => bnd (e_slices_Clone_Luint64_uint64 x1) fun q38 => bnd (rng (ρ := (List Int) × Err) (fun (k60 : Nat) (a61 : PFd) (s58 : (List Int) × (List U64)) => bnd (e_pack_field_get a61 x1) fun q97 => bnd (s58.1[k60]?) fun a105 => bnd ((s58.1.set k60 q97)[k60]?) fun a117 => if a61.size ≤ a117 then (some (.ret (([] : List Int), (⟨2⟩ : Err)))) else (bnd (atI s58.2 a61.word) fun a128 => bnd (e_pack_field_mask a61) fun q139 => bnd (atI s58.2 a61.word) fun a146 => some (.next ((s58.1.set k60 q97), (s58.2.set (a61.word : Int).toNat (a128 &&& ~~~q139)))))) x0.fields 0 (u25, q38)) fun res56 => fin res56 fun (s163 : (List Int) × (List U64)) => bnd (rng (ρ := (List Int) × Err) (fun (k171 : Nat) (a172 : U64) (s169 : Unit) => bnd (s163.2[k171]?) fun a182 => if (a182.toNat : Int) ≠ ((0 : U64).toNat : Int) then (some (.ret (([] : List Int), (⟨2⟩ : Err)))) else (some (.next ()))) q38 0 ()) fun res167 => fin res167 fun (s196 : Unit) => some (s163.1, (⟨0⟩ : Err)))
theorem le_pack_Packer_Unpack (x0 : Pkr) (x1 : List U64) : Le (e_pack_Packer_Unpack x0 x1) (m_pack_Packer_Unpack x0 x1) := by
  unfold e_pack_Packer_Unpack m_pack_Packer_Unpack
  repeat' (first | apply le_pack_field_get | apply le_pack_field_mask | apply le_slices_Clone_Luint64_uint64 | apply Le.ite | apply Le.bnd | apply Le.fin | apply Le.rng | apply Le.rngN | apply Le.lop | exact Le.rf | intro _)
noncomputable def e_pack_Packer_Hash (x0 : Pkr) (x1 : List U64) : Option Int :=
  bnd (rng (ρ := Int) (fun (k13 : Nat) (a14 : U64) (s11 : U64) => bnd (shrU ((s11 ^^^ a14) * (13787848793156543929 : U64)) 29) fun n31 => some (.next (((s11 ^^^ a14) * (13787848793156543929 : U64)) ^^^ n31))) x1 0 ((BitVec.ofInt 64 (x1.length : Int)) + (11400714819323198485 : U64))) fun res9 => fin res9 fun (s37 : U64) => bnd (shrU s37 2) fun n39 => some n39.toInt
theorem le_pack_Packer_Hash (x0 : Pkr) (x1 : List U64) : Le (e_pack_Packer_Hash x0 x1) (m_pack_Packer_Hash x0 x1) := by
  unfold e_pack_Packer_Hash m_pack_Packer_Hash
  repeat' (first | apply Le.ite | apply Le.bnd | apply Le.fin | apply Le.rng | apply Le.rngN | apply Le.lop | exact Le.rf | intro _)
noncomputable def e_slices_Equal_Luint64_uint64 (x0 : List U64) (x1 : List U64) : Option Bool :=
  if (x0.length : Int) ≠ (x1.length : Int) then (some false) else (bnd (rng (ρ := Bool) (fun (k18 : Nat) (a19 : U64) (s16 : Unit) => bnd (x1[k18]?) fun a36 => if (a19.toNat : Int) ≠ (a36.toNat : Int) then (some (.ret false)) else (some (.next ()))) x0 0 ()) fun res14 => fin res14 fun (s50 : Unit) => some true)
theorem le_slices_Equal_Luint64_uint64 (x0 : List U64) (x1 : List U64) : Le (e_slices_Equal_Luint64_uint64 x0 x1) (m_slices_Equal_Luint64_uint64 x0 x1) := by
  unfold e_slices_Equal_Luint64_uint64 m_slices_Equal_Luint64_uint64
  repeat' (first | apply Le.ite | apply Le.bnd | apply Le.fin | apply Le.rng | apply Le.rngN | apply Le.lop | exact Le.rf | intro _)
noncomputable def e_registry_New (x0 : List Int) : Option ((Option Reg) × Err) :=
  bnd (e_pack_New x0) fun q4 => if q4.2.n ≠ 0 then (some (none, (⟨q4.2.n⟩ : Err))) else (bnd q4.1 fun o22 => some ((some (⟨o22, ([] : List REn), (⟨[]⟩ : MapR 3 Int Int)⟩ : Reg)), (⟨0⟩ : Err)))
theorem le_registry_New (x0 : List Int) : Le (e_registry_New x0) (m_registry_New x0) := by
  unfold e_registry_New m_registry_New
  repeat' (first | apply le_pack_New | apply Le.ite | apply Le.bnd | apply Le.fin | apply Le.rng | apply Le.rngN | apply Le.lop | exact Le.rf | intro _)
noncomputable def e_registry_Registry_find (x0 : Reg) (x1 : List Int) : Option ((List U64) × Int × Int × Err) :=
  bnd (e_pack_Packer_Pack x0.packer x1) fun q20 => if q20.2.n ≠ 0 then (some (([] : List U64), 0, (-1), (⟨2⟩ : Err))) else (bnd (e_pack_Packer_Hash x0.packer q20.1) fun q41 => bnd (rng (ρ := (List U64) × Int × Int × Err) (fun (k66 : Nat) (a67 : Int) (s64 : Unit) => bnd (atI x0.entries a67) fun a100 => bnd (e_slices_Equal_Luint64_uint64 a100.words q20.1) fun q118 => if q118 = true then some (.ret (q20.1, q41, a67, (⟨0⟩ : Err))) else some (.next ())) (mget ([] : List Int) x0.table.l q41) 0 ()) fun res62 => fin res62 fun (s139 : Unit) => some (q20.1, q41, (-1), (⟨0⟩ : Err)))
theorem le_registry_Registry_find (x0 : Reg) (x1 : List Int) : Le (e_registry_Registry_find x0 x1) (m_registry_Registry_find x0 x1) := by
  unfold e_registry_Registry_find m_registry_Registry_find
  repeat' (first | apply le_pack_Packer_Hash | apply le_pack_Packer_Pack | apply le_slices_Equal_Luint64_uint64 | apply Le.ite | apply Le.bnd | apply Le.fin | apply Le.rng | apply Le.rngN | apply Le.lop | exact Le.rf | intro _)
noncomputable def e_registry_Registry_Add (x0 : Reg) (x1 : List Int) : Option (Int × Bool × Err × Reg) :=
  bnd (e_registry_Registry_find x0 x1) fun q5 => if q5.2.2.2.n ≠ 0 then (some (0, false, (⟨q5.2.2.2.n⟩ : Err), x0)) else (if 0 ≤ q5.2.2.1 then (some (q5.2.2.1, false, (⟨0⟩ : Err), x0)) else (if 65536 ≤ (x0.entries.length : Int) then (some (0, false, (⟨10⟩ : Err), x0)) else (bnd (appI 48 x0.entries [(⟨q5.1, (⟨(-1), (-1), 0⟩ : RLk)⟩ : REn)]) fun u53 => bnd (appI 8 (mget ([] : List Int) x0.table.l q5.2.1) ([(x0.entries.length : Int)] : List Int)) fun u82 => some ((x0.entries.length : Int), true, (⟨0⟩ : Err), (⟨x0.packer, u53, (⟨mput x0.table.l q5.2.1 u82⟩ : MapR 3 Int Int)⟩ : Reg)))))
theorem le_registry_Registry_Add (x0 : Reg) (x1 : List Int) : Le (e_registry_Registry_Add x0 x1) (m_registry_Registry_Add x0 x1) := by
  unfold e_registry_Registry_Add m_registry_Registry_Add
  repeat' (first | apply le_registry_Registry_find | apply Le.ite | apply Le.bnd | apply Le.fin | apply Le.rng | apply Le.rngN | apply Le.lop | exact Le.rf | intro _)
noncomputable def e_registry_Registry_Len (x0 : Reg) : Option Int :=
  some (x0.entries.length : Int)
theorem le_registry_Registry_Len (x0 : Reg) : Le (e_registry_Registry_Len x0) (m_registry_Registry_Len x0) := by
  unfold e_registry_Registry_Len m_registry_Registry_Len
  repeat' (first | apply Le.ite | apply Le.bnd | apply Le.fin | apply Le.rng | apply Le.rngN | apply Le.lop | exact Le.rf | intro _)
noncomputable def e_registry_Registry_has (x0 : Reg) (x1 : Int) : Option Bool :=
  bnd (if 0 ≤ x1 then (if x1 < (x0.entries.length : Int) then (some true) else (some false)) else (some false) : Option Bool) fun y3 => some y3
theorem le_registry_Registry_has (x0 : Reg) (x1 : Int) : Le (e_registry_Registry_has x0 x1) (m_registry_Registry_has x0 x1) := by
  unfold e_registry_Registry_has m_registry_Registry_has
  repeat' (first | apply Le.ite | apply Le.bnd | apply Le.fin | apply Le.rng | apply Le.rngN | apply Le.lop | exact Le.rf | intro _)
noncomputable def e_registry_Registry_State (x0 : Reg) (x1 : Int) : Option ((List Int) × Err) :=
  bnd (e_registry_Registry_has x0 x1) fun q3 => if q3 = true then bnd (atI x0.entries x1) fun a27 => bnd (e_pack_Packer_Unpack x0.packer a27.words) fun q45 => some (q45.1, (⟨q45.2.n⟩ : Err)) else some (([] : List Int), (⟨1⟩ : Err))
theorem le_registry_Registry_State (x0 : Reg) (x1 : Int) : Le (e_registry_Registry_State x0 x1) (m_registry_Registry_State x0 x1) := by
  unfold e_registry_Registry_State m_registry_Registry_State
  repeat' (first | apply le_pack_Packer_Unpack | apply le_registry_Registry_has | apply Le.ite | apply Le.bnd | apply Le.fin | apply Le.rng | apply Le.rngN | apply Le.lop | exact Le.rf | intro _)
noncomputable def e_succgen_Generator_Successors (x0 : Option Gnr) (x1 : List Int) : Option (List Suc) :=
  bnd (e_succgen_Generator_Applicable x0 x1) fun q7 => bnd (rng (ρ := (List Suc)) (fun (k23 : Nat) (a24 : Int) (s21 : (List Suc)) => bnd (e_slices_Clone_Lint_int x1) fun q46 => bnd (x0) fun o56 => bnd (atI o56.t.ops a24) fun a88 => bnd (rng (ρ := Ctl (List Suc) (List Suc)) (fun (k115 : Nat) (a116 : Eff) (s113 : (List Int)) => bnd (e_task_Holds a116.cond x1) fun q150 => if q150 = true then bnd (atI s113 a116.var) fun a157 => some (.next (s113.set (a116.var : Int).toNat a116.val)) else some (.next s113)) a88.effs 0 q46) fun res111 => fin res111 fun (s175 : (List Int)) => bnd (appI 32 s21 [(⟨a24, s175⟩ : Suc)]) fun u179 => some (.next u179)) q7 0 ([] : List Suc)) fun res19 => fin res19 fun (s195 : (List Suc)) => some s195
theorem le_succgen_Generator_Successors (x0 : Option Gnr) (x1 : List Int) : Le (e_succgen_Generator_Successors x0 x1) (m_succgen_Generator_Successors x0 x1) := by
  unfold e_succgen_Generator_Successors m_succgen_Generator_Successors
  repeat' (first | apply le_slices_Clone_Lint_int | apply le_succgen_Generator_Applicable | apply le_task_Holds | apply Le.ite | apply Le.bnd | apply Le.fin | apply Le.rng | apply Le.rngN | apply Le.lop | exact Le.rf | intro _)
noncomputable def e_pqueue_New  : Option (Option Que) :=
  some (some (⟨([] : List QEn), 0⟩ : Que))
theorem le_pqueue_New  : Le (e_pqueue_New ) (m_pqueue_New ) := by
  unfold e_pqueue_New m_pqueue_New
  repeat' (first | apply Le.ite | apply Le.bnd | apply Le.fin | apply Le.rng | apply Le.rngN | apply Le.lop | exact Le.rf | intro _)
noncomputable def e_pqueue_before (x0 : QEn) (x1 : QEn) : Option Bool :=
  if x0.key ≠ x1.key then (bnd (if x0.key < x1.key then (some true) else (some false) : Option Bool) fun y24 => some y24) else (if x0.tie ≠ x1.tie then (bnd (if x0.tie < x1.tie then (some true) else (some false) : Option Bool) fun y34 => some y34) else (bnd (if x0.number < x1.number then (some true) else (some false) : Option Bool) fun y43 => some y43))
theorem le_pqueue_before (x0 : QEn) (x1 : QEn) : Le (e_pqueue_before x0 x1) (m_pqueue_before x0 x1) := by
  unfold e_pqueue_before m_pqueue_before
  repeat' (first | apply Le.ite | apply Le.bnd | apply Le.fin | apply Le.rng | apply Le.rngN | apply Le.lop | exact Le.rf | intro _)
noncomputable def e_pqueue_Queue_Len (x0 : Que) : Option Int :=
  some (x0.heap.length : Int)
theorem le_pqueue_Queue_Len (x0 : Que) : Le (e_pqueue_Queue_Len x0) (m_pqueue_Queue_Len x0) := by
  unfold e_pqueue_Queue_Len m_pqueue_Queue_Len
  repeat' (first | apply Le.ite | apply Le.bnd | apply Le.fin | apply Le.rng | apply Le.rngN | apply Le.lop | exact Le.rf | intro _)
noncomputable def e_pqueue_Queue_Peek (x0 : Que) : Option (Int × Int × Int × Err) :=
  if (x0.heap.length : Int) = 0 then (some (0, 0, 0, (⟨3⟩ : Err))) else (bnd (atI x0.heap 0) fun a20 => some (a20.key, a20.tie, a20.item, (⟨0⟩ : Err)))
theorem le_pqueue_Queue_Peek (x0 : Que) : Le (e_pqueue_Queue_Peek x0) (m_pqueue_Queue_Peek x0) := by
  unfold e_pqueue_Queue_Peek m_pqueue_Queue_Peek
  repeat' (first | apply Le.ite | apply Le.bnd | apply Le.fin | apply Le.rng | apply Le.rngN | apply Le.lop | exact Le.rf | intro _)
noncomputable def e_pqueue_Queue_up (x0 : Que) (x1 : Int) : Option Que :=
  bnd (lopE (ρ := Que) (fun (s5 : Int × Que) => if 0 < s5.1 then (bnd (chkI (s5.1 - 1)) fun n23 => bnd (quoI n23 2) fun n26 => bnd (atI s5.2.heap s5.1) fun a39 => bnd (atI s5.2.heap n26) fun a54 => bnd (e_pqueue_before a39 a54) fun q69 => if q69 = true then bnd (atI s5.2.heap n26) fun a81 => bnd (atI s5.2.heap s5.1) fun a96 => bnd (atI s5.2.heap s5.1) fun a111 => bnd (atI (s5.2.heap.set (s5.1 : Int).toNat a81) n26) fun a128 => some (.next (n26, (⟨((s5.2.heap.set (s5.1 : Int).toNat a81).set (n26 : Int).toNat a96), s5.2.next⟩ : Que))) else some (.ret s5.2)) else (some (.brk (s5.1, s5.2)))) (x1, x0)) fun res3 => fin res3 fun (s154 : Int × Que) => some s154.2
theorem le_pqueue_Queue_up (x0 : Que) (x1 : Int) : Le (e_pqueue_Queue_up x0 x1) (m_pqueue_Queue_up x0 x1) := by
  unfold e_pqueue_Queue_up m_pqueue_Queue_up
  repeat' (first | apply le_pqueue_before | apply Le.ite | apply Le.bnd | apply Le.fin | apply Le.rng | apply Le.rngN | apply Le.lop | exact Le.rf | intro _)
noncomputable def e_pqueue_Queue_down (x0 : Que) (x1 : Int) : Option Que :=
  bnd (lopE (ρ := Que) (fun (s5 : Int × Que) => bnd (chkI (2 * s5.1)) fun n22 => bnd (chkI (n22 + 1)) fun n25 => if (s5.2.heap.length : Int) ≤ n25 then (some (.ret s5.2)) else (bnd (bnd (bnd (chkI (n25 + 1)) fun n55 => if n55 < (s5.2.heap.length : Int) then (bnd (chkI (n25 + 1)) fun n61 => bnd (atI s5.2.heap n61) fun a64 => bnd (atI s5.2.heap n25) fun a79 => bnd (e_pqueue_before a64 a79) fun q94 => if q94 = true then some true else some false) else (some false) : Option Bool) fun y51 => if y51 = true then (bnd (chkI (n25 + 1)) fun n121 => some n121) else (some n25) : Option Int) fun y46 => bnd (atI s5.2.heap y46) fun a138 => bnd (atI s5.2.heap s5.1) fun a153 => bnd (e_pqueue_before a138 a153) fun q168 => if q168 = true then bnd (atI s5.2.heap y46) fun a180 => bnd (atI s5.2.heap s5.1) fun a195 => bnd (atI s5.2.heap s5.1) fun a210 => bnd (atI (s5.2.heap.set (s5.1 : Int).toNat a180) y46) fun a227 => some (.next (y46, (⟨((s5.2.heap.set (s5.1 : Int).toNat a180).set (y46 : Int).toNat a195), s5.2.next⟩ : Que))) else some (.ret s5.2))) (x1, x0)) fun res3 => fin res3 fun (_ : Int × Que) => none
theorem le_pqueue_Queue_down (x0 : Que) (x1 : Int) : Le (e_pqueue_Queue_down x0 x1) (m_pqueue_Queue_down x0 x1) := by
  unfold e_pqueue_Queue_down m_pqueue_Queue_down
  repeat' (first | apply le_pqueue_before | apply Le.ite | apply Le.bnd | apply Le.fin | apply Le.rng | apply Le.rngN | apply Le.lop | exact Le.rf | intro _)
noncomputable def e_pqueue_Queue_Push (x0 : Que) (x1 : Int) (x2 : Int) (x3 : Int) : Option (Err × Que) :=
  if 65536 ≤ (x0.heap.length : Int) then (some ((⟨10⟩ : Err), x0)) else (bnd (appI 32 x0.heap [(⟨x1, x2, x3, x0.next⟩ : QEn)]) fun u29 => bnd (chkI (x0.next + 1)) fun n42 => bnd (chkI ((u29.length : Int) - 1)) fun n49 => bnd (e_pqueue_Queue_up (⟨u29, n42⟩ : Que) n49) fun q57 => some ((⟨0⟩ : Err), q57))
theorem le_pqueue_Queue_Push (x0 : Que) (x1 : Int) (x2 : Int) (x3 : Int) : Le (e_pqueue_Queue_Push x0 x1 x2 x3) (m_pqueue_Queue_Push x0 x1 x2 x3) := by
  unfold e_pqueue_Queue_Push m_pqueue_Queue_Push
  repeat' (first | apply le_pqueue_Queue_up | apply Le.ite | apply Le.bnd | apply Le.fin | apply Le.rng | apply Le.rngN | apply Le.lop | exact Le.rf | intro _)
noncomputable def e_pqueue_Queue_Pop (x0 : Que) : Option (Int × Int × Int × Err × Que) :=
  bnd (e_pqueue_Queue_Peek x0) fun q2 => if q2.2.2.2.n ≠ 0 then (some (0, 0, 0, (⟨q2.2.2.2.n⟩ : Err), x0)) else (bnd (chkI ((x0.heap.length : Int) - 1)) fun n35 => bnd (atI x0.heap n35) fun a38 => bnd (atI x0.heap 0) fun a53 => bnd (cutI (x0.heap.set (0 : Int).toNat a38) 0 n35) fun u70 => bnd (e_pqueue_Queue_down (⟨u70, x0.next⟩ : Que) 0) fun q82 => some (q2.1, q2.2.1, q2.2.2.1, (⟨0⟩ : Err), q82))
theorem le_pqueue_Queue_Pop (x0 : Que) : Le (e_pqueue_Queue_Pop x0) (m_pqueue_Queue_Pop x0) := by
  unfold e_pqueue_Queue_Pop m_pqueue_Queue_Pop
  repeat' (first | apply le_pqueue_Queue_Peek | apply le_pqueue_Queue_down | apply Le.ite | apply Le.bnd | apply Le.fin | apply Le.rng | apply Le.rngN | apply Le.lop | exact Le.rf | intro _)
noncomputable def e_explore_copied (x0 : Tsk) : Option Tsk :=
  bnd (e_slices_Clone_Lint_int x0.vars) fun q29 => bnd (e_slices_Clone_Lint_int x0.init) fun q31 => bnd (e_slices_Clone_Lapi_Fact_api_Fact x0.goal) fun q33 => bnd (some (q29, q31, q33) : Option ((List Int) × (List Int) × (List Fct))) fun y35 => bnd (rng (ρ := Tsk) (fun (k156 : Nat) (a157 : Opr) (s154 : (List Opr)) => bnd (e_slices_Clone_Lapi_Fact_api_Fact a157.pre) fun q195 => bnd (rng (ρ := Ctl (List Opr) Tsk) (fun (k213 : Nat) (a214 : Eff) (s211 : (List Eff)) => bnd (e_slices_Clone_Lapi_Fact_api_Fact a214.cond) fun q248 => bnd (appI 40 s211 [(⟨q248, a214.var, a214.val⟩ : Eff)]) fun u262 => some (.next u262)) a157.effs 0 ([] : List Eff)) fun res209 => fin res209 fun (s278 : (List Eff)) => bnd (appI 72 s154 [(⟨a157.name, a157.cost, q195, s278⟩ : Opr)]) fun u286 => some (.next u286)) x0.ops 0 ([] : List Opr)) fun res152 => fin res152 fun (s304 : (List Opr)) => some (⟨y35.1, y35.2.1, y35.2.2, s304⟩ : Tsk)
theorem le_explore_copied (x0 : Tsk) : Le (e_explore_copied x0) (m_explore_copied x0) := by
  unfold e_explore_copied m_explore_copied
  repeat' (first | apply le_slices_Clone_Lapi_Fact_api_Fact | apply le_slices_Clone_Lint_int | apply Le.ite | apply Le.bnd | apply Le.fin | apply Le.rng | apply Le.rngN | apply Le.lop | exact Le.rf | intro _)
noncomputable def e_explore_shortest (x0 : List (List Arc)) (x1 : List Int) : Option ((List Int) × (List Int)) :=
  bnd (mkI 8 (0 : Int) (x0.length : Int)) fun u7 => bnd (mkI 8 (0 : Int) (x0.length : Int)) fun u9 => bnd (some (u7, u9) : Option ((List Int) × (List Int))) fun y11 => bnd (rngN (ρ := (List Int) × (List Int)) (fun (k77 : Nat) (s75 : (List Int) × (List Int)) => bnd (s75.1[k77]?) fun a104 => bnd (s75.2[k77]?) fun a116 => some (.next ((s75.1.set k77 1125899906842624), (s75.2.set k77 1125899906842624)))) y11.1.length (y11.1, y11.2)) fun res73 => fin res73 fun (s132 : (List Int) × (List Int)) => bnd (e_pqueue_New) fun q134 => bnd q134 fun o144 => bnd (rng (ρ := (List Int) × (List Int)) (fun (k151 : Nat) (a152 : Int) (s149 : (List Int) × (List Int) × Que) => bnd (atI s149.1 a152) fun a180 => bnd (atI s149.2.1 a152) fun a194 => bnd (e_pqueue_Queue_Push s149.2.2 0 0 a152) fun q208 => some (.next ((s149.1.set (a152 : Int).toNat 0), (s149.2.1.set (a152 : Int).toNat 0), q208.2))) x1 0 (s132.1, s132.2, o144)) fun res147 => fin res147 fun (s222 : (List Int) × (List Int) × Que) => bnd (lopE (ρ := (List Int) × (List Int)) (fun (s226 : (List Int) × (List Int) × Que) => bnd (e_pqueue_Queue_Len s226.2.2) fun q249 => if 0 < q249 then (bnd (e_pqueue_Queue_Pop s226.2.2) fun q260 => if q260.2.2.2.1.n ≠ 0 then (some (.brk (s226.1, s226.2.1, q260.2.2.2.2))) else (bnd (bnd (atI s226.1 q260.2.2.1) fun a285 => if q260.1 ≠ a285 then (some true) else (bnd (atI s226.2.1 q260.2.2.1) fun a298 => if q260.2.1 ≠ a298 then (some true) else (some false)) : Option Bool) fun y281 => if y281 = true then (some (.next (s226.1, s226.2.1, q260.2.2.2.2))) else (bnd (atI x0 q260.2.2.1) fun a316 => bnd (rng (ρ := Ctl ((List Int) × (List Int) × Que) ((List Int) × (List Int))) (fun (k337 : Nat) (a338 : Arc) (s335 : (List Int) × (List Int) × Que) => bnd (chkI (q260.1 + a338.weight)) fun n375 => bnd (chkI (q260.2.1 + 1)) fun n378 => bnd (bnd (atI s335.1 a338.dst) fun a385 => if a385 < n375 then (some true) else (bnd (atI s335.1 a338.dst) fun a398 => if n375 = a398 then (bnd (atI s335.2.1 a338.dst) fun a411 => if a411 ≤ n378 then (some true) else (some false)) else (some false)) : Option Bool) fun y381 => if y381 = true then (some (.next (s335.1, s335.2.1, s335.2.2))) else (bnd (atI s335.1 a338.dst) fun a429 => bnd (atI s335.2.1 a338.dst) fun a443 => bnd (e_pqueue_Queue_Push s335.2.2 n375 n378 a338.dst) fun q457 => if q457.1.n ≠ 0 then (bnd (e_explore_relaxed x0 (s335.1.set (a338.dst : Int).toNat n375) (s335.2.1.set (a338.dst : Int).toNat n378)) fun q472 => some (.ret (.ret (q472.1, q472.2)))) else (some (.next ((s335.1.set (a338.dst : Int).toNat n375), (s335.2.1.set (a338.dst : Int).toNat n378), q457.2))))) a316 0 (s226.1, s226.2.1, q260.2.2.2.2)) fun res333 => fin res333 fun (s491 : (List Int) × (List Int) × Que) => some (.next (s491.1, s491.2.1, s491.2.2))))) else (some (.brk (s226.1, s226.2.1, s226.2.2)))) (s222.1, s222.2.1, s222.2.2)) fun res224 => fin res224 fun (s497 : (List Int) × (List Int) × Que) => some (s497.1, s497.2.1)
theorem le_explore_shortest (x0 : List (List Arc)) (x1 : List Int) : Le (e_explore_shortest x0 x1) (m_explore_shortest x0 x1) := by
  unfold e_explore_shortest m_explore_shortest
  repeat' (first | apply le_explore_relaxed | apply le_pqueue_New | apply le_pqueue_Queue_Len | apply le_pqueue_Queue_Pop | apply le_pqueue_Queue_Push | apply Le.ite | apply Le.bnd | apply Le.fin | apply Le.rng | apply Le.rngN | apply Le.lop | exact Le.rf | intro _)
noncomputable def e_explore_Space_measure (x0 : Spa) : Option Spa :=
  bnd (e_registry_Registry_Len x0.states) fun q45 => bnd (mkI 24 ([] : List Arc) q45) fun u55 => bnd (mkI 24 ([] : List Arc) q45) fun u57 => bnd (some (u55, u57) : Option ((List (List Arc)) × (List (List Arc)))) fun y59 => bnd (rng (ρ := Spa) (fun (k179 : Nat) (a180 : Edj) (s177 : (List (List Arc)) × (List (List Arc))) => bnd (atI x0.t.ops a180.label) fun a258 => bnd (atI s177.1 a180.src) fun a279 => bnd (appI 24 a279 [(⟨a180.src, a180.dst, a258.cost⟩ : Arc)]) fun u304 => bnd (atI s177.1 a180.src) fun a315 => bnd (atI s177.2 a180.dst) fun a330 => bnd (appI 24 a330 [(⟨a180.dst, a180.src, a258.cost⟩ : Arc)]) fun u355 => bnd (atI s177.2 a180.dst) fun a366 => some (.next ((s177.1.set (a180.src : Int).toNat u304), (s177.2.set (a180.dst : Int).toNat u355)))) x0.edges 0 (y59.1, y59.2)) fun res175 => fin res175 fun (s390 : (List (List Arc)) × (List (List Arc))) => bnd (rng (ρ := Spa) (fun (k446 : Nat) (a447 : Bool) (s444 : (List Int)) => if a447 = true then (bnd (appI 8 s444 [(k446 : Int)]) fun u469 => some (.next u469)) else (some (.next s444))) x0.goals 0 ([] : List Int)) fun res442 => fin res442 fun (s485 : (List Int)) => bnd (e_explore_shortest s390.1 ([0] : List Int)) fun q497 => bnd (e_explore_shortest s390.2 s485) fun q561 => some (⟨(⟨x0.t.vars, x0.t.init, x0.t.goal, x0.t.ops⟩ : Tsk), x0.states, x0.edges, x0.goals, q497.1, q561.1, q561.2⟩ : Spa)
theorem le_explore_Space_measure (x0 : Spa) : Le (e_explore_Space_measure x0) (m_explore_Space_measure x0) := by
  unfold e_explore_Space_measure m_explore_Space_measure
  repeat' (first | apply le_explore_shortest | apply le_registry_Registry_Len | apply Le.ite | apply Le.bnd | apply Le.fin | apply Le.rng | apply Le.rngN | apply Le.lop | exact Le.rf | intro _)
noncomputable def e_explore_Explore (x0 : Tsk) (x1 : Int) : Option ((Option Spa) × Err) :=
  bnd (e_succgen_New x0) fun q25 => if q25.2.n ≠ 0 then (some (none, (⟨q25.2.n⟩ : Err))) else (bnd (e_registry_New x0.vars) fun q40 => if q40.2.n ≠ 0 then (some (none, (⟨q40.2.n⟩ : Err))) else (if (max 0 (min x1 65536)) < 1 then (some (none, (⟨10⟩ : Err))) else (bnd q40.1 fun o54 => bnd (e_registry_Registry_Add o54 x0.init) fun q57 => if q57.2.2.1.n ≠ 0 then (some (none, (⟨q57.2.2.1.n⟩ : Err))) else (bnd (e_explore_copied x0) fun q74 => bnd (lopE (ρ := (Option Spa) × Err) (fun (s105 : Int × (List Edj) × (List Bool) × Reg) => bnd (e_registry_Registry_Len s105.2.2.2) fun q130 => if s105.1 < q130 then (bnd (e_registry_Registry_State s105.2.2.2 s105.1) fun q141 => if q141.2.n ≠ 0 then (some (.ret (none, (⟨q141.2.n⟩ : Err)))) else (bnd (bnd (e_task_Holds x0.goal q141.1) fun q163 => if q163 = true then bnd (appI 1 s105.2.2.1 [true]) fun u195 => some u195 else bnd (appI 1 s105.2.2.1 [false]) fun u176 => some u176 : Option (List Bool)) fun y157 => bnd (e_succgen_Generator_Successors q25.1 q141.1) fun q212 => bnd (rng (ρ := Ctl (Int × (List Edj) × (List Bool) × Reg) ((Option Spa) × Err)) (fun (k227 : Nat) (a228 : Suc) (s225 : (List Edj) × Reg) => bnd (e_registry_Registry_Add s225.2 a228.state) fun q263 => bnd (bnd (e_errors_Is (⟨q263.2.2.1.n⟩ : Err) (⟨10⟩ : Err)) fun q283 => if q283 = true then some true else if q263.2.1 = true then (if (max 0 (min x1 65536)) ≤ q263.1 then (some true) else (some false)) else (some false) : Option Bool) fun y279 => if y279 = true then (some (.ret (.ret (none, (⟨10⟩ : Err))))) else (if q263.2.2.1.n ≠ 0 then (some (.ret (.ret (none, (⟨q263.2.2.1.n⟩ : Err))))) else (bnd (appI 24 s225.1 [(⟨s105.1, a228.op, q263.1⟩ : Edj)]) fun u304 => some (.next (u304, q263.2.2.2))))) q212 0 (s105.2.1, s105.2.2.2)) fun res223 => fin res223 fun (s321 : (List Edj) × Reg) => bnd (chkI (s105.1 + 1)) fun n323 => some (.next (n323, s321.1, y157, s321.2)))) else (some (.brk (s105.1, s105.2.1, s105.2.2.1, s105.2.2.2)))) (0, ([] : List Edj), ([] : List Bool), q57.2.2.2)) fun res103 => fin res103 fun (s330 : Int × (List Edj) × (List Bool) × Reg) => bnd (e_explore_Space_measure (⟨(⟨q74.vars, q74.init, q74.goal, q74.ops⟩ : Tsk), s330.2.2.2, s330.2.1, s330.2.2.1, ([] : List Int), ([] : List Int), ([] : List Int)⟩ : Spa)) fun q341 => some ((some q341), (⟨0⟩ : Err))))))
theorem le_explore_Explore (x0 : Tsk) (x1 : Int) : Le (e_explore_Explore x0 x1) (m_explore_Explore x0 x1) := by
  unfold e_explore_Explore m_explore_Explore
  repeat' (first | apply le_errors_Is | apply le_explore_Space_measure | apply le_explore_copied | apply le_registry_New | apply le_registry_Registry_Add | apply le_registry_Registry_Len | apply le_registry_Registry_State | apply le_succgen_Generator_Successors | apply le_succgen_New | apply le_task_Holds | apply Le.ite | apply Le.bnd | apply Le.fin | apply Le.rng | apply Le.rngN | apply Le.lop | exact Le.rf | intro _)
noncomputable def e_explore_Space_Len (x0 : Spa) : Option Int :=
  bnd (e_registry_Registry_Len x0.states) fun q45 => some q45
theorem le_explore_Space_Len (x0 : Spa) : Le (e_explore_Space_Len x0) (m_explore_Space_Len x0) := by
  unfold e_explore_Space_Len m_explore_Space_Len
  repeat' (first | apply le_registry_Registry_Len | apply Le.ite | apply Le.bnd | apply Le.fin | apply Le.rng | apply Le.rngN | apply Le.lop | exact Le.rf | intro _)
noncomputable def e_law25_awake  : Option Bool :=
  bnd (e_explore_Explore (⟨([2] : List Int), ([0] : List Int), ([] : List Fct), [(⟨(⟨#[]⟩ : ByteArray), 0, ([] : List Fct), [(⟨([] : List Fct), 0, 1⟩ : Eff)]⟩ : Opr)]⟩ : Tsk) 5) fun q33 => bnd (if q33.2.n = 0 then (if q33.1.isNone = false then (bnd q33.1 fun o53 => bnd (e_explore_Space_Len o53) fun q57 => if q57 = 2 then (some true) else (some false)) else (some false)) else (some false) : Option Bool) fun y47 => some y47
theorem le_law25_awake  : Le (e_law25_awake ) (m_law25_awake ) := by
  unfold e_law25_awake m_law25_awake
  repeat' (first | apply le_explore_Explore | apply le_explore_Space_Len | apply Le.ite | apply Le.bnd | apply Le.fin | apply Le.rng | apply Le.rngN | apply Le.lop | exact Le.rf | intro _)
set_option maxRecDepth 100000 in
theorem awake25 : m_law25_awake = some true := le_law25_awake true (by kernel_rfl)
end
section
set_option linter.unusedVariables false
set_option linter.unusedSimpArgs false
open Go Go.RowKit
theorem small_t {t : Tsk} (h : SmallOk t) : m_base_Small t = some true := by unfold m_base_Small; rw [bof_t h]
theorem small_f {t : Tsk} (h : ¬ SmallOk t) : m_base_Small t = some false := by unfold m_base_Small; rw [bof_f h]
theorem ints_refl (a : List Int) : m_base_Ints a a = some true := by unfold m_base_Ints; rw [bof_t rfl]
theorem SpX.lens {t : Tsk} {L : List (List Int)} {x : Spa} (h : SpX t L x) : m_explore_Space_Len x = some (L.length : Int) := by
  unfold m_explore_Space_Len
  rw [show m_registry_Registry_Len x.states = some (x.states.entries.length : Int) from rfl, h.reg.len]
  rfl
theorem SpX.state {t : Tsk} {L : List (List Int)} {x : Spa} (h : SpX t L x) (hok : TaskOk t) {i : Nat} {s : List Int} (hi : L[i]? = some s) : m_explore_Space_State x (i : Int) = some (s, ⟨0⟩) := by
  unfold m_explore_Space_State
  rw [regState_eq hok.1 h.reg hi, bnd_some]
theorem SpX.nostate {t : Tsk} {L : List (List Int)} {x : Spa} (h : SpX t L x) {i : Int} (hi : i < 0 ∨ (L.length : Int) ≤ i) : m_explore_Space_State x i = some ([], ⟨1⟩) := by
  unfold m_explore_Space_State m_registry_Registry_State m_registry_Registry_has
  rcases hi with hi | hi
  · rw [if_neg (by omega)]; rfl
  · by_cases h0 : 0 ≤ i
    · rw [if_pos h0, if_neg (by rw [h.reg.len]; omega)]; rfl
    · rw [if_neg h0]; rfl
theorem SpX.find {t : Tsk} {L : List (List Int)} {x : Spa} (h : SpX t L x) (hok : TaskOk t) {s : List Int} (hs : StateOk t.vars s) : (∃ i : Nat, L[i]? = some s ∧ m_explore_Space_Find x s = some ((i : Int), ⟨0⟩)) ∨ (¬ s ∈ L ∧ m_explore_Space_Find x s = some (0, ⟨3⟩)) := by
  unfold m_explore_Space_Find m_registry_Registry_Find
  obtain ⟨ws, hh, _, _, hf⟩ := regFind_eq hok.1 h.reg hs
  rcases hf with ⟨i, hi, hf⟩ | ⟨hno, hf⟩
  · rw [hf, bnd_some]
    refine .inl ⟨i, hi, ?_⟩
    dsimp only
    rw [if_neg (by simp), if_neg (by omega), bnd_some]
  · rw [hf, bnd_some]
    refine .inr ⟨fun hm => ?_, ?_⟩
    · obtain ⟨i, hi⟩ := List.getElem?_of_mem hm
      exact hno i hi
    · dsimp only
      rw [if_neg (by simp), if_pos (by omega), bnd_some]
theorem estates_eq (t : Tsk) (lim : Int) : m_law25_ExploreStates t lim = some true := by
  unfold m_law25_ExploreStates
  by_cases hs : SmallOk t
  · obtain ⟨r, y, h1, h2, h3⟩ := refStates_eq hs.mid lim
    obtain ⟨x, g1, g2⟩ := explore_eq hs.mid lim h1
    simp only [small_t hs, awake25, bnd_some, if_true, g1, h2, if_false, Bool.false_eq_true]
    cases r with
    | none =>
      have h3' : y.2 = false := h3
      have g2' : x = (none, ⟨10⟩) := g2
      rw [h3', g2']
      rfl
    | some L =>
      have h3' : y = (L, true) := h3
      obtain ⟨s, rfl, hx⟩ := g2
      have hE := h1.ends (bl_init t) (fun j s k hj => by omega) L rfl
      have hl := hE.bl.few hs.mid
      rw [h3']
      dsimp only
      simp only [Bool.not_true, Bool.false_eq_true, if_false, ne_eq, not_true_eq_false, bnd_some, hx.lens]
      rw [rng_unit (fun k u hk => ?_), bnd_some, fin_d, hx.nostate (.inr (by omega)), hx.nostate (.inl (by omega)), bnd_some, bnd_some]
      · rfl
      · have hsok := hE.bl.ok hs.ok (List.mem_of_getElem? hk)
        rw [hx.state hs.ok hk, bnd_some]
        rcases hx.find hs.ok hsok with ⟨i, hi, hf⟩ | ⟨hno, _⟩
        · obtain rfl := nodup_at hE.bl.nodup hi hk
          rw [hf, bnd_some]
          simp only [ne_eq, not_true_eq_false, if_false, ints_refl, bnd_some, if_true, Bool.false_eq_true]
        · exact (hno (List.mem_of_getElem? hk)).elim
  · simp only [small_f hs, awake25, bnd_some, if_true, Bool.false_eq_true, if_false]
end
section
open Go Go.RowKit Go.ChangeShapes Go.WideShapes Go.Deep
theorem lawEStates {w : World} {v0 : Value} {a0 : Tsk} (h0 : V w v0 a0) {v1 : Value} {a1 : Int} (h1 : V w v1 a1) : Fn Tryz.prog 4 [v0, v1] w fun v w' => v = .bool true ∧ Ext w w' := by
  obtain ⟨rfl, r1⟩ := Vb.int h1
  exact (c_law25_ExploreStates (fun _ h => h) h0 r1 (estates_eq a0 a1)).mono fun _ _ h => ⟨h.2.bool, h.1⟩
set_option maxRecDepth 100000 in
theorem exploreStates_lifted (os : Os) (started : os.Started) (H : Type) (enc : TypeId × Value → H) :
    ReturnsInHanded {} Tryz.checked os 4 .any (Rows.exploreStatesSpec.pre6 enc Tryz.prog Tryz.f4 Rows.exploreStatesRow.domain false) (Rows.exploreStatesSpec.post enc Tryz.prog Tryz.f4 false true false false) := by
  refine returnsInHanded_of_change (C := Tryz.checked) ownTry started (by kernel_rfl) Tryz.func4 (ChangeSpec.witness6 (enc := enc) (C := Tryz.checked) false ⟨#[], #[(.agg #[.slice none 0 0, .slice none 0 0, .slice none 0 0, .slice none 0 0]), (.int .i64 0)], []⟩ 8 (by kernel_rfl) (by kernel_rfl) (by kernel_rfl) (by kernel_rfl)) ?_
  intro W base args ds gs before hval hW _ _
  have hopen : ∀ p, DataW.TrodAll enc Tryz.prog W 0 (fun _ => true) true Tryz.f4.params.toList args.toList ds p → ∃ v0 v1 d0 d1, args = #[v0, v1] ∧ ds = [d0, d1] ∧ (∃ a : Tsk, V W v0 a) ∧ (∃ a : Int, V W v1 a) := by
    intro p hA
    rw [Tryz.params4] at hA
    replace hval : ∀ (j : Nat) t v, (#[26, 3] : Array TypeId)[j]? = some t → args[j]? = some v → Value.okWide Tryz.prog W .any base t v := by rw [← Tryz.params4]; exact hval
    obtain ⟨v0, vs0, d0, ds0, p0, q0, g0, e0, _, h0, r0⟩ := trodAll_cons hA
    obtain ⟨v1, vs1, d1, ds1, p1, q1, g1, e1, _, h1, r1⟩ := trodAll_cons r0
    obtain ⟨g, e, _⟩ := trodAll_nil r1
    rw [g] at g1; rw [e] at e1
    rw [g1] at g0; rw [e1] at e0
    obtain rfl : args = #[v0, v1] := by cases args; simp_all
    exact ⟨v0, v1, d0, d1, rfl, e0, (by first | exact openAgg rfl (hval 0 26 v0 rfl rfl) h0 | exact openOne rfl (hval 0 26 v0 rfl rfl) h0), (by first | exact openAgg rfl (hval 1 3 v1 rfl rfl) h1 | exact openOne rfl (hval 1 3 v1 rfl rfl) h1)⟩
  refine lawPost rfl (by kernel_rfl) (by rw [Tryz.params4]; exact of_decide_eq_true (by kernel_rfl)) hW ?_ ?_
  · intro p hA
    obtain ⟨v0, v1, d0, d1, _, rfl, _⟩ := hopen p hA
    rfl
  · intro p hA
    obtain ⟨v0, v1, d0, d1, rfl, _, ⟨a0, h0⟩, ⟨a1, h1⟩⟩ := hopen p hA
    exact lawEStates h0 h1
theorem exploreStates_holds : Rows.ExploreStatesSaid :=
  OpenClaim.holds_of_wide 4 Tryz.f4 rfl rfl rfl rfl rfl rfl rfl ⟨rfl, rfl, rfl, rfl, rfl⟩ rfl rfl rfl rfl rfl (by kernel_rfl) Tryz.func4 (by kernel_rfl)
    (of_decide_eq_true (by kernel_rfl)) (by unfold Func.isWrapper; first | (rw [if_pos (by decide +kernel)]; kernel_rfl) | (rw [if_neg (by decide +kernel)]; exact ⟨rfl, rfl⟩))
    (fun os started H enc _ => exploreStates_lifted os started H enc)
#print axioms exploreStates_holds
end
end Go.Proofs.YtkbmbcblgdgjlaaGreat

/- BreadthReachable returns true for every task and every limit, and the task reads behind the call as before. No conditions. -/
import Derived.Test.YthomfnkaicjmbaaPReaE
import Derived.Test.YthomfnkaicjmbaaRows
namespace Go.Proofs.Ythomfnkaicjmbaa
open Go Go.RowKit
section
open Go Go.RowKit
set_option maxRecDepth 20000
def e_slices_Clone_Luint64_uint64 (x : List U64) : Option (List U64) := m_slices_Clone_Luint64_uint64 x
theorem le_slices_Clone_Luint64_uint64 (x : List U64) : Le (e_slices_Clone_Luint64_uint64 x) (m_slices_Clone_Luint64_uint64 x) := Le.rf
def e_succgen_New (t : Tsk) : Option (Option Gnr × Err) := if taskB t = true then some (some ⟨t⟩, ⟨0⟩) else none
theorem le_succgen_New (t : Tsk) : Le (e_succgen_New t) (m_succgen_New t) := fun r h => by
  obtain ⟨h1, rfl⟩ := ite_some h
  exact new_ok (taskB_ok h1)
def e_succgen_Generator_Applicable (x : Option Gnr) (s : List Int) : Option (List Int) := match x with
  | some g => if stateB g.t.vars s = true then (if s.length ≤ 1000000 then some (appl g.t s) else none) else none
  | none => none
theorem le_succgen_Generator_Applicable (x : Option Gnr) (s : List Int) : Le (e_succgen_Generator_Applicable x s) (m_succgen_Generator_Applicable x s) := fun r h => by
  cases x with
  | none => cases h
  | some g =>
    unfold e_succgen_Generator_Applicable at h
    dsimp only at h
    split at h
    · rename_i h1
      obtain ⟨h3, rfl⟩ := ite_some h
      unfold m_succgen_Generator_Applicable
      rw [if_pos h3]
      show some (appS g.t s) = _
      rw [appS_ok (stateB_ok h1)]
    · cases h
noncomputable def e_breadth_queue_Len (x0 : List Itm) : Option Int :=
  some (x0.length : Int)
theorem le_breadth_queue_Len (x0 : List Itm) : Le (e_breadth_queue_Len x0) (m_breadth_queue_Len x0) := by
  unfold e_breadth_queue_Len m_breadth_queue_Len
  repeat' (first | apply Le.ite | apply Le.bnd | apply Le.fin | apply Le.rng | apply Le.rngN | apply Le.lop | exact Le.rf | intro _)
noncomputable def e_breadth_queue_Less (x0 : List Itm) (x1 : Int) (x2 : Int) : Option Bool :=
  bnd (bnd (atI x0 x1) fun a10 => bnd (atI x0 x2) fun a24 => if a10.cost < a24.cost then (some true) else (bnd (atI x0 x1) fun a39 => bnd (atI x0 x2) fun a53 => if a39.cost = a53.cost then (bnd (atI x0 x1) fun a68 => bnd (atI x0 x2) fun a82 => if a68.order < a82.order then (some true) else (some false)) else (some false)) : Option Bool) fun y6 => some y6
theorem le_breadth_queue_Less (x0 : List Itm) (x1 : Int) (x2 : Int) : Le (e_breadth_queue_Less x0 x1 x2) (m_breadth_queue_Less x0 x1 x2) := by
  unfold e_breadth_queue_Less m_breadth_queue_Less
  repeat' (first | apply Le.ite | apply Le.bnd | apply Le.fin | apply Le.rng | apply Le.rngN | apply Le.lop | exact Le.rf | intro _)
noncomputable def e_breadth_queue_Swap (x0 : List Itm) (x1 : Int) (x2 : Int) : Option (List Itm) :=
  bnd (atI x0 x2) fun a4 => bnd (atI x0 x1) fun a18 => bnd (atI x0 x1) fun a32 => bnd (atI (x0.set (x1 : Int).toNat a4) x2) fun a48 => some ((x0.set (x1 : Int).toNat a4).set (x2 : Int).toNat a18)
theorem le_breadth_queue_Swap (x0 : List Itm) (x1 : Int) (x2 : Int) : Le (e_breadth_queue_Swap x0 x1 x2) (m_breadth_queue_Swap x0 x1 x2) := by
  unfold e_breadth_queue_Swap m_breadth_queue_Swap
  repeat' (first | apply Le.ite | apply Le.bnd | apply Le.fin | apply Le.rng | apply Le.rngN | apply Le.lop | exact Le.rf | intro _)
noncomputable def e_breadth_queue_Push (x0 : BxR 98 96 Itm) (x1 : An 96 Itm) : Option (BxR 98 96 Itm) :=
  bnd (appI 24 x0.l [x1.x]) fun u31 => some (⟨u31⟩ : BxR 98 96 Itm)
theorem le_breadth_queue_Push (x0 : BxR 98 96 Itm) (x1 : An 96 Itm) : Le (e_breadth_queue_Push x0 x1) (m_breadth_queue_Push x0 x1) := by
  unfold e_breadth_queue_Push m_breadth_queue_Push
  repeat' (first | apply Le.ite | apply Le.bnd | apply Le.fin | apply Le.rng | apply Le.rngN | apply Le.lop | exact Le.rf | intro _)
noncomputable def e_breadth_queue_Pop (x0 : BxR 98 96 Itm) : Option ((An 96 Itm) × (BxR 98 96 Itm)) :=
  bnd (chkI ((x0.l.length : Int) - 1)) fun n13 => bnd (atI x0.l n13) fun a16 => bnd (cutI x0.l 0 n13) fun u37 => some ((⟨a16⟩ : An 96 Itm), (⟨u37⟩ : BxR 98 96 Itm))
theorem le_breadth_queue_Pop (x0 : BxR 98 96 Itm) : Le (e_breadth_queue_Pop x0) (m_breadth_queue_Pop x0) := by
  unfold e_breadth_queue_Pop m_breadth_queue_Pop
  repeat' (first | apply Le.ite | apply Le.bnd | apply Le.fin | apply Le.rng | apply Le.rngN | apply Le.lop | exact Le.rf | intro _)
noncomputable def e_container_heap_up (x0 : BxR 98 96 Itm) (x1 : Int) : Option (BxR 98 96 Itm) :=
  bnd (lopE (ρ := (BxR 98 96 Itm)) (fun (s5 : Int × (BxR 98 96 Itm)) => bnd (chkI (s5.1 - 1)) fun n22 => bnd (quoT n22 2) fun n25 => bnd (if n25 = s5.1 then (some true) else (bnd (e_breadth_queue_Less s5.2.l s5.1 n25) fun q42 => if q42 = true then some false else some true) : Option Bool) fun y28 => if y28 = true then (some (.brk (s5.1, s5.2))) else (bnd (e_breadth_queue_Swap s5.2.l n25 s5.1) fun q73 => some (.next (n25, (⟨q73⟩ : BxR 98 96 Itm))))) (x1, x0)) fun res3 => fin res3 fun (s90 : Int × (BxR 98 96 Itm)) => some s90.2
theorem le_container_heap_up (x0 : BxR 98 96 Itm) (x1 : Int) : Le (e_container_heap_up x0 x1) (m_container_heap_up x0 x1) := by
  unfold e_container_heap_up m_container_heap_up
  repeat' (first | apply le_breadth_queue_Less | apply le_breadth_queue_Swap | apply Le.ite | apply Le.bnd | apply Le.fin | apply Le.rng | apply Le.rngN | apply Le.lop | exact Le.rf | intro _)
noncomputable def e_container_heap_down (x0 : BxR 98 96 Itm) (x1 : Int) (x2 : Int) : Option (Bool × (BxR 98 96 Itm)) :=
  bnd (lopE (ρ := Bool × (BxR 98 96 Itm)) (fun (s6 : Int × (BxR 98 96 Itm)) => bnd (chkI (2 * s6.1)) fun n23 => bnd (chkI (n23 + 1)) fun n26 => bnd (if x2 ≤ n26 then (some true) else (if n26 < 0 then (some true) else (some false)) : Option Bool) fun y29 => if y29 = true then (some (.brk (s6.1, s6.2))) else (bnd (bnd (chkI (n26 + 1)) fun n45 => bnd (if n45 < x2 then (bnd (e_breadth_queue_Less s6.2.l n45 n26) fun q62 => if q62 = true then some true else some false) else (some false) : Option Bool) fun y48 => if y48 = true then (some n45) else (some n26) : Option Int) fun y40 => bnd (e_breadth_queue_Less s6.2.l y40 s6.1) fun q97 => if q97 = true then bnd (e_breadth_queue_Swap s6.2.l s6.1 y40) fun q109 => some (.next (y40, (⟨q109⟩ : BxR 98 96 Itm))) else some (.brk (s6.1, s6.2)))) (x1, x0)) fun res4 => fin res4 fun (s126 : Int × (BxR 98 96 Itm)) => bnd (if x1 < s126.1 then (some true) else (some false) : Option Bool) fun y128 => some (y128, s126.2)
theorem le_container_heap_down (x0 : BxR 98 96 Itm) (x1 : Int) (x2 : Int) : Le (e_container_heap_down x0 x1 x2) (m_container_heap_down x0 x1 x2) := by
  unfold e_container_heap_down m_container_heap_down
  repeat' (first | apply le_breadth_queue_Less | apply le_breadth_queue_Swap | apply Le.ite | apply Le.bnd | apply Le.fin | apply Le.rng | apply Le.rngN | apply Le.lop | exact Le.rf | intro _)
noncomputable def e_container_heap_Push (x0 : BxR 98 96 Itm) (x1 : An 96 Itm) : Option (BxR 98 96 Itm) :=
  bnd (e_breadth_queue_Push x0 (⟨x1.x⟩ : An 96 Itm)) fun q9 => bnd (e_breadth_queue_Len q9.l) fun q26 => bnd (chkI (q26 - 1)) fun n34 => bnd (e_container_heap_up q9 n34) fun q42 => some q42
theorem le_container_heap_Push (x0 : BxR 98 96 Itm) (x1 : An 96 Itm) : Le (e_container_heap_Push x0 x1) (m_container_heap_Push x0 x1) := by
  unfold e_container_heap_Push m_container_heap_Push
  repeat' (first | apply le_breadth_queue_Len | apply le_breadth_queue_Push | apply le_container_heap_up | apply Le.ite | apply Le.bnd | apply Le.fin | apply Le.rng | apply Le.rngN | apply Le.lop | exact Le.rf | intro _)
noncomputable def e_container_heap_Pop (x0 : BxR 98 96 Itm) : Option ((An 96 Itm) × (BxR 98 96 Itm)) :=
  bnd (e_breadth_queue_Len x0.l) fun q11 => bnd (chkI (q11 - 1)) fun n19 => bnd (e_breadth_queue_Swap x0.l 0 n19) fun q22 => bnd (e_container_heap_down (⟨q22⟩ : BxR 98 96 Itm) 0 n19) fun q35 => bnd (e_breadth_queue_Pop q35.2) fun q44 => some ((⟨q44.1.x⟩ : An 96 Itm), q44.2)
theorem le_container_heap_Pop (x0 : BxR 98 96 Itm) : Le (e_container_heap_Pop x0) (m_container_heap_Pop x0) := by
  unfold e_container_heap_Pop m_container_heap_Pop
  repeat' (first | apply le_breadth_queue_Len | apply le_breadth_queue_Pop | apply le_breadth_queue_Swap | apply le_container_heap_down | apply Le.ite | apply Le.bnd | apply Le.fin | apply Le.rng | apply Le.rngN | apply Le.lop | exact Le.rf | intro _)
noncomputable def e_pack_New (x0 : List Int) : Option ((Option Pkr) × Err) :=
  if 64 < (x0.length : Int) then (some (none, (⟨5⟩ : Err))) else (bnd (rng (ρ := (Option Pkr) × Err) (fun (k25 : Nat) (a26 : Int) (s23 : Int × Pkr) => bnd (if a26 < 1 then (some true) else (if 64 < a26 then (some true) else (some false)) : Option Bool) fun y48 => if y48 = true then (some (.ret (none, (⟨1⟩ : Err)))) else (bnd (lopE (ρ := Ctl (Int × Pkr) ((Option Pkr) × Err)) (fun (s61 : Int) => bnd (shlI 1 s61) fun n76 => if n76 < a26 then (bnd (chkI (s61 + 1)) fun n80 => some (.next n80)) else (some (.brk s61))) 0) fun res59 => fin res59 fun (s87 : Int) => bnd (bnd (chkI (s23.1 + s87)) fun n95 => if 64 < n95 then (bnd (chkI (s23.2.words + 1)) fun n109 => some (0, (⟨s23.2.fields, n109⟩ : Pkr))) else (some (s23.1, s23.2)) : Option (Int × Pkr)) fun y89 => bnd (chkI (y89.2.words - 1)) fun n133 => bnd (appI 32 y89.2.fields [(⟨n133, y89.1, s87, a26⟩ : PFd)]) fun u142 => bnd (chkI (y89.1 + s87)) fun n155 => some (.next (n155, (⟨u142, y89.2.words⟩ : Pkr))))) x0 0 (0, (⟨([] : List PFd), 1⟩ : Pkr))) fun res21 => fin res21 fun (s167 : Int × Pkr) => some ((some s167.2), (⟨0⟩ : Err)))
theorem le_pack_New (x0 : List Int) : Le (e_pack_New x0) (m_pack_New x0) := by
  unfold e_pack_New m_pack_New
  repeat' (first | apply Le.ite | apply Le.bnd | apply Le.fin | apply Le.rng | apply Le.rngN | apply Le.lop | exact Le.rf | intro _)
noncomputable def e_pack_field_mask (x0 : PFd) : Option U64 :=
  bnd (shlU (1 : U64) x0.width) fun n12 => bnd (shlU (n12 - (1 : U64)) x0.bit) fun n14 => some n14
theorem le_pack_field_mask (x0 : PFd) : Le (e_pack_field_mask x0) (m_pack_field_mask x0) := by
  unfold e_pack_field_mask m_pack_field_mask
  repeat' (first | apply Le.ite | apply Le.bnd | apply Le.fin | apply Le.rng | apply Le.rngN | apply Le.lop | exact Le.rf | intro _)
noncomputable def e_pack_field_get (x0 : PFd) (x1 : List U64) : Option Int :=
  bnd (atI x1 x0.word) fun a15 => bnd (e_pack_field_mask x0) fun q26 => bnd (shrU (a15 &&& q26) x0.bit) fun n33 => some n33.toInt
theorem le_pack_field_get (x0 : PFd) (x1 : List U64) : Le (e_pack_field_get x0 x1) (m_pack_field_get x0 x1) := by
  unfold e_pack_field_get m_pack_field_get
  repeat' (first | apply le_pack_field_mask | apply Le.ite | apply Le.bnd | apply Le.fin | apply Le.rng | apply Le.rngN | apply Le.lop | exact Le.rf | intro _)
noncomputable def e_pack_Packer_Pack (x0 : Pkr) (x1 : List Int) : Option ((List U64) × Err) :=
  if (x1.length : Int) ≠ (x0.fields.length : Int) then (some (([] : List U64), (⟨2⟩ : Err))) else (bnd (mkI 8 ((0 : U64) : U64) x0.words) fun u25 => bnd (rng (ρ := (List U64) × Err) (fun (k50 : Nat) (a51 : PFd) (s48 : (List U64)) => bnd (bnd (x1[k50]?) fun a87 => if a87 < 0 then (some true) else (bnd (x1[k50]?) fun a98 => if a51.size ≤ a98 then (some true) else (some false)) : Option Bool) fun y83 => if y83 = true then (some (.ret (([] : List U64), (⟨2⟩ : Err)))) else (bnd (atI s48 a51.word) fun a114 => bnd (x1[k50]?) fun a125 => bnd (shlU (BitVec.ofInt 64 a125) a51.bit) fun n135 => bnd (atI s48 a51.word) fun a137 => some (.next (s48.set (a51.word : Int).toNat (a114 ||| n135))))) x0.fields 0 u25) fun res46 => fin res46 fun (s154 : (List U64)) => some (s154, (⟨0⟩ : Err)))
theorem le_pack_Packer_Pack (x0 : Pkr) (x1 : List Int) : Le (e_pack_Packer_Pack x0 x1) (m_pack_Packer_Pack x0 x1) := by
  unfold e_pack_Packer_Pack m_pack_Packer_Pack
  repeat' (first | apply Le.ite | apply Le.bnd | apply Le.fin | apply Le.rng | apply Le.rngN | apply Le.lop | exact Le.rf | intro _)
noncomputable def e_pack_Packer_Unpack (x0 : Pkr) (x1 : List U64) : Option ((List Int) × Err) :=
  if (x1.length : Int) ≠ x0.words then (some (([] : List Int), (⟨2⟩ : Err))) else (bnd (mkI 8 (0 : Int) (x0.fields.length : Int)) fun u25 => bnd (e_slices_Clone_Luint64_uint64 x1) fun q38 => bnd (rng (ρ := (List Int) × Err) (fun (k60 : Nat) (a61 : PFd) (s58 : (List Int) × (List U64)) => bnd (e_pack_field_get a61 x1) fun q97 => bnd (s58.1[k60]?) fun a105 => bnd ((s58.1.set k60 q97)[k60]?) fun a117 => if a61.size ≤ a117 then (some (.ret (([] : List Int), (⟨2⟩ : Err)))) else (bnd (atI s58.2 a61.word) fun a128 => bnd (e_pack_field_mask a61) fun q139 => bnd (atI s58.2 a61.word) fun a146 => some (.next ((s58.1.set k60 q97), (s58.2.set (a61.word : Int).toNat (a128 &&& ~~~q139)))))) x0.fields 0 (u25, q38)) fun res56 => fin res56 fun (s163 : (List Int) × (List U64)) => bnd (rng (ρ := (List Int) × Err) (fun (k171 : Nat) (a172 : U64) (s169 : Unit) => bnd (s163.2[k171]?) fun a182 => if (a182.toNat : Int) ≠ ((0 : U64).toNat : Int) then (some (.ret (([] : List Int), (⟨2⟩ : Err)))) else (some (.next ()))) q38 0 ()) fun res167 => fin res167 fun (s196 : Unit) => some (s163.1, (⟨0⟩ : Err)))
theorem le_pack_Packer_Unpack (x0 : Pkr) (x1 : List U64) : Le (e_pack_Packer_Unpack x0 x1) (m_pack_Packer_Unpack x0 x1) := by
  unfold e_pack_Packer_Unpack m_pack_Packer_Unpack
  repeat' (first | apply le_pack_field_get | apply le_pack_field_mask | apply le_slices_Clone_Luint64_uint64 | apply Le.ite | apply Le.bnd | apply Le.fin | apply Le.rng | apply Le.rngN | apply Le.lop | exact Le.rf | intro _)
noncomputable def e_pack_Packer_Hash (x0 : Pkr) (x1 : List U64) : Option Int :=
  bnd (rng (ρ := Int) (fun (k13 : Nat) (a14 : U64) (s11 : U64) => bnd (shrU ((s11 ^^^ a14) * (13787848793156543929 : U64)) 29) fun n31 => some (.next (((s11 ^^^ a14) * (13787848793156543929 : U64)) ^^^ n31))) x1 0 ((BitVec.ofInt 64 (x1.length : Int)) + (11400714819323198485 : U64))) fun res9 => fin res9 fun (s37 : U64) => bnd (shrU s37 2) fun n39 => some n39.toInt
theorem le_pack_Packer_Hash (x0 : Pkr) (x1 : List U64) : Le (e_pack_Packer_Hash x0 x1) (m_pack_Packer_Hash x0 x1) := by
  unfold e_pack_Packer_Hash m_pack_Packer_Hash
  repeat' (first | apply Le.ite | apply Le.bnd | apply Le.fin | apply Le.rng | apply Le.rngN | apply Le.lop | exact Le.rf | intro _)
noncomputable def e_slices_Equal_Luint64_uint64 (x0 : List U64) (x1 : List U64) : Option Bool :=
  if (x0.length : Int) ≠ (x1.length : Int) then (some false) else (bnd (rng (ρ := Bool) (fun (k18 : Nat) (a19 : U64) (s16 : Unit) => bnd (x1[k18]?) fun a36 => if (a19.toNat : Int) ≠ (a36.toNat : Int) then (some (.ret false)) else (some (.next ()))) x0 0 ()) fun res14 => fin res14 fun (s50 : Unit) => some true)
theorem le_slices_Equal_Luint64_uint64 (x0 : List U64) (x1 : List U64) : Le (e_slices_Equal_Luint64_uint64 x0 x1) (m_slices_Equal_Luint64_uint64 x0 x1) := by
  unfold e_slices_Equal_Luint64_uint64 m_slices_Equal_Luint64_uint64
  repeat' (first | apply Le.ite | apply Le.bnd | apply Le.fin | apply Le.rng | apply Le.rngN | apply Le.lop | exact Le.rf | intro _)
noncomputable def e_registry_New (x0 : List Int) : Option ((Option Reg) × Err) :=
  bnd (e_pack_New x0) fun q4 => if q4.2.n ≠ 0 then (some (none, (⟨q4.2.n⟩ : Err))) else (bnd q4.1 fun o22 => some ((some (⟨o22, ([] : List REn), (⟨[]⟩ : MapR 3 Int Int)⟩ : Reg)), (⟨0⟩ : Err)))
theorem le_registry_New (x0 : List Int) : Le (e_registry_New x0) (m_registry_New x0) := by
  unfold e_registry_New m_registry_New
  repeat' (first | apply le_pack_New | apply Le.ite | apply Le.bnd | apply Le.fin | apply Le.rng | apply Le.rngN | apply Le.lop | exact Le.rf | intro _)
noncomputable def e_registry_Registry_find (x0 : Reg) (x1 : List Int) : Option ((List U64) × Int × Int × Err) :=
  bnd (e_pack_Packer_Pack x0.packer x1) fun q20 => if q20.2.n ≠ 0 then (some (([] : List U64), 0, (-1), (⟨2⟩ : Err))) else (bnd (e_pack_Packer_Hash x0.packer q20.1) fun q41 => bnd (rng (ρ := (List U64) × Int × Int × Err) (fun (k66 : Nat) (a67 : Int) (s64 : Unit) => bnd (atI x0.entries a67) fun a100 => bnd (e_slices_Equal_Luint64_uint64 a100.words q20.1) fun q118 => if q118 = true then some (.ret (q20.1, q41, a67, (⟨0⟩ : Err))) else some (.next ())) (mget ([] : List Int) x0.table.l q41) 0 ()) fun res62 => fin res62 fun (s139 : Unit) => some (q20.1, q41, (-1), (⟨0⟩ : Err)))
theorem le_registry_Registry_find (x0 : Reg) (x1 : List Int) : Le (e_registry_Registry_find x0 x1) (m_registry_Registry_find x0 x1) := by
  unfold e_registry_Registry_find m_registry_Registry_find
  repeat' (first | apply le_pack_Packer_Hash | apply le_pack_Packer_Pack | apply le_slices_Equal_Luint64_uint64 | apply Le.ite | apply Le.bnd | apply Le.fin | apply Le.rng | apply Le.rngN | apply Le.lop | exact Le.rf | intro _)
noncomputable def e_registry_Registry_Add (x0 : Reg) (x1 : List Int) : Option (Int × Bool × Err × Reg) :=
  bnd (e_registry_Registry_find x0 x1) fun q5 => if q5.2.2.2.n ≠ 0 then (some (0, false, (⟨q5.2.2.2.n⟩ : Err), x0)) else (if 0 ≤ q5.2.2.1 then (some (q5.2.2.1, false, (⟨0⟩ : Err), x0)) else (if 65536 ≤ (x0.entries.length : Int) then (some (0, false, (⟨10⟩ : Err), x0)) else (bnd (appI 48 x0.entries [(⟨q5.1, (⟨(-1), (-1), 0⟩ : RLk)⟩ : REn)]) fun u53 => bnd (appI 8 (mget ([] : List Int) x0.table.l q5.2.1) ([(x0.entries.length : Int)] : List Int)) fun u82 => some ((x0.entries.length : Int), true, (⟨0⟩ : Err), (⟨x0.packer, u53, (⟨mput x0.table.l q5.2.1 u82⟩ : MapR 3 Int Int)⟩ : Reg)))))
theorem le_registry_Registry_Add (x0 : Reg) (x1 : List Int) : Le (e_registry_Registry_Add x0 x1) (m_registry_Registry_Add x0 x1) := by
  unfold e_registry_Registry_Add m_registry_Registry_Add
  repeat' (first | apply le_registry_Registry_find | apply Le.ite | apply Le.bnd | apply Le.fin | apply Le.rng | apply Le.rngN | apply Le.lop | exact Le.rf | intro _)
noncomputable def e_registry_Registry_Len (x0 : Reg) : Option Int :=
  some (x0.entries.length : Int)
theorem le_registry_Registry_Len (x0 : Reg) : Le (e_registry_Registry_Len x0) (m_registry_Registry_Len x0) := by
  unfold e_registry_Registry_Len m_registry_Registry_Len
  repeat' (first | apply Le.ite | apply Le.bnd | apply Le.fin | apply Le.rng | apply Le.rngN | apply Le.lop | exact Le.rf | intro _)
noncomputable def e_registry_Registry_has (x0 : Reg) (x1 : Int) : Option Bool :=
  bnd (if 0 ≤ x1 then (if x1 < (x0.entries.length : Int) then (some true) else (some false)) else (some false) : Option Bool) fun y3 => some y3
theorem le_registry_Registry_has (x0 : Reg) (x1 : Int) : Le (e_registry_Registry_has x0 x1) (m_registry_Registry_has x0 x1) := by
  unfold e_registry_Registry_has m_registry_Registry_has
  repeat' (first | apply Le.ite | apply Le.bnd | apply Le.fin | apply Le.rng | apply Le.rngN | apply Le.lop | exact Le.rf | intro _)
noncomputable def e_registry_Registry_State (x0 : Reg) (x1 : Int) : Option ((List Int) × Err) :=
  bnd (e_registry_Registry_has x0 x1) fun q3 => if q3 = true then bnd (atI x0.entries x1) fun a27 => bnd (e_pack_Packer_Unpack x0.packer a27.words) fun q45 => some (q45.1, (⟨q45.2.n⟩ : Err)) else some (([] : List Int), (⟨1⟩ : Err))
theorem le_registry_Registry_State (x0 : Reg) (x1 : Int) : Le (e_registry_Registry_State x0 x1) (m_registry_Registry_State x0 x1) := by
  unfold e_registry_Registry_State m_registry_Registry_State
  repeat' (first | apply le_pack_Packer_Unpack | apply le_registry_Registry_has | apply Le.ite | apply Le.bnd | apply Le.fin | apply Le.rng | apply Le.rngN | apply Le.lop | exact Le.rf | intro _)
noncomputable def e_registry_Registry_SetLink (x0 : Reg) (x1 : Int) (x2 : Int) (x3 : Int) (x4 : Int) : Option (Err × Reg) :=
  bnd (bnd (e_registry_Registry_has x0 x1) fun q10 => if q10 = true then if x2 ≠ (-1) then (bnd (e_registry_Registry_has x0 x2) fun q20 => if q20 = true then some false else some true) else (some false) else some true : Option Bool) fun y6 => if y6 = true then (some ((⟨1⟩ : Err), x0)) else (bnd (atI x0.entries x1) fun a49 => some ((⟨0⟩ : Err), (⟨x0.packer, (x0.entries.set (x1 : Int).toNat ({ a49 with link := (⟨x2, x3, x4⟩ : RLk) } : REn)), x0.table⟩ : Reg)))
theorem le_registry_Registry_SetLink (x0 : Reg) (x1 : Int) (x2 : Int) (x3 : Int) (x4 : Int) : Le (e_registry_Registry_SetLink x0 x1 x2 x3 x4) (m_registry_Registry_SetLink x0 x1 x2 x3 x4) := by
  unfold e_registry_Registry_SetLink m_registry_Registry_SetLink
  repeat' (first | apply le_registry_Registry_has | apply Le.ite | apply Le.bnd | apply Le.fin | apply Le.rng | apply Le.rngN | apply Le.lop | exact Le.rf | intro _)
noncomputable def e_slices_Reverse_Lint_int (x0 : List Int) : Option (List Int) :=
  bnd (chkI ((x0.length : Int) - 1)) fun n4 => bnd (lopE (ρ := (List Int)) (fun (s9 : (List Int) × Int × Int) => if s9.2.1 < s9.2.2 then (bnd (atI s9.1 s9.2.2) fun a31 => bnd (atI s9.1 s9.2.1) fun a43 => bnd (atI s9.1 s9.2.1) fun a55 => bnd (atI (s9.1.set (s9.2.1 : Int).toNat a31) s9.2.2) fun a69 => bnd (chkI (s9.2.1 + 1)) fun n83 => bnd (chkI (s9.2.2 - 1)) fun n86 => some (.next (((s9.1.set (s9.2.1 : Int).toNat a31).set (s9.2.2 : Int).toNat a43), n83, n86))) else (some (.brk (s9.1, s9.2.1, s9.2.2)))) (x0, 0, n4)) fun res7 => fin res7 fun (s93 : (List Int) × Int × Int) => some s93.1
theorem le_slices_Reverse_Lint_int (x0 : List Int) : Le (e_slices_Reverse_Lint_int x0) (m_slices_Reverse_Lint_int x0) := by
  unfold e_slices_Reverse_Lint_int m_slices_Reverse_Lint_int
  repeat' (first | apply Le.ite | apply Le.bnd | apply Le.fin | apply Le.rng | apply Le.rngN | apply Le.lop | exact Le.rf | intro _)
noncomputable def e_registry_Registry_Path (x0 : Reg) (x1 : Int) : Option ((List Int) × Err) :=
  bnd (e_registry_Registry_has x0 x1) fun q3 => if q3 = true then bnd (lopE (ρ := (List Int) × Err) (fun (s14 : Int × (List Int)) => bnd (atI x0.entries s14.1) fun a48 => if a48.link.parent < 0 then (bnd (e_slices_Reverse_Lint_int s14.2) fun q74 => some (.ret (q74, (⟨0⟩ : Err)))) else (bnd (appI 8 s14.2 [a48.link.op]) fun u89 => if (x0.entries.length : Int) < (u89.length : Int) then (some (.ret (([] : List Int), (⟨21⟩ : Err)))) else (some (.next (a48.link.parent, u89))))) (x1, ([] : List Int))) fun res12 => fin res12 fun (_ : Int × (List Int)) => none else some (([] : List Int), (⟨1⟩ : Err))
theorem le_registry_Registry_Path (x0 : Reg) (x1 : Int) : Le (e_registry_Registry_Path x0 x1) (m_registry_Registry_Path x0 x1) := by
  unfold e_registry_Registry_Path m_registry_Registry_Path
  repeat' (first | apply le_registry_Registry_has | apply le_slices_Reverse_Lint_int | apply Le.ite | apply Le.bnd | apply Le.fin | apply Le.rng | apply Le.rngN | apply Le.lop | exact Le.rf | intro _)
noncomputable def e_succgen_Generator_Successors (x0 : Option Gnr) (x1 : List Int) : Option (List Suc) :=
  bnd (e_succgen_Generator_Applicable x0 x1) fun q7 => bnd (rng (ρ := (List Suc)) (fun (k23 : Nat) (a24 : Int) (s21 : (List Suc)) => bnd (e_slices_Clone_Lint_int x1) fun q46 => bnd (x0) fun o56 => bnd (atI o56.t.ops a24) fun a88 => bnd (rng (ρ := Ctl (List Suc) (List Suc)) (fun (k115 : Nat) (a116 : Eff) (s113 : (List Int)) => bnd (e_task_Holds a116.cond x1) fun q150 => if q150 = true then bnd (atI s113 a116.var) fun a157 => some (.next (s113.set (a116.var : Int).toNat a116.val)) else some (.next s113)) a88.effs 0 q46) fun res111 => fin res111 fun (s175 : (List Int)) => bnd (appI 32 s21 [(⟨a24, s175⟩ : Suc)]) fun u179 => some (.next u179)) q7 0 ([] : List Suc)) fun res19 => fin res19 fun (s195 : (List Suc)) => some s195
theorem le_succgen_Generator_Successors (x0 : Option Gnr) (x1 : List Int) : Le (e_succgen_Generator_Successors x0 x1) (m_succgen_Generator_Successors x0 x1) := by
  unfold e_succgen_Generator_Successors m_succgen_Generator_Successors
  repeat' (first | apply le_slices_Clone_Lint_int | apply le_succgen_Generator_Applicable | apply le_task_Holds | apply Le.ite | apply Le.bnd | apply Le.fin | apply Le.rng | apply Le.rngN | apply Le.lop | exact Le.rf | intro _)
noncomputable def e_breadth_begin (x0 : Tsk) : Option ((Option Spc) × Err) :=
  bnd (e_succgen_New x0) fun q24 => if q24.2.n ≠ 0 then (some (none, (⟨q24.2.n⟩ : Err))) else (bnd (e_registry_New x0.vars) fun q39 => if q39.2.n ≠ 0 then (some (none, (⟨q39.2.n⟩ : Err))) else (bnd q39.1 fun o52 => bnd (e_registry_Registry_Add o52 x0.init) fun q55 => if q55.2.2.1.n ≠ 0 then (some (none, (⟨q55.2.2.1.n⟩ : Err))) else (some ((some (⟨(⟨x0.vars, x0.init, x0.goal, x0.ops⟩ : Tsk), q55.2.2.2, q24.1⟩ : Spc)), (⟨0⟩ : Err)))))
theorem le_breadth_begin (x0 : Tsk) : Le (e_breadth_begin x0) (m_breadth_begin x0) := by
  unfold e_breadth_begin m_breadth_begin
  repeat' (first | apply le_registry_New | apply le_registry_Registry_Add | apply le_succgen_New | apply Le.ite | apply Le.bnd | apply Le.fin | apply Le.rng | apply Le.rngN | apply Le.lop | exact Le.rf | intro _)
noncomputable def e_breadth_space_solved (x0 : Spc) (x1 : Int) (x2 : Int) : Option (Rsl × Err) :=
  bnd (e_registry_Registry_Path x0.reg x1) fun q36 => if q36.2.n ≠ 0 then (some ((⟨0, ([] : List Int), 0, 0⟩ : Rsl), (⟨q36.2.n⟩ : Err))) else (bnd (rng (ρ := Rsl × Err) (fun (k77 : Nat) (a78 : Int) (s75 : Int) => bnd (atI x0.t.ops a78) fun a125 => bnd (chkI (s75 + a125.cost)) fun n146 => some (.next n146)) q36.1 0 0) fun res73 => fin res73 fun (s160 : Int) => some ((⟨1, q36.1, s160, x2⟩ : Rsl), (⟨0⟩ : Err)))
theorem le_breadth_space_solved (x0 : Spc) (x1 : Int) (x2 : Int) : Le (e_breadth_space_solved x0 x1 x2) (m_breadth_space_solved x0 x1 x2) := by
  unfold e_breadth_space_solved m_breadth_space_solved
  repeat' (first | apply le_registry_Registry_Path | apply Le.ite | apply Le.bnd | apply Le.fin | apply Le.rng | apply Le.rngN | apply Le.lop | exact Le.rf | intro _)
noncomputable def e_breadth_failed (x0 : Int) (x1 : Int) : Option (Rsl × Err) :=
  some ((⟨x0, ([] : List Int), 0, x1⟩ : Rsl), (⟨0⟩ : Err))
theorem le_breadth_failed (x0 : Int) (x1 : Int) : Le (e_breadth_failed x0 x1) (m_breadth_failed x0 x1) := by
  unfold e_breadth_failed m_breadth_failed
  repeat' (first | apply Le.ite | apply Le.bnd | apply Le.fin | apply Le.rng | apply Le.rngN | apply Le.lop | exact Le.rf | intro _)
noncomputable def e_breadth_Search (x0 : Tsk) (x1 : Int) : Option (Rsl × Err) :=
  bnd (e_breadth_begin x0) fun q30 => if q30.2.n ≠ 0 then (some ((⟨0, ([] : List Int), 0, 0⟩ : Rsl), (⟨q30.2.n⟩ : Err))) else (bnd q30.1 fun o45 => bnd (lopE (ρ := Rsl × Err) (fun (s50 : Int × Spc) => bnd (e_registry_Registry_Len s50.2.reg) fun q94 => if s50.1 < q94 then (bnd (e_registry_Registry_State s50.2.reg s50.1) fun q105 => if q105.2.n ≠ 0 then (some (.ret ((⟨0, ([] : List Int), 0, 0⟩ : Rsl), (⟨q105.2.n⟩ : Err)))) else (bnd (e_task_Holds x0.goal q105.1) fun q123 => if q123 = true then bnd (e_breadth_space_solved s50.2 s50.1 s50.1) fun q312 => some (.ret (q312.1, (⟨q312.2.n⟩ : Err))) else if x1 ≤ s50.1 then (bnd (e_breadth_failed 3 s50.1) fun q131 => some (.ret (q131.1, (⟨q131.2.n⟩ : Err)))) else (bnd (e_succgen_Generator_Successors s50.2.gen q105.1) fun q153 => bnd (rng (ρ := Ctl (Int × Spc) (Rsl × Err)) (fun (k173 : Nat) (a174 : Suc) (s171 : Spc) => bnd (e_registry_Registry_Add s171.reg a174.state) fun q232 => if q232.2.2.1.n ≠ 0 then (bnd (chkI (s50.1 + 1)) fun n249 => bnd (e_breadth_failed 3 n249) fun q252 => some (.ret (.ret (q252.1, (⟨q252.2.n⟩ : Err))))) else (if q232.2.1 = true then (bnd (e_registry_Registry_SetLink q232.2.2.2 q232.1 s50.1 a174.op 0) fun q275 => if q275.1.n ≠ 0 then (some (.ret (.ret ((⟨0, ([] : List Int), 0, 0⟩ : Rsl), (⟨q275.1.n⟩ : Err))))) else (some (.next (⟨(⟨s171.t.vars, s171.t.init, s171.t.goal, s171.t.ops⟩ : Tsk), q275.2, s171.gen⟩ : Spc)))) else (some (.next (⟨(⟨s171.t.vars, s171.t.init, s171.t.goal, s171.t.ops⟩ : Tsk), q232.2.2.2, s171.gen⟩ : Spc))))) q153 0 s50.2) fun res169 => fin res169 fun (s302 : Spc) => bnd (chkI (s50.1 + 1)) fun n304 => some (.next (n304, s302))))) else (some (.brk (s50.1, s50.2)))) (0, o45)) fun res48 => fin res48 fun (s344 : Int × Spc) => bnd (e_registry_Registry_Len s344.2.reg) fun q373 => bnd (e_breadth_failed 2 q373) fun q383 => some (q383.1, (⟨q383.2.n⟩ : Err)))
theorem le_breadth_Search (x0 : Tsk) (x1 : Int) : Le (e_breadth_Search x0 x1) (m_breadth_Search x0 x1) := by
  unfold e_breadth_Search m_breadth_Search
  repeat' (first | apply le_breadth_begin | apply le_breadth_failed | apply le_breadth_space_solved | apply le_registry_Registry_Add | apply le_registry_Registry_Len | apply le_registry_Registry_SetLink | apply le_registry_Registry_State | apply le_succgen_Generator_Successors | apply le_task_Holds | apply Le.ite | apply Le.bnd | apply Le.fin | apply Le.rng | apply Le.rngN | apply Le.lop | exact Le.rf | intro _)
noncomputable def e_breadth_Uniform (x0 : Tsk) (x1 : Int) : Option (Rsl × Err) :=
  bnd (e_breadth_begin x0) fun q30 => if q30.2.n ≠ 0 then (some ((⟨0, ([] : List Int), 0, 0⟩ : Rsl), (⟨q30.2.n⟩ : Err))) else (bnd q30.1 fun o68 => bnd (lopE (ρ := Rsl × Err) (fun (s78 : (List Int) × (List Bool) × Int × Int × Spc × (BxR 98 96 Itm)) => bnd (e_breadth_queue_Len s78.2.2.2.2.2.l) fun q116 => if 0 < q116 then (bnd (e_container_heap_Pop s78.2.2.2.2.2) fun q130 => bnd (atI s78.2.1 q130.1.x.id) fun a152 => if a152 = true then (some (.next (s78.1, s78.2.1, s78.2.2.1, s78.2.2.2.1, s78.2.2.2.2.1, q130.2))) else (bnd (e_registry_Registry_State s78.2.2.2.2.1.reg q130.1.x.id) fun q191 => if q191.2.n ≠ 0 then (some (.ret ((⟨0, ([] : List Int), 0, 0⟩ : Rsl), (⟨q191.2.n⟩ : Err)))) else (bnd (e_task_Holds x0.goal q191.1) fun q209 => if q209 = true then bnd (e_breadth_space_solved s78.2.2.2.2.1 q130.1.x.id s78.2.2.2.1) fun q581 => some (.ret (q581.1, (⟨q581.2.n⟩ : Err))) else if x1 ≤ s78.2.2.2.1 then (bnd (e_breadth_failed 3 s78.2.2.2.1) fun q217 => some (.ret (q217.1, (⟨q217.2.n⟩ : Err)))) else (bnd (atI s78.2.1 q130.1.x.id) fun a239 => bnd (chkI (s78.2.2.2.1 + 1)) fun n252 => bnd (e_succgen_Generator_Successors s78.2.2.2.2.1.gen q191.1) fun q255 => bnd (rng (ρ := Ctl ((List Int) × (List Bool) × Int × Int × Spc × (BxR 98 96 Itm)) (Rsl × Err)) (fun (k275 : Nat) (a276 : Suc) (s273 : (List Int) × (List Bool) × Int × Spc × (BxR 98 96 Itm)) => bnd (e_registry_Registry_Add s273.2.2.2.1.reg a276.state) fun q346 => if q346.2.2.1.n ≠ 0 then (bnd (e_breadth_failed 3 n252) fun q363 => some (.ret (.ret (q363.1, (⟨q363.2.n⟩ : Err))))) else (bnd (atI x0.ops a276.op) fun a385 => bnd (chkI (q130.1.x.cost + a385.cost)) fun n406 => bnd (if q346.2.1 = true then (bnd (appI 8 s273.1 [n406]) fun u418 => bnd (appI 1 s273.2.1 [false]) fun u430 => some (.done (u418, u430))) else (bnd (bnd (atI s273.2.1 q346.1) fun a451 => if a451 = true then (some true) else (bnd (atI s273.1 q346.1) fun a468 => if a468 ≤ n406 then (some true) else (some false)) : Option Bool) fun y447 => if y447 = true then (some (.ret (.next (s273.1, s273.2.1, s273.2.2.1, (⟨(⟨s273.2.2.2.1.t.vars, s273.2.2.2.1.t.init, s273.2.2.2.1.t.goal, s273.2.2.2.1.t.ops⟩ : Tsk), q346.2.2.2, s273.2.2.2.1.gen⟩ : Spc), s273.2.2.2.2)))) else (some (.done (s273.1, s273.2.1)))) : Option (Fin ((List Int) × (List Bool)) (Ctl ((List Int) × (List Bool) × Int × Spc × (BxR 98 96 Itm)) (Ctl ((List Int) × (List Bool) × Int × Int × Spc × (BxR 98 96 Itm)) (Rsl × Err))))) fun y409 => fin y409 fun (s411 : (List Int) × (List Bool)) => bnd (atI s411.1 q346.1) fun a500 => bnd (e_registry_Registry_SetLink ((⟨(⟨s273.2.2.2.1.t.vars, s273.2.2.2.1.t.init, s273.2.2.2.1.t.goal, s273.2.2.2.1.t.ops⟩ : Tsk), q346.2.2.2, s273.2.2.2.1.gen⟩ : Spc).reg) q346.1 q130.1.x.id a276.op n406) fun q541 => if q541.1.n ≠ 0 then (some (.ret (.ret ((⟨0, ([] : List Int), 0, 0⟩ : Rsl), (⟨q541.1.n⟩ : Err))))) else (bnd (e_container_heap_Push s273.2.2.2.2 (⟨(⟨n406, s273.2.2.1, q346.1⟩ : Itm)⟩ : An 96 Itm)) fun q554 => bnd (chkI (s273.2.2.1 + 1)) fun n562 => some (.next ((s411.1.set (q346.1 : Int).toNat n406), s411.2, n562, (⟨(⟨(⟨(⟨s273.2.2.2.1.t.vars, s273.2.2.2.1.t.init, s273.2.2.2.1.t.goal, s273.2.2.2.1.t.ops⟩ : Tsk), q346.2.2.2, s273.2.2.2.1.gen⟩ : Spc).t.vars, (⟨(⟨s273.2.2.2.1.t.vars, s273.2.2.2.1.t.init, s273.2.2.2.1.t.goal, s273.2.2.2.1.t.ops⟩ : Tsk), q346.2.2.2, s273.2.2.2.1.gen⟩ : Spc).t.init, (⟨(⟨s273.2.2.2.1.t.vars, s273.2.2.2.1.t.init, s273.2.2.2.1.t.goal, s273.2.2.2.1.t.ops⟩ : Tsk), q346.2.2.2, s273.2.2.2.1.gen⟩ : Spc).t.goal, (⟨(⟨s273.2.2.2.1.t.vars, s273.2.2.2.1.t.init, s273.2.2.2.1.t.goal, s273.2.2.2.1.t.ops⟩ : Tsk), q346.2.2.2, s273.2.2.2.1.gen⟩ : Spc).t.ops⟩ : Tsk), q541.2, (⟨(⟨s273.2.2.2.1.t.vars, s273.2.2.2.1.t.init, s273.2.2.2.1.t.goal, s273.2.2.2.1.t.ops⟩ : Tsk), q346.2.2.2, s273.2.2.2.1.gen⟩ : Spc).gen⟩ : Spc), q554))))) q255 0 (s78.1, (s78.2.1.set (q130.1.x.id : Int).toNat true), s78.2.2.1, s78.2.2.2.2.1, q130.2)) fun res271 => fin res271 fun (s574 : (List Int) × (List Bool) × Int × Spc × (BxR 98 96 Itm)) => some (.next (s574.1, s574.2.1, s574.2.2.1, n252, s574.2.2.2.1, s574.2.2.2.2)))))) else (some (.brk (s78.1, s78.2.1, s78.2.2.1, s78.2.2.2.1, s78.2.2.2.2.1, s78.2.2.2.2.2)))) (([0] : List Int), [false], 1, 0, o68, (⟨[(⟨0, 0, 0⟩ : Itm)]⟩ : BxR 98 96 Itm))) fun res76 => fin res76 fun (s613 : (List Int) × (List Bool) × Int × Int × Spc × (BxR 98 96 Itm)) => bnd (e_breadth_failed 2 s613.2.2.2.1) fun q615 => some (q615.1, (⟨q615.2.n⟩ : Err)))
theorem le_breadth_Uniform (x0 : Tsk) (x1 : Int) : Le (e_breadth_Uniform x0 x1) (m_breadth_Uniform x0 x1) := by
  unfold e_breadth_Uniform m_breadth_Uniform
  repeat' (first | apply le_breadth_begin | apply le_breadth_failed | apply le_breadth_queue_Len | apply le_breadth_space_solved | apply le_container_heap_Pop | apply le_container_heap_Push | apply le_registry_Registry_Add | apply le_registry_Registry_SetLink | apply le_registry_Registry_State | apply le_succgen_Generator_Successors | apply le_task_Holds | apply Le.ite | apply Le.bnd | apply Le.fin | apply Le.rng | apply Le.rngN | apply Le.lop | exact Le.rf | intro _)
noncomputable def e_breadth_Reachable (x0 : Tsk) (x1 : Int) : Option (Int × Err) :=
  bnd (e_breadth_begin x0) fun q25 => if q25.2.n ≠ 0 then (some (0, (⟨q25.2.n⟩ : Err))) else (bnd q25.1 fun o38 => bnd (lopE (ρ := Int × Err) (fun (s43 : Int × Spc) => bnd (e_registry_Registry_Len s43.2.reg) fun q87 => if s43.1 < q87 then (bnd (e_registry_Registry_Len s43.2.reg) fun q98 => if x1 < q98 then (some (.ret (0, (⟨10⟩ : Err)))) else (bnd (e_registry_Registry_State s43.2.reg s43.1) fun q109 => if q109.2.n ≠ 0 then (some (.ret (0, (⟨q109.2.n⟩ : Err)))) else (bnd (e_succgen_Generator_Successors s43.2.gen q109.1) fun q125 => bnd (rng (ρ := Ctl (Int × Spc) (Int × Err)) (fun (k145 : Nat) (a146 : Suc) (s143 : Spc) => bnd (e_registry_Registry_Add s143.reg a146.state) fun q204 => if q204.2.2.1.n ≠ 0 then (some (.ret (.ret (0, (⟨10⟩ : Err))))) else (some (.next (⟨(⟨s143.t.vars, s143.t.init, s143.t.goal, s143.t.ops⟩ : Tsk), q204.2.2.2, s143.gen⟩ : Spc)))) q125 0 s43.2) fun res141 => fin res141 fun (s230 : Spc) => bnd (chkI (s43.1 + 1)) fun n232 => some (.next (n232, s230))))) else (some (.brk (s43.1, s43.2)))) (0, o38)) fun res41 => fin res41 fun (s244 : Int × Spc) => bnd (e_registry_Registry_Len s244.2.reg) fun q273 => if x1 < q273 then (some (0, (⟨10⟩ : Err))) else (bnd (e_registry_Registry_Len s244.2.reg) fun q284 => some (q284, (⟨0⟩ : Err))))
theorem le_breadth_Reachable (x0 : Tsk) (x1 : Int) : Le (e_breadth_Reachable x0 x1) (m_breadth_Reachable x0 x1) := by
  unfold e_breadth_Reachable m_breadth_Reachable
  repeat' (first | apply le_breadth_begin | apply le_registry_Registry_Add | apply le_registry_Registry_Len | apply le_registry_Registry_State | apply le_succgen_Generator_Successors | apply Le.ite | apply Le.bnd | apply Le.fin | apply Le.rng | apply Le.rngN | apply Le.lop | exact Le.rf | intro _)
noncomputable def e_base_Apply (x0 : Tsk) (x1 : List Int) (x2 : Int) : Option ((List Int) × Bool) :=
  bnd (if x2 < 0 then (some true) else (if (x0.ops.length : Int) ≤ x2 then (some true) else (bnd (atI x0.ops x2) fun a36 => bnd (e_base_Holds a36.pre x1) fun q57 => if q57 = true then some false else some true)) : Option Bool) fun y28 => if y28 = true then (some (([] : List Int), false)) else (bnd (appI 8 ([] : List Int) x1) fun u75 => bnd (atI x0.ops x2) fun a86 => bnd (rng (ρ := (List Int) × Bool) (fun (k113 : Nat) (a114 : Eff) (s111 : (List Int)) => bnd (e_base_Holds a114.cond x1) fun q148 => if q148 = true then bnd (atI s111 a114.var) fun a155 => some (.next (s111.set (a114.var : Int).toNat a114.val)) else some (.next s111)) a86.effs 0 u75) fun res109 => fin res109 fun (s173 : (List Int)) => some (s173, true))
theorem le_base_Apply (x0 : Tsk) (x1 : List Int) (x2 : Int) : Le (e_base_Apply x0 x1 x2) (m_base_Apply x0 x1 x2) := by
  unfold e_base_Apply m_base_Apply
  repeat' (first | apply le_base_Holds | apply Le.ite | apply Le.bnd | apply Le.fin | apply Le.rng | apply Le.rngN | apply Le.lop | exact Le.rf | intro _)
noncomputable def e_base_Cost (x0 : Tsk) (x1 : List Int) (x2 : List Int) : Option (Int × Bool) :=
  bnd (rng (ρ := Int × Bool) (fun (k36 : Nat) (a37 : Int) (s34 : (List Int) × Int) => bnd (e_base_Apply x0 s34.1 a37) fun q59 => if (!q59.2) = true then (some (.ret (0, false))) else (bnd (atI x0.ops a37) fun a73 => bnd (chkI (s34.2 + a73.cost)) fun n94 => some (.next (q59.1, n94)))) x2 0 (x1, 0)) fun res32 => fin res32 fun (s101 : (List Int) × Int) => bnd (bnd (e_base_Holds x0.goal s101.1) fun q107 => if q107 = true then some true else some false : Option Bool) fun y103 => some (s101.2, y103)
theorem le_base_Cost (x0 : Tsk) (x1 : List Int) (x2 : List Int) : Le (e_base_Cost x0 x1 x2) (m_base_Cost x0 x1 x2) := by
  unfold e_base_Cost m_base_Cost
  repeat' (first | apply le_base_Apply | apply le_base_Holds | apply Le.ite | apply Le.bnd | apply Le.fin | apply Le.rng | apply Le.rngN | apply Le.lop | exact Le.rf | intro _)
noncomputable def e_base_Result (x0 : Tsk) (x1 : Rsl) (x2 : Int) : Option Bool :=
  if 1125899906842624 ≤ x2 then (bnd (if x1.verdict = 2 then (if (x1.plan.length : Int) = 0 then (if x1.cost = 0 then (some true) else (some false)) else (some false)) else (some false) : Option Bool) fun y40 => some y40) else (bnd (e_base_Cost x0 x0.init x1.plan) fun q53 => bnd (if x1.verdict = 1 then (if q53.2 = true then (if q53.1 = x2 then (if x1.cost = x2 then (some true) else (some false)) else (some false)) else (some false)) else (some false) : Option Bool) fun y65 => some y65)
theorem le_base_Result (x0 : Tsk) (x1 : Rsl) (x2 : Int) : Le (e_base_Result x0 x1 x2) (m_base_Result x0 x1 x2) := by
  unfold e_base_Result m_base_Result
  repeat' (first | apply le_base_Cost | apply Le.ite | apply Le.bnd | apply Le.fin | apply Le.rng | apply Le.rngN | apply Le.lop | exact Le.rf | intro _)
noncomputable def e_law48_example : Option Tsk := m_law48_example
theorem le_law48_example : Le e_law48_example m_law48_example := Le.rf
noncomputable def e_law48_awake  : Option Bool :=
  bnd (e_law48_example) fun q1 => bnd (e_breadth_Search q1 100) fun q25 => bnd (e_law48_example) fun q52 => bnd (e_breadth_Uniform q52 100) fun q76 => bnd (e_law48_example) fun q103 => bnd (e_breadth_Reachable q103 100) fun q127 => bnd (if q25.2.n = 0 then (if q76.2.n = 0 then (if q127.2.n = 0 then (bnd (e_base_Ints q25.1.plan ([3] : List Int)) fun q153 => if q153 = true then if q25.1.cost = 5 then (if q25.1.expanded = 2 then (bnd (e_law48_example) fun q162 => bnd (e_base_Result q162 q76.1 3) fun q186 => if q186 = true then if q127.1 = 4 then (some true) else (some false) else some false) else (some false)) else (some false) else some false) else (some false)) else (some false)) else (some false) : Option Bool) fun y140 => some y140
theorem le_law48_awake  : Le (e_law48_awake ) (m_law48_awake ) := by
  unfold e_law48_awake m_law48_awake
  repeat' (first | apply le_base_Ints | apply le_base_Result | apply le_breadth_Reachable | apply le_breadth_Search | apply le_breadth_Uniform | apply le_law48_example | apply Le.ite | apply Le.bnd | apply Le.fin | apply Le.rng | apply Le.rngN | apply Le.lop | exact Le.rf | intro _)
set_option maxRecDepth 100000 in
theorem awake48 : m_law48_awake = some true := le_law48_awake true (by kernel_rfl)
end
section
open Go Go.RowKit
noncomputable def rcF (x0 : Tsk) (x1 : Int) : (Int × Spc) → Option (Ctl (Int × Spc) (Int × Err)) := fun (s43 : Int × Spc) => bnd (m_registry_Registry_Len s43.2.reg) fun q87 => if s43.1 < q87 then (bnd (m_registry_Registry_Len s43.2.reg) fun q98 => if x1 < q98 then (some (.ret (0, (⟨10⟩ : Err)))) else (bnd (m_registry_Registry_State s43.2.reg s43.1) fun q109 => if q109.2.n ≠ 0 then (some (.ret (0, (⟨q109.2.n⟩ : Err)))) else (bnd (m_succgen_Generator_Successors s43.2.gen q109.1) fun q125 => bnd (rng (ρ := Ctl (Int × Spc) (Int × Err)) (fun (k145 : Nat) (a146 : Suc) (s143 : Spc) => bnd (m_registry_Registry_Add s143.reg a146.state) fun q204 => if q204.2.2.1.n ≠ 0 then (some (.ret (.ret (0, (⟨10⟩ : Err))))) else (some (.next (⟨(⟨s143.t.vars, s143.t.init, s143.t.goal, s143.t.ops⟩ : Tsk), q204.2.2.2, s143.gen⟩ : Spc)))) q125 0 s43.2) fun res141 => fin res141 fun (s230 : Spc) => bnd (chkI (s43.1 + 1)) fun n232 => some (.next (n232, s230))))) else (some (.brk (s43.1, s43.2)))
noncomputable def rcE (x0 : Tsk) (x1 : Int) : Fin (Int × Spc) (Int × Err) → Option (Int × Err) := fun res41 => fin res41 fun (s244 : Int × Spc) => bnd (m_registry_Registry_Len s244.2.reg) fun q273 => if x1 < q273 then (some (0, (⟨10⟩ : Err))) else (bnd (m_registry_Registry_Len s244.2.reg) fun q284 => some (q284, (⟨0⟩ : Err)))
theorem rc_unf (x0 : Tsk) (x1 : Int) : m_breadth_Reachable x0 x1 = bnd (m_breadth_begin x0) fun q25 => if q25.2.n ≠ 0 then (some (0, (⟨q25.2.n⟩ : Err))) else (bnd q25.1 fun o38 => bnd (lop (rcF x0 x1) (0, o38)) (rcE x0 x1)) := rfl
theorem rcInn {t : Tsk} (hs : SmallOk t) {i : Nat} {lp : LP} {s p : List Int} (h : BI t i lp) (his : lp.1[i]? = some s) (hip : lp.2[i]? = some p) {x : Spc} (hx : SQ t lp.1 x) : ∃ x', rng (ρ := Ctl (Int × Spc) (Int × Err)) (fun (_ : Nat) (a146 : Suc) (s143 : Spc) => bnd (m_registry_Registry_Add s143.reg a146.state) fun q204 => if q204.2.2.1.n ≠ 0 then (some (.ret (.ret (0, (⟨10⟩ : Err))))) else (some (.next (⟨(⟨s143.t.vars, s143.t.init, s143.t.goal, s143.t.ops⟩ : Tsk), q204.2.2.2, s143.gen⟩ : Spc)))) ((appS t s).map (sucOf t s)) 0 x = some (.done x') ∧ SQ t (expN t s i t.ops.length lp).1 x' := by
  have hsok := (h.rch his).ok hs.ok
  have hap : (appS t s).map (sucOf t s) = (appN t s t.ops.length).map fun k : Nat => (⟨(k : Int), sucN t s k⟩ : Suc) := by
    rw [appS_ok hsok, appl_N, List.map_map]; rfl
  rw [hap]
  obtain ⟨x', h1, h2⟩ := rng_all (ρ := Ctl (Int × Spc) (Int × Err)) (f := fun (_ : Nat) (a146 : Suc) (s143 : Spc) => bnd (m_registry_Registry_Add s143.reg a146.state) fun q204 => if q204.2.2.1.n ≠ 0 then (some (.ret (.ret (0, (⟨10⟩ : Err))))) else (some (.next (⟨(⟨s143.t.vars, s143.t.init, s143.t.goal, s143.t.ops⟩ : Tsk), q204.2.2.2, s143.gen⟩ : Spc)))) (xs := (appN t s t.ops.length).map fun k : Nat => (⟨(k : Int), sucN t s k⟩ : Suc)) (s₀ := x) (fun j y => SQ t (((appN t s t.ops.length).take j).foldl (addK t s i) lp).1 y) (by simpa using hx) (fun j a y hj hy => by
    rw [List.getElem?_map] at hj
    obtain ⟨k, hk, rfl⟩ := Option.map_eq_some_iff.1 hj
    obtain ⟨t1, t2⟩ := appN_take hk
    rw [t1] at hy
    change SQ t (expN t s i k lp).1 y at hy
    have hJ := h.part his hip k
    obtain ⟨o, ho, hpre, hsuc⟩ := appB_some t2
    have hso : StateOk t.vars (sucN t s k) := by rw [hsuc]; exact succ_ok hs.ok hsok ho
    have hfew : (expN t s i k lp).1.length ≤ 512 := by
      refine Nat.le_trans (nodup_len hJ.nodup fun s' hm => ?_) hs.many
      obtain ⟨j, hj⟩ := List.getElem?_of_mem hm
      exact mem_statesL.2 (hy.reg.st j s' hj)
    have e : (((appN t s t.ops.length).take (j + 1)).foldl (addK t s i) lp) = addK t s i (expN t s i k lp) k := by
      rw [List.take_add_one, hk, List.foldl_append, t1]; rfl
    rw [e]
    dsimp only
    unfold addK
    rcases regAdd_eq hs.ok.1 hy.reg hso (by omega) with ⟨j', hj', hadd⟩ | ⟨hno, r', hadd, hr', hlk⟩
    · rw [if_pos (List.mem_of_getElem? hj'), hadd, bnd_some, if_neg (by simp)]
      exact ⟨_, rfl, hy⟩
    · have hnm : ¬ sucN t s k ∈ (expN t s i k lp).1 := fun hm => by
        obtain ⟨j, hj⟩ := List.getElem?_of_mem hm
        exact hno j hj
      rw [if_neg hnm, hadd, bnd_some, if_neg (by simp)]
      exact ⟨_, rfl, hy.tt, hy.gen, hr'⟩)
  refine ⟨x', h1, ?_⟩
  rw [List.length_map, List.take_length] at h2
  exact h2
theorem rc_run {t : Tsk} (hs : SmallOk t) (lim : Int) : ∀ (n i : Nat) (lp : LP) (x : Spc), 513 - i ≤ n → i ≤ lp.1.length → BI t i lp → SQ t lp.1 x → ∃ L : List (List Int), L.Nodup ∧ (∀ s ∈ L, Rch t s) ∧ ((lim < (L.length : Int) ∧ bnd (lop (rcF t lim) ((i : Int), x)) (rcE t lim) = some (0, ⟨10⟩)) ∨ ((L.length : Int) ≤ lim ∧ (∀ s, Rch t s → s ∈ L) ∧ bnd (lop (rcF t lim) ((i : Int), x)) (rcE t lim) = some ((L.length : Int), ⟨0⟩))) := by
  have hok := hs.ok
  intro n
  induction n with
  | zero => intro i lp x hn hi h; have := h.few hs; omega
  | succ n ih =>
    intro i lp x hn hi h hx
    have hf := h.few hs
    have hall : ∀ s ∈ lp.1, Rch t s := fun s hm => by obtain ⟨j, hj⟩ := List.getElem?_of_mem hm; exact h.rch hj
    by_cases he : i = lp.1.length
    · have : rcF t lim ((i : Int), x) = some (.brk ((i : Int), x)) := by
        unfold rcF m_registry_Registry_Len
        dsimp only
        rw [bnd_some, hx.reg.len, if_neg (by omega)]
      rw [lop_eq, this, bnd_some]
      refine ⟨lp.1, h.nodup, hall, ?_⟩
      unfold rcE m_registry_Registry_Len
      rw [fin_d, bnd_some, hx.reg.len, bnd_some]
      by_cases hl : lim < (lp.1.length : Int)
      · exact .inl ⟨hl, by rw [if_pos hl]⟩
      · refine .inr ⟨by omega, fun s hr => ?_, by rw [if_neg hl]⟩
        obtain ⟨p, C, hp⟩ := hr.plan
        subst he
        exact h.all hp
    obtain ⟨s, hsi⟩ := some_of_lt (l := lp.1) (k := i) (by omega)
    obtain ⟨p, hpi⟩ := some_of_lt (l := lp.2) (k := i) (by rw [h.len]; omega)
    by_cases hl : lim < (lp.1.length : Int)
    · have : rcF t lim ((i : Int), x) = some (.ret (0, ⟨10⟩)) := by
        unfold rcF m_registry_Registry_Len
        dsimp only
        rw [bnd_some, hx.reg.len, if_pos (by omega), bnd_some, if_pos hl]
      rw [lop_eq, this, bnd_some]
      exact ⟨lp.1, h.nodup, hall, .inl ⟨hl, rfl⟩⟩
    · obtain ⟨x', e1, e2⟩ := rcInn hs h hsi hpi hx
      have : rcF t lim ((i : Int), x) = some (.next (((i + 1 : Nat) : Int), x')) := by
        unfold rcF m_registry_Registry_Len
        dsimp only
        rw [bnd_some, hx.reg.len, if_pos (by omega), bnd_some, if_neg hl, regState_eq hok.1 hx.reg hsi, bnd_some, if_neg (by simp), hx.gen, succ_eq hok (state_len hok ((h.rch hsi).ok hok)), bnd_some, e1, bnd_some, fin_d, chkI_eq (by unfold inI64; omega), bnd_some]
        rfl
      have hJ := h.part hsi hpi t.ops.length
      obtain ⟨A, hA⟩ := hJ.pre1
      rw [lop_eq, this]
      exact ih (i + 1) (expN t s i t.ops.length lp) x' (by omega) (by rw [hA]; simp; omega) (h.next hsi hpi) e2
theorem reach_eq {t : Tsk} (hs : SmallOk t) (lim : Int) : ∃ L : List (List Int), L.Nodup ∧ (∀ s ∈ L, Rch t s) ∧ ((lim < (L.length : Int) ∧ m_breadth_Reachable t lim = some (0, ⟨10⟩)) ∨ ((L.length : Int) ≤ lim ∧ (∀ s, Rch t s → s ∈ L) ∧ m_breadth_Reachable t lim = some ((L.length : Int), ⟨0⟩))) := by
  obtain ⟨reg, b1, b2, b3⟩ := begin_ok hs.ok
  have unf : m_breadth_Reachable t lim = bnd (lop (rcF t lim) (((0 : Nat) : Int), (⟨t, reg, some ⟨t⟩⟩ : Spc))) (rcE t lim) := by
    rw [rc_unf, b1, bnd_some, if_neg (by simp), bnd_some]; rfl
  rw [unf]
  exact rc_run hs lim 513 0 ([t.init], [[]]) _ (by omega) (by simp) (bi_init t) ⟨rfl, rfl, b2⟩
theorem breachable_eq (t : Tsk) (lim : Int) : m_law48_BreadthReachable t lim = some true := by
  unfold m_law48_BreadthReachable m_base_Small
  rw [bnd_some, awake48, bnd_some, if_t]
  by_cases hs : SmallOk t
  case neg => rw [bof_f hs, if_f, bnd_some, if_t, bnd_some, if_t, bnd_some]
  rw [bof_t hs, if_t, bnd_some, if_f]
  obtain ⟨bs, g1, g2⟩ := reached_eq hs
  obtain ⟨L, l1, l2, l3⟩ := reach_eq hs lim
  have hml := hs.many
  have hbl := g2.1
  have hmk := marked_len (statesL t.vars) bs hbl
  have hle : L.length ≤ cnt bs := by
    rw [← hmk]
    refine nodup_len l1 fun s hm => ?_
    have hr := l2 s hm
    obtain ⟨i, hi⟩ := List.getElem?_of_mem (mem_statesL.2 (hr.ok hs.ok))
    exact mem_marked hi ((g2.2 i s hi).2 hr)
  have hcl := cnt_le bs
  rw [g1, bnd_some, cnt_loop (by omega), bnd_some, fin_d]
  rcases l3 with ⟨h1, h2⟩ | ⟨h1, h2, h3⟩
  · have is10 : m_base_Is ⟨10⟩ 10 = some true := rfl
    rw [h2, bnd_some, if_pos (by omega), if_pos rfl, is10, bnd_some, if_t, bnd_some]
  · have hge : cnt bs ≤ L.length := by
      rw [← hmk]
      refine nodup_len ((statesL_nodup hs.ok).sublist (marked_sub _ _)) fun s hm => ?_
      obtain ⟨i, hi, hb⟩ := marked_mem hm
      exact h2 s ((g2.2 i s hi).1 hb)
    rw [h3, bnd_some, if_neg (by omega), if_pos rfl, if_pos (by simp; omega), bnd_some]
end
section
open Go Go.RowKit Go.ChangeShapes Go.WideShapes Go.Deep
theorem lawBReachable {w : World} {v0 : Value} {a0 : Tsk} (h0 : V w v0 a0) {v1 : Value} {a1 : Int} (h1 : V w v1 a1) : Fn Try.prog 7 [v0, v1] w fun v w' => v = .bool true ∧ Ext w w' := by
  obtain ⟨rfl, r1⟩ := Vb.int h1
  exact (c_law48_BreadthReachable (fun _ h => h) h0 r1 (breachable_eq a0 a1)).mono fun _ _ h => ⟨h.2.bool, h.1⟩
set_option maxRecDepth 100000 in
theorem breadthReachable_lifted (os : Os) (started : os.Started) (H : Type) (enc : TypeId × Value → H) :
    ReturnsInHanded {} Try.checked os 7 .any (Rows.breadthReachableSpec.pre6 enc Try.prog Try.f7 Rows.breadthReachableRow.domain false) (Rows.breadthReachableSpec.post enc Try.prog Try.f7 false true false false) := by
  refine returnsInHanded_of_change (C := Try.checked) ownTry started (by kernel_rfl) Try.func7 (ChangeSpec.witness6 (enc := enc) (C := Try.checked) false ⟨#[], #[(.agg #[.slice none 0 0, .slice none 0 0, .slice none 0 0, .slice none 0 0]), (.int .i64 0)], []⟩ 8 (by kernel_rfl) (by kernel_rfl) (by kernel_rfl) (by kernel_rfl)) ?_
  intro W base args ds gs before hval hW _ _
  have hopen : ∀ p, DataW.TrodAll enc Try.prog W 0 (fun _ => true) true Try.f7.params.toList args.toList ds p → ∃ v0 v1 d0 d1, args = #[v0, v1] ∧ ds = [d0, d1] ∧ (∃ a : Tsk, V W v0 a) ∧ (∃ a : Int, V W v1 a) := by
    intro p hA
    rw [Try.params7] at hA
    replace hval : ∀ (j : Nat) t v, (#[26, 3] : Array TypeId)[j]? = some t → args[j]? = some v → Value.okWide Try.prog W .any base t v := by rw [← Try.params7]; exact hval
    obtain ⟨v0, vs0, d0, ds0, p0, q0, g0, e0, _, h0, r0⟩ := trodAll_cons hA
    obtain ⟨v1, vs1, d1, ds1, p1, q1, g1, e1, _, h1, r1⟩ := trodAll_cons r0
    obtain ⟨g, e, _⟩ := trodAll_nil r1
    rw [g] at g1; rw [e] at e1
    rw [g1] at g0; rw [e1] at e0
    obtain rfl : args = #[v0, v1] := by cases args; simp_all
    exact ⟨v0, v1, d0, d1, rfl, e0, (by first | exact openAgg rfl (hval 0 26 v0 rfl rfl) h0 | exact openOne rfl (hval 0 26 v0 rfl rfl) h0), (by first | exact openAgg rfl (hval 1 3 v1 rfl rfl) h1 | exact openOne rfl (hval 1 3 v1 rfl rfl) h1)⟩
  refine lawPost rfl (by kernel_rfl) (by rw [Try.params7]; exact of_decide_eq_true (by kernel_rfl)) hW ?_ ?_
  · intro p hA
    obtain ⟨v0, v1, d0, d1, _, rfl, _⟩ := hopen p hA
    rfl
  · intro p hA
    obtain ⟨v0, v1, d0, d1, rfl, _, ⟨a0, h0⟩, ⟨a1, h1⟩⟩ := hopen p hA
    exact lawBReachable h0 h1
theorem breadthReachable_holds : Rows.BreadthReachableSaid :=
  OpenClaim.holds_of_wide 7 Try.f7 rfl rfl rfl rfl rfl rfl rfl ⟨rfl, rfl, rfl, rfl, rfl⟩ rfl rfl rfl rfl rfl (by kernel_rfl) Try.func7 (by kernel_rfl)
    (of_decide_eq_true (by kernel_rfl)) (by unfold Func.isWrapper; first | (rw [if_pos (by decide +kernel)]; kernel_rfl) | (rw [if_neg (by decide +kernel)]; exact ⟨rfl, rfl⟩))
    (fun os started H enc _ => breadthReachable_lifted os started H enc)
#print axioms breadthReachable_holds
end
end Go.Proofs.Ythomfnkaicjmbaa

/- StubbornSafe returns true for every task, and it reads behind the call as before. No conditions. -/
import Derived.Test.YtgnmjmcjadpmhaaPSafD
import Derived.Test.YtgnmjmcjadpmhaaRows
namespace Go.Proofs.Ytgnmjmcjadpmhaa
open Go Go.RowKit
section
open Go Go.RowKit
attribute [local irreducible] ewp owp hwp hwq Ev Evg Fn retPost Res1
attribute [local irreducible] hwx loudX
noncomputable def m_task_apply (x0 : Tsk) (x1 : List Int) (x2 : Int) : Option ((List Int) × Err) :=
  bnd (if x2 < 0 then (some true) else (if (x0.ops.length : Int) ≤ x2 then (some true) else (some false)) : Option Bool) fun y28 => if y28 = true then (some (([] : List Int), (⟨1⟩ : Err))) else (bnd (m_task_Proper x0.vars x1) fun q41 => if q41 = true then bnd (atI x0.ops x2) fun a48 => bnd (m_task_Holds a48.pre x1) fun q69 => if q69 = true then bnd (m_slices_Clone_Lint_int x1) fun q76 => bnd (atI x0.ops x2) fun a86 => bnd (rng (ρ := (List Int) × Err) (fun (k113 : Nat) (a114 : Eff) (s111 : (List Int)) => bnd (m_task_Holds a114.cond x1) fun q148 => if q148 = true then bnd (atI s111 a114.var) fun a155 => some (.next (s111.set (a114.var : Int).toNat a114.val)) else some (.next s111)) a86.effs 0 q76) fun res109 => fin res109 fun (s173 : (List Int)) => some (s173, (⟨0⟩ : Err)) else some (([] : List Int), (⟨12⟩ : Err)) else some (([] : List Int), (⟨2⟩ : Err)))
theorem c_task_apply {w : World} {A : Nat → Prop} (hA : ∀ k, A k → k < w.heap.size) {vx0 : Value} {x0 : Tsk} (hx0 : Vb w A vx0 x0) {vx1 : Value} {x1 : List Int} (hx1 : Vb w A vx1 x1) {x2 : Int} (rx2 : inI64 x2) {r : (List Int) × Err} (hm : m_task_apply x0 x1 x2 = some r) :
    Fn Try.prog 103 [vx0, vx1, (.int .i64 x2)] w fun v w' => Ext w w' ∧ T2 w' (upA A w w') v r := by
 obtain ⟨O, hB, hA0⟩ := enter hA
 replace hx0 := hx0.mono hA0
 obtain ⟨cs4, rfl, v5, v6, v7, v8, rfl, h9, h12, h15, h18⟩ := hx0
 obtain ⟨A10, c11, rfl⟩ := h9.form
 obtain ⟨A13, c14, rfl⟩ := h12.form
 obtain ⟨A16, c17, rfl⟩ := h15.form
 obtain ⟨A19, c20, rfl⟩ := h18.form
 replace hx1 := hx1.mono hA0
 obtain ⟨A21, c22, rfl⟩ := hx1.form
 refine fn_enter Try.func103 rfl Try.ntmps103 rfl ?_
 unfold m_task_apply at hm
 refine ewp_seq (ewp_region (l_box 2 O rfl rfl fun g23 w24 O25 S26 h27 => ?_))
 replace h27 : Lc 2 w24 O25 g23 26 [(.slice A10 x0.vars.length c11), (.slice A13 x0.init.length c14), (.slice A16 x0.goal.length c17), (.slice A19 x0.ops.length c20)] := h27
 refine o_as rfl rfl (o_as rfl rfl (o_z ?_))
 refine ewp_seq (ewp_block (ewp_seq ?_))
 obtain ⟨y28, hy29, hm⟩ := bs hm
 refine ewp_join (fun l' w' => ∃ (x31 : Unit) (O' : Lab), subs l' [(1, (.slice A21 x1.length c22)), (2, (.int .i64 x2)), (3, (.pointer (some ⟨g23, 0, none⟩))), (11, (.bool y28))] ∧ Bs w A w' O' ∧ Vb w' (Fr 0 w' O') (.slice A21 x1.length c22) x1 ∧ Lc 2 w' O' g23 26 [(.slice A10 x0.vars.length c11), (.slice A13 x0.init.length c14), (.slice A16 x0.goal.length c17), (.slice A19 x0.ops.length c20)] ∧ Vb w' (Fr 0 w' O') (.slice A10 x0.vars.length c11) x0.vars ∧ Vb w' (Fr 0 w' O') (.slice A13 x0.init.length c14) x0.init ∧ Vb w' (Fr 0 w' O') (.slice A16 x0.goal.length c17) x0.goal ∧ Vb w' (Fr 0 w' O') (.slice A19 x0.ops.length c20) x0.ops) ?_ ?_
 ·
  refine ewp_region (o_mv rfl rfl (o_ltS rfl rfl rfl (fun c32 => ?_) fun c32 => ?_))
  ·
   replace hy29 := ip hy29 c32
   refine o_mv rfl rfl (owp_no rfl rfl rfl rfl (owp_no rfl rfl rfl rfl (owp_no rfl rfl rfl rfl (owp_no rfl rfl rfl rfl (owp_no rfl rfl rfl rfl (o_pt rfl rfl rfl (o_as rfl rfl (o_z ?_))))))))
   obtain rfl := sm hy29
   replace hB := hB.st S26
   replace hx1 := hx1.st S26
   replace h9 := h9.st S26
   replace h12 := h12.st S26
   replace h15 := h15.st S26
   replace h18 := h18.st S26
   exact ⟨(), _, ⟨rfl, rfl, rfl, rfl, trivial⟩, hB, hx1, h27, h9, h12, h15, h18⟩
  ·
   replace hy29 := im hy29 c32
   refine o_mv rfl rfl (owp_yes rfl rfl (o_mv rfl rfl (owp_yes rfl rfl (o_fa rfl rfl (owp_yes rfl rfl (o_ld (hc := Blk.cell (i := 3) (h27.1) rfl) rfl rfl ?_))))))
   refine owp_yes rfl rfl (o_ln rfl rfl ?_)
   replace h18 := h18.st S26
   have l34 : x0.ops.length ≤ 9223372036854775807 := Nat.le_trans h18.len.2.1 h18.len.2.2
   have r33 : inI64 (x0.ops.length : Int) := rngNat l34
   refine owp_yes rfl rfl (o_geS rfl rfl rfl (fun c35 => ?_) fun c35 => ?_)
   ·
    replace hy29 := ip hy29 c35
    refine o_pf rfl rfl rfl (o_as rfl rfl (o_z ?_))
    obtain rfl := sm hy29
    replace hB := hB.st S26
    replace hx1 := hx1.st S26
    replace h9 := h9.st S26
    replace h12 := h12.st S26
    replace h15 := h15.st S26
    exact ⟨(), _, ⟨rfl, rfl, rfl, rfl, trivial⟩, hB, hx1, h27, h9, h12, h15, h18⟩
   ·
    replace hy29 := im hy29 c35
    refine o_pf rfl rfl rfl (o_as rfl rfl (o_z ?_))
    obtain rfl := sm hy29
    replace hB := hB.st S26
    replace hx1 := hx1.st S26
    replace h9 := h9.st S26
    replace h12 := h12.st S26
    replace h15 := h15.st S26
    exact ⟨(), _, ⟨rfl, rfl, rfl, rfl, trivial⟩, hB, hx1, h27, h9, h12, h15, h18⟩
 replace hB := hB.st S26
 replace hx1 := hx1.st S26
 replace h9 := h9.st S26
 replace h12 := h12.st S26
 replace h15 := h15.st S26
 replace h18 := h18.st S26
 rintro l36 w37 ⟨x31, O38, hs39, hB, hx1, h27, h9, h12, h15, h18⟩
 refine ewp_sub _ hs39 ?_
 refine ewp_cond rfl (fun c40 => ?_) (fun c40 => ?_)
 ·
  replace hm := ip hm c40
  refine ewp_seq (ewp_region (o_miE rfl rfl ?_))
  refine o_as rfl rfl (o_as rfl rfl (o_z ?_))
  refine ewp_ret ?_
  obtain rfl := sm hm
  exact ret2 rfl (res_tmp rfl) (res_tmp rfl) ⟨hB.ext, _, _, rfl, (Vb.mono (F := Fr 0 w37 O38) (Vb.nil _ _) hB.out), (vErr (by decide))⟩
 ·
  replace hm := im' hm c40
  refine ewp_seq (ewp_region (o_fa rfl rfl (o_ld (hc := Blk.cell (i := 0) (h27.1) rfl) rfl rfl ?_)))
  refine o_mv rfl rfl ?_
  obtain ⟨q41, e42, hm⟩ := bs hm
  refine l_callA (O := O38) (A := All w37) (R := fun w' F v => Vb w' F v q41) (c_task_Proper (fun _ h => h) (Vb.mono (F := Fr 0 w37 O38) h9 Fr.lt) (Vb.mono (F := Fr 0 w37 O38) hx1 Fr.lt) e42) rfl rfl fun v47 w43 O44 S45 h46 => ?_
  obtain rfl := h46.bool
  cases q41
  case false =>
   replace hm := iF hm
   refine o_nf rfl rfl (o_as rfl rfl (o_z ?_))
   refine ewp_true rfl (ewp_seq (ewp_region (o_miE rfl rfl ?_)))
   refine o_as rfl rfl (o_as rfl rfl (o_z ?_))
   refine ewp_ret ?_
   obtain rfl := sm hm
   replace hB := hB.st S45
   exact ret2 rfl (res_tmp rfl) (res_tmp rfl) ⟨hB.ext, _, _, rfl, (Vb.mono (F := Fr 0 w43 O44) (Vb.nil _ _) hB.out), (vErr (by decide))⟩
  replace hm := iT hm
  refine o_nt rfl rfl (o_as rfl rfl (o_z ?_))
  refine ewp_false rfl (ewp_seq (ewp_region (o_fa rfl rfl ?_)))
  replace h27 := h27.st S45
  refine o_ld (hc := Blk.cell (i := 3) (h27.1) rfl) rfl rfl ?_
  refine o_mv rfl rfl ?_
  obtain ⟨a48, e49, hm⟩ := bs hm
  obtain ⟨p51, x50⟩ := atI_some' e49
  replace h18 := h18.st S45
  obtain ⟨b52, o53, ce54, hA55, hl56, hd57, v59, v60, rfl, h61, h64, r67, z68⟩ := h18.elem' x50
  obtain ⟨A62, c63, rfl⟩ := h61.form
  obtain ⟨A65, c66, rfl⟩ := h64.form
  refine o_iaE (hA := hA55) (hj := (Int.toNat_of_nonneg p51).symm) (hlt := hl56) rfl rfl rfl ?_
  refine o_fa rfl rfl (o_ld (hc := cat2 hd57) rfl rfl ?_)
  refine o_mv rfl rfl ?_
  obtain ⟨q69, e70, hm⟩ := bs hm
  replace hx1 := hx1.st S45
  refine l_callA (O := O44) (A := All w43) (R := fun w' F v => Vb w' F v q69) (c_task_Holds (fun _ h => h) (Vb.mono (F := Fr 0 w43 O44) h61 Fr.lt) (Vb.mono (F := Fr 0 w43 O44) hx1 Fr.lt) e70) rfl rfl fun v75 w71 O72 S73 h74 => ?_
  obtain rfl := h74.bool
  cases q69
  case false =>
   replace hm := iF hm
   refine o_nf rfl rfl (o_as rfl rfl (o_z ?_))
   refine ewp_true rfl (ewp_seq (ewp_region (o_miE rfl rfl ?_)))
   refine o_as rfl rfl (o_as rfl rfl (o_z ?_))
   refine ewp_ret ?_
   obtain rfl := sm hm
   replace hB := (hB.st S45).st S73
   exact ret2 rfl (res_tmp rfl) (res_tmp rfl) ⟨hB.ext, _, _, rfl, (Vb.mono (F := Fr 0 w71 O72) (Vb.nil _ _) hB.out), (vErr (by decide))⟩
  replace hm := iT hm
  refine o_nt rfl rfl (o_as rfl rfl (o_z ?_))
  refine ewp_false rfl (ewp_skip (ewp_seq (ewp_region (o_mv rfl rfl ?_))))
  obtain ⟨q76, e77, hm⟩ := bs hm
  replace hx1 := hx1.st S73
  refine l_callRow 3 (by decide) (O := O72) (c_slices_Clone_Lint_int Fr.lt hx1 e77) rfl rfl fun A83 c84 w78 O79 S80 h81 => ?_
  refine o_as rfl rfl (o_z ?_)
  refine ewp_seq (ewp_seq (ewp_region (o_fa rfl rfl ?_)))
  replace h27 := (h27.st S73).st S80
  refine o_ld (hc := Blk.cell (i := 3) (h27.1) rfl) rfl rfl ?_
  refine o_mv rfl rfl ?_
  obtain ⟨a86, e87, hm⟩ := bs hm
  obtain ⟨p89, x88⟩ := atI_some' e87
  replace h18 := (h18.st S73).st S80
  obtain ⟨b90, o91, ce92, hA93, hl94, hd95, v97, v98, rfl, h99, h102, r105, z106⟩ := h18.elem' x88
  obtain ⟨A100, c101, rfl⟩ := h99.form
  obtain ⟨A103, c104, rfl⟩ := h102.form
  refine o_iaE (hA := hA93) (hj := (Int.toNat_of_nonneg p89).symm) (hlt := hl94) rfl rfl rfl ?_
  refine o_fa rfl rfl (o_ld (hc := cat3 hd95) rfl rfl ?_)
  refine o_ln rfl rfl ?_
  have l108 : a86.effs.length ≤ 9223372036854775807 := Nat.le_trans h102.len.2.1 h102.len.2.2
  have r107 : inI64 (a86.effs.length : Int) := rngNat l108
  refine o_mv rfl rfl (o_z ?_)
  obtain ⟨res109, hL110, hm⟩ := bs hm
  refine ewp_join (aft res109 (fun (s111 : (List Int)) (x112 : Unit) => [(8, (.slice A83 q76.length c84))]) (fun s111 x112 w' => ∃ O' : Lab, Bs w A w' O' ∧ Rw 3 w' O' 3 (.slice A83 q76.length c84) s111)) ?_ ?_
  ·
   refine ewp_block ?_
   replace hB := ((hB.st S45).st S73).st S80
   replace hx1 := hx1.st S80
   refine ewp_rng (σ := (List Int)) (X := Unit) (a86.effs.length) hL110 rfl l108 (fun (s111 : (List Int)) (x112 : Unit) => [(1, (.slice A21 x1.length c22)), (8, (.slice A83 q76.length c84)), (47, (.slice A103 a86.effs.length c104))]) _ (fun s111 x112 w' => ∃ O' : Lab, Bs w A w' O' ∧ Vb w' (Fr 0 w' O') (.slice A21 x1.length c22) x1 ∧ Rw 3 w' O' 3 (.slice A83 q76.length c84) s111 ∧ Vb w' (Fr 0 w' O') (.slice A103 a86.effs.length c104) a86.effs) _ () ⟨O79, hB, hx1, h81, h102⟩ ⟨rfl, rfl, rfl, rfl, rfl, trivial⟩ (fun _ _ => ⟨rfl, rfl⟩) (fun _ _ => ⟨rfl, trivial⟩) (fun _ _ _ ⟨O', hB, hx1, h126, h102⟩ => ⟨O', hB, h126⟩) ⟨rfl, rfl, rfl⟩ ⟨rfl, rfl⟩ ?_
   rintro k113 a114 s111 x112 w115 cc117 hx118 ⟨O116, hB, hx1, h126, h102⟩ hf119 hret120 hbrk121
   have rk113 : inI64 (k113 : Int) := rngK hx118 l108
   refine ewp_seq (ewp_region ?_)
   obtain ⟨b128, o129, ce130, hA131, hl132, hd133, v135, rfl, h136, r139, r140⟩ := h102.elem' hx118
   obtain ⟨A137, c138, rfl⟩ := h136.form
   refine o_iaE (hA := hA131) (hj := rfl) (hlt := hl132) rfl rfl rfl ?_
   refine o_la (hl := rfl) (hc := hd133) rfl rfl ?_
   refine l_alloc 4 O116 rfl fun g141 w142 O143 S144 h145 => ?_
   refine l_store h145 rfl rfl rfl (Nat.le_of_ble_eq_true rfl) (by first | exact allOne rfl | simp [Value.cells, Value.oneCell', errV_one]) fun w146 S147 h145 => ?_
   replace h145 : Lc 4 w146 O143 g141 77 [(.slice A137 a114.cond.length c138), (.int .i64 a114.var), (.int .i64 a114.val)] := h145
   refine o_z ?_
   refine ewp_seq (ewp_region (o_fa rfl rfl (o_ld (hc := Blk.cell (i := 0) (h145.1) rfl) rfl rfl ?_)))
   refine o_mv rfl rfl ?_
   obtain ⟨q148, e149, hf119⟩ := bs hf119
   replace hx1 := (hx1.st S144).st S147
   replace h136 := (h136.st S144).st S147
   refine l_callA (O := O143) (A := All w146) (R := fun w' F v => Vb w' F v q148) (c_task_Holds (fun _ h => h) (Vb.mono (F := Fr 0 w146 O143) h136 Fr.lt) (Vb.mono (F := Fr 0 w146 O143) hx1 Fr.lt) e149) rfl rfl fun v154 w150 O151 S152 h153 => ?_
   obtain rfl := h153.bool
   cases q148
   case false =>
    replace hf119 := iF hf119
    refine o_z ?_
    refine ewp_false rfl (ewp_skip ?_)
    obtain rfl := sm hf119
    refine (?_ : Exists _)
    replace hB := ((hB.st S144).st S147).st S152
    replace hx1 := hx1.st S152
    replace h102 := ((h102.st S144).st S147).st S152
    replace h126 := ((h126.st S144).st S147).st S152
    exact ⟨_, (), rfl, ⟨rfl, rfl, rfl, rfl, rfl, trivial⟩, _, hB, hx1, h126, h102⟩
   replace hf119 := iT hf119
   refine o_z ?_
   refine ewp_true rfl (ewp_region (o_mv rfl rfl (o_fa rfl rfl ?_)))
   replace h145 := h145.st S152
   refine o_ld (hc := Blk.cell (i := 1) (h145.1) rfl) rfl rfl ?_
   refine o_fa rfl rfl (o_ld (hc := Blk.cell (i := 2) (h145.1) rfl) rfl rfl ?_)
   obtain ⟨a155, e156, hf119⟩ := bs hf119
   obtain ⟨p158, x157⟩ := atI_some' e156
   replace h126 := ((h126.st S144).st S147).st S152
   obtain ⟨b159, o160, ce161, hA162, hl163, hd164, rfl, r166⟩ := h126.elem x157
   refine o_iaE (hA := hA162) (hj := (Int.toNat_of_nonneg p158).symm) (hlt := hl163) rfl rfl rfl ?_
   refine l_setE rfl h126 (a := a114.val) (vInt r140) hA162 rfl rfl (lt_of_get x157) fun w167 S168 h126 => ?_
   refine o_z ?_
   obtain rfl := sm hf119
   refine (?_ : Exists _)
   replace hB := (((hB.st S144).st S147).st S152).st S168
   replace hx1 := (hx1.st S152).st S168
   replace h102 := (((h102.st S144).st S147).st S152).st S168
   exact ⟨_, (), rfl, ⟨rfl, rfl, rfl, rfl, rfl, trivial⟩, _, hB, hx1, h126, h102⟩
  replace hB := ((hB.st S45).st S73).st S80
  rintro l169 w170 ⟨s173, x174, rfl, hs172, O171, hB, h126⟩
  replace hm := fin_done hm
  refine ewp_sub _ hs172 ?_
  refine ewp_seq (ewp_region (o_mv rfl rfl (o_as rfl rfl (o_as rfl rfl (o_z ?_)))))
  refine ewp_ret ?_
  obtain ⟨O175, S176, h126⟩ := h126.freeze
  obtain rfl := sm hm
  replace hB := hB.st S176
  exact ret2 rfl (res_tmp rfl) (res_tmp rfl) ⟨hB.ext, _, _, rfl, (Vb.mono (F := Fr 0 w170 O175) h126 hB.out), (vErr (show inI64 0 from by decide))⟩
noncomputable def m_task_Apply (x0 : Tsk) (x1 : List Int) (x2 : Int) : Option ((List Int) × Err) :=
  bnd (m_task_Check x0) fun q28 => if q28.n ≠ 0 then (some (([] : List Int), (⟨q28.n⟩ : Err))) else (bnd (m_task_apply x0 x1 x2) fun q37 => some (q37.1, (⟨q37.2.n⟩ : Err)))
theorem c_task_Apply {w : World} {A : Nat → Prop} (hA : ∀ k, A k → k < w.heap.size) {vx0 : Value} {x0 : Tsk} (hx0 : Vb w A vx0 x0) {vx1 : Value} {x1 : List Int} (hx1 : Vb w A vx1 x1) {x2 : Int} (rx2 : inI64 x2) {r : (List Int) × Err} (hm : m_task_Apply x0 x1 x2 = some r) :
    Fn Try.prog 81 [vx0, vx1, (.int .i64 x2)] w fun v w' => Ext w w' ∧ T2 w' (upA A w w') v r := by
 obtain ⟨O, hB, hA0⟩ := enter hA
 replace hx0 := hx0.mono hA0
 obtain ⟨cs4, rfl, v5, v6, v7, v8, rfl, h9, h12, h15, h18⟩ := hx0
 obtain ⟨A10, c11, rfl⟩ := h9.form
 obtain ⟨A13, c14, rfl⟩ := h12.form
 obtain ⟨A16, c17, rfl⟩ := h15.form
 obtain ⟨A19, c20, rfl⟩ := h18.form
 replace hx1 := hx1.mono hA0
 obtain ⟨A21, c22, rfl⟩ := hx1.form
 refine fn_enter Try.func81 rfl Try.ntmps81 rfl ?_
 unfold m_task_Apply at hm
 refine ewp_seq (ewp_region (l_box 2 O rfl rfl fun g23 w24 O25 S26 h27 => ?_))
 replace h27 : Lc 2 w24 O25 g23 26 [(.slice A10 x0.vars.length c11), (.slice A13 x0.init.length c14), (.slice A16 x0.goal.length c17), (.slice A19 x0.ops.length c20)] := h27
 refine o_as rfl rfl (o_as rfl rfl (o_z ?_))
 refine ewp_seq (ewp_seq (ewp_region (o_la (hl := rfl) (hc := (h27.1).cellsAt) rfl rfl ?_)))
 obtain ⟨q28, e29, hm⟩ := bs hm
 replace h9 := h9.st S26
 replace h12 := h12.st S26
 replace h15 := h15.st S26
 replace h18 := h18.st S26
 refine l_callA (O := O25) (A := All w24) (R := fun w' F v => Vb w' F v q28) (c_task_Check (fun _ h => h) (Vb.mono (F := Fr 0 w24 O25) (Vb.ofAgg (cs := [(.slice A10 x0.vars.length c11), (.slice A13 x0.init.length c14), (.slice A16 x0.goal.length c17), (.slice A19 x0.ops.length c20)]) (x := x0) rfl ⟨_, _, _, _, rfl, h9, h12, h15, h18⟩) Fr.lt) e29) rfl rfl fun v34 w30 O31 S32 h33 => ?_
 obtain ⟨rfl, r35⟩ := h33.err
 refine o_as rfl rfl (o_z ?_)
 refine ewp_seq (ewp_region (o_mv rfl rfl (o_rnS rfl rfl (fun c36 => ?_) fun c36 => ?_)))
 ·
  replace hm := ip hm c36
  refine o_z ?_
  refine ewp_true rfl (ewp_seq (ewp_region (o_mv rfl rfl (o_as rfl rfl (o_as rfl rfl (o_z ?_))))))
  refine ewp_ret ?_
  obtain rfl := sm hm
  replace hB := (hB.st S26).st S32
  exact ret2 rfl (res_tmp rfl) (res_tmp rfl) ⟨hB.ext, _, _, rfl, (Vb.mono (F := Fr 0 w30 O31) (Vb.nil _ _) hB.out), (vErr r35)⟩
 ·
  replace hm := im hm c36
  refine o_z ?_
  refine ewp_false rfl (ewp_skip (ewp_seq (ewp_region ?_)))
  replace h27 := h27.st S32
  refine o_la (hl := rfl) (hc := (h27.1).cellsAt) rfl rfl ?_
  refine o_mv rfl rfl (o_mv rfl rfl ?_)
  obtain ⟨q37, e38, hm⟩ := bs hm
  replace hx1 := (hx1.st S26).st S32
  replace h9 := h9.st S32
  replace h12 := h12.st S32
  replace h15 := h15.st S32
  replace h18 := h18.st S32
  refine l_call (O := O31) (R := fun w' F v => T2 w' F v q37) (c_task_apply Fr.lt (Vb.ofAgg (cs := [(.slice A10 x0.vars.length c11), (.slice A13 x0.init.length c14), (.slice A16 x0.goal.length c17), (.slice A19 x0.ops.length c20)]) (x := x0) rfl ⟨_, _, _, _, rfl, h9, h12, h15, h18⟩) hx1 rx2 e38) rfl rfl fun v43 w39 O40 S41 h42 => ?_
  obtain ⟨v44, v45, rfl, h46, h47⟩ := h42
  obtain ⟨A48, c49, rfl⟩ := h46.form
  obtain ⟨rfl, r50⟩ := h47.err
  refine o_ex rfl rfl rfl (o_ex rfl rfl rfl (o_as rfl rfl (o_as rfl rfl (o_z ?_))))
  refine ewp_ret ?_
  obtain rfl := sm hm
  replace hB := ((hB.st S26).st S32).st S41
  exact ret2 rfl (res_tmp rfl) (res_tmp rfl) ⟨hB.ext, _, _, rfl, (Vb.mono (F := Fr 0 w39 O40) h46 hB.out), (vErr r50)⟩
structure Rsl where
  verdict : Int
  plan : List Int
  cost : Int
  expanded : Int
instance : Rp Rsl where
  isAgg := true
  size := 4
  R w F cs x := ∃ v0, cs = [.int .i64 x.verdict, v0, .int .i64 x.cost, .int .i64 x.expanded] ∧ Vb w F v0 x.plan ∧ inI64 x.verdict ∧ inI64 x.cost ∧ inI64 x.expanded
  len := by rintro w F cs x ⟨v0, rfl, h0, h1, h2, h3⟩; rfl
  one := by rintro w F cs x ⟨v0, rfl, h0, h1, h2, h3⟩ u hu; simp at hu; rcases hu with rfl | rfl | rfl | rfl <;> first | rfl | exact Vb.one rfl (by assumption)
  agree := by rintro w w' F cs x ⟨v0, rfl, h0, h1, h2, h3⟩ ha; exact ⟨v0, rfl, h0.agree ha, h1, h2, h3⟩
  mono := by rintro w F G cs x ⟨v0, rfl, h0, h1, h2, h3⟩ ha; exact ⟨v0, rfl, h0.mono ha, h1, h2, h3⟩
structure Sch where
  t : Tsk
  states : Reg
  que : Que
  costs : List Int
  fin : List Bool
  exp : Int
instance : Ow Sch where
  R w F M v x := ∃ (g : Nat) (L : Lab) (c0 c1 c2 c3 c4 c5 c6 c7 : Value), v = .pointer (some ⟨g, 0, none⟩) ∧ Blk w g 85 [c0, c1, c2, c3, c4, c5, c6, c7, .int .i64 x.exp] ∧ M g ∧ L g = 0 ∧ Vb w F c0 x.t.vars ∧ Vb w F c1 x.t.init ∧ Vb w F c2 x.t.goal ∧ Vb w F c3 x.t.ops ∧ Ow.R w F (fun k => M k ∧ L k = 1) c4 x.states ∧ Ow.R w F (fun k => M k ∧ L k = 2) c5 x.que ∧ RwM w F (fun k => M k ∧ L k = 3) 3 c6 x.costs ∧ RwM w F (fun k => M k ∧ L k = 4) 4 c7 x.fin ∧ inI64 x.exp
  agree := by rintro w w' F M v x ⟨g, L, c0, c1, c2, c3, c4, c5, c6, c7, rfl, hb, hM, hL, h0, h1, h2, h3, h4, h5, h6, h7, h8⟩ a1 a2; exact ⟨g, L, c0, c1, c2, c3, c4, c5, c6, c7, rfl, hb.keep (a2 g hM), hM, hL, h0.agree a1, h1.agree a1, h2.agree a1, h3.agree a1, Ow.agree h4 a1 fun k hk => a2 k hk.1, Ow.agree h5 a1 fun k hk => a2 k hk.1, h6.agree a1 fun k hk => a2 k hk.1, h7.agree a1 fun k hk => a2 k hk.1, h8⟩
  mono := by rintro w F M F' M' v x ⟨g, L, c0, c1, c2, c3, c4, c5, c6, c7, rfl, hb, hM, hL, h0, h1, h2, h3, h4, h5, h6, h7, h8⟩ a1 a2 a3; exact ⟨g, L, c0, c1, c2, c3, c4, c5, c6, c7, rfl, hb, a2 g hM, hL, h0.mono a1, h1.mono a1, h2.mono a1, h3.mono a1, Ow.mono h4 a1 (fun k hk => ⟨a2 k hk.1, hk.2⟩) fun k hf hm => a3 k hf hm.1, Ow.mono h5 a1 (fun k hk => ⟨a2 k hk.1, hk.2⟩) fun k hf hm => a3 k hf hm.1, h6.mono a1 (fun k hk => ⟨a2 k hk.1, hk.2⟩) fun k hf hm => a3 k hf hm.1, h7.mono a1 (fun k hk => ⟨a2 k hk.1, hk.2⟩) fun k hf hm => a3 k hf hm.1, h8⟩
theorem Sch.opn {i : Nat} {w : World} {O : Lab} {p : Nat} {x : Sch} (h : Ob i w O (.pointer (some ⟨p, 0, none⟩)) x) (l0 l1 l2 l3 l4 : Nat) (hl : l0 ≠ 0 ∧ l1 ≠ 0 ∧ l2 ≠ 0 ∧ l3 ≠ 0 ∧ l4 ≠ 0) : ∃ (O' : Lab) (c0 c1 c2 c3 c4 c5 c6 c7 : Value), St (eT i) w O w O' ∧ (∀ k, Fr i w O k → ∃ q, q ∈ [l0, l1, l2, l3, l4] ∧ Fr q w O' k) ∧ Lc l0 w O' p 85 [c0, c1, c2, c3, c4, c5, c6, c7, .int .i64 x.exp] ∧ Vb w (Fr 0 w O') c0 x.t.vars ∧ Vb w (Fr 0 w O') c1 x.t.init ∧ Vb w (Fr 0 w O') c2 x.t.goal ∧ Vb w (Fr 0 w O') c3 x.t.ops ∧ Ob l1 w O' c4 x.states ∧ Ob l2 w O' c5 x.que ∧ Rw l3 w O' 3 c6 x.costs ∧ Rw l4 w O' 4 c7 x.fin ∧ inI64 x.exp := by
  obtain ⟨⟨g, L, c0, c1, c2, c3, c4, c5, c6, c7, hv, hb, hM, hL, h0, h1, h2, h3, h4, h5, h6, h7, h8⟩, hi⟩ := h
  obtain rfl : p = g := by injection hv with hv; injection hv with hv; injection hv
  exact ⟨part O i L [l0, l1, l2, l3, l4], c0, c1, c2, c3, c4, c5, c6, c7, part_st hi, part_all (by simp), ⟨hb, (part_fr (j := 0) rfl p ⟨hM, hL⟩).2⟩, h0.mono (part_fr0 hi), h1.mono (part_fr0 hi), h2.mono (part_fr0 hi), h3.mono (part_fr0 hi), ⟨Ow.mono h4 (part_fr0 hi) (part_fr (j := 1) rfl) (frNe0 hl.2.1), hl.2.1⟩, ⟨Ow.mono h5 (part_fr0 hi) (part_fr (j := 2) rfl) (frNe0 hl.2.2.1), hl.2.2.1⟩, h6.rw (part_fr0 hi) (part_fr (j := 3) rfl) hl.2.2.2.1, h7.rw (part_fr0 hi) (part_fr (j := 4) rfl) hl.2.2.2.2, h8⟩
theorem Sch.shut {w : World} {O : Lab} {p : Nat} {x : Sch} {l0 l1 l2 l3 l4 : Nat} {c0 c1 c2 c3 c4 c5 c6 c7 : Value} (hd : ¬ 0 ∈ [l0, l1, l2, l3, l4] ∧ [l0, l1, l2, l3, l4].idxOf l0 = 0 ∧ [l0, l1, l2, l3, l4].idxOf l1 = 1 ∧ [l0, l1, l2, l3, l4].idxOf l2 = 2 ∧ [l0, l1, l2, l3, l4].idxOf l3 = 3 ∧ [l0, l1, l2, l3, l4].idxOf l4 = 4) (hb : Lc l0 w O p 85 [c0, c1, c2, c3, c4, c5, c6, c7, .int .i64 x.exp]) (h0 : Vb w (Fr 0 w O) c0 x.t.vars) (h1 : Vb w (Fr 0 w O) c1 x.t.init) (h2 : Vb w (Fr 0 w O) c2 x.t.goal) (h3 : Vb w (Fr 0 w O) c3 x.t.ops) (h4 : Ob l1 w O c4 x.states) (h5 : Ob l2 w O c5 x.que) (h6 : Rw l3 w O 3 c6 x.costs) (h7 : Rw l4 w O 4 c7 x.fin) (h8 : inI64 x.exp) : ∃ O', St (· ∈ [l0, l1, l2, l3, l4]) w O w O' ∧ (∀ k, Fr 0 w O k → Fr 0 w O' k) ∧ (∀ q, q ∈ [l0, l1, l2, l3, l4] → ∀ k, Fr q w O k → Fr l0 w O' k) ∧ Ob l0 w O' (.pointer (some ⟨p, 0, none⟩)) x := by
  have hb1 : l0 ≠ 0 := fun e => hd.1 (by simp [e])
  have hg := whole_fr (i := l0) hd.2.1 (by simp) p ⟨hb.1.lt, hb.2⟩
  exact ⟨whole O l0 [l0, l1, l2, l3, l4], whole_st, whole_fr0 hd.1, whole_all, ⟨p, fun k => [l0, l1, l2, l3, l4].idxOf (O k), c0, c1, c2, c3, c4, c5, c6, c7, rfl, hb.1, hg.1, hg.2, h0.mono (whole_fr0 hd.1), h1.mono (whole_fr0 hd.1), h2.mono (whole_fr0 hd.1), h3.mono (whole_fr0 hd.1), Ow.mono h4.1 (whole_fr0 hd.1) (whole_fr hd.2.2.1 (by simp)) (fun k a b => frNe0 hb1 k a b.1), Ow.mono h5.1 (whole_fr0 hd.1) (whole_fr hd.2.2.2.1 (by simp)) (fun k a b => frNe0 hb1 k a b.1), h6.m (whole_fr0 hd.1) (whole_fr hd.2.2.2.2.1 (by simp)) (fun k a b => frNe0 hb1 k a b.1), h7.m (whole_fr0 hd.1) (whole_fr hd.2.2.2.2.2 (by simp)) (fun k a b => frNe0 hb1 k a b.1), h8⟩, hb1⟩
noncomputable def m_stubborn_search_reach (x0 : Sch) (x1 : List Int) (x2 : Int) (x3 : Int) (x4 : Int) : Option (Err × Sch) :=
  bnd (m_registry_Registry_Add x0.states x1) fun q45 => if q45.2.2.1.n ≠ 0 then (some ((⟨q45.2.2.1.n⟩ : Err), (⟨(⟨x0.t.vars, x0.t.init, x0.t.goal, x0.t.ops⟩ : Tsk), q45.2.2.2, x0.que, x0.costs, x0.fin, x0.exp⟩ : Sch))) else (bnd (if q45.2.1 = true then (bnd (appI 8 x0.costs [1125899906842624]) fun u73 => bnd (appI 1 x0.fin [false]) fun u75 => some (⟨(⟨x0.t.vars, x0.t.init, x0.t.goal, x0.t.ops⟩ : Tsk), q45.2.2.2, x0.que, u73, u75, x0.exp⟩ : Sch)) else (some (⟨(⟨x0.t.vars, x0.t.init, x0.t.goal, x0.t.ops⟩ : Tsk), q45.2.2.2, x0.que, x0.costs, x0.fin, x0.exp⟩ : Sch)) : Option Sch) fun y67 => bnd (atI y67.costs q45.1) fun a234 => if a234 ≤ x4 then (some ((⟨0⟩ : Err), y67)) else (bnd (atI y67.costs q45.1) fun a252 => bnd (m_registry_Registry_SetLink y67.states q45.1 x2 x3 x4) fun q266 => if q266.1.n ≠ 0 then (some ((⟨q266.1.n⟩ : Err), (⟨(⟨y67.t.vars, y67.t.init, y67.t.goal, y67.t.ops⟩ : Tsk), q266.2, y67.que, (y67.costs.set (q45.1 : Int).toNat x4), y67.fin, y67.exp⟩ : Sch))) else (bnd (m_pqueue_Queue_Push y67.que x4 0 q45.1) fun q282 => some ((⟨q282.1.n⟩ : Err), (⟨(⟨y67.t.vars, y67.t.init, y67.t.goal, y67.t.ops⟩ : Tsk), q266.2, q282.2, (y67.costs.set (q45.1 : Int).toNat x4), y67.fin, y67.exp⟩ : Sch)))))
theorem c_stubborn_search_reach {w : World} {O : Lab} {p0 i0 : Nat} {x0 : Sch} (hx0 : Ob i0 w O (.pointer (some ⟨p0, 0, none⟩)) x0) {vx1 : Value} {x1 : List Int} (hx1 : Vb w (Fr 0 w O) vx1 x1) {x2 : Int} (rx2 : inI64 x2) {x3 : Int} (rx3 : inI64 x3) {x4 : Int} (rx4 : inI64 x4) {r : Err × Sch} (hm : m_stubborn_search_reach x0 x1 x2 x3 x4 = some r) :
    Fn Try.prog 41 [(.pointer (some ⟨p0, 0, none⟩)), vx1, (.int .i64 x2), (.int .i64 x3), (.int .i64 x4)] w fun v w' => ∃ O', St (eT i0) w O w' O' ∧ Ob i0 w' O' (.pointer (some ⟨p0, 0, none⟩)) r.2 ∧ Vb w' (Fr 0 w' O') v r.1 := by
 obtain ⟨O0, hE, hz0, hl2⟩ := ent1 (w := w) (O := O) hx0.2
 have hx0' := Ob.leave hx0 hz0 hl2 (j := 2) (by decide)
 have hB : Bm w O0 w O0 := Bm.refl
 replace hx1 := hx1.mono hz0
 obtain ⟨A6, c7, rfl⟩ := hx1.form
 refine fn_enter Try.func41 rfl Try.ntmps41 rfl ?_
 unfold m_stubborn_search_reach at hm
 refine ewp_seq (ewp_region (o_as rfl rfl (o_z ?_)))
 refine ewp_seq (ewp_region (o_mv rfl rfl (o_nc rfl rfl ?_)))
 obtain ⟨O8, v12, v16, v20, v24, v28, v31, v34, v39, S9, ha11, h10, h13, h17, h21, h25, h29, h32, h35, h40, r44⟩ := Sch.opn hx0' 2 3 4 5 6 (by decide)
 obtain ⟨A14, c15, rfl⟩ := h13.form
 obtain ⟨A18, c19, rfl⟩ := h17.form
 obtain ⟨A22, c23, rfl⟩ := h21.form
 obtain ⟨A26, c27, rfl⟩ := h25.form
 obtain ⟨p30, rfl⟩ := h29.ptr
 obtain ⟨p33, rfl⟩ := h32.ptr
 obtain ⟨A36, c37, rfl⟩ := h35.form
 obtain ⟨A41, c42, rfl⟩ := h40.form
 refine o_fa rfl rfl (o_ld (hc := Blk.cell (i := 4) (h10.1) rfl) rfl rfl ?_)
 refine o_mv rfl rfl ?_
 obtain ⟨q45, e46, hm⟩ := bs hm
 replace hx1 := hx1.st S9
 refine l_callM (O := O8) (c_registry_Registry_Add h29 hx1 e46) rfl rfl fun v51 w47 O48 S49 h50 => ?_
 obtain ⟨v53, v54, v55, h52, rfl, h56, h57, h58⟩ := h50
 obtain ⟨rfl, r59⟩ := h56.int
 obtain rfl := h57.bool
 obtain ⟨rfl, r60⟩ := h58.err
 refine o_mv rfl rfl (o_ex rfl rfl rfl (o_ex rfl rfl rfl (o_ex rfl rfl rfl (o_as rfl rfl (o_as rfl rfl (o_as rfl rfl (o_z ?_)))))))
 refine ewp_seq (ewp_seq (ewp_region (o_mv rfl rfl (o_rnS rfl rfl (fun c61 => ?_) fun c61 => ?_))))
 ·
  replace hm := ip hm c61
  refine o_z ?_
  refine ewp_true rfl (ewp_seq (ewp_region (o_mv rfl rfl (o_as rfl rfl (o_z ?_)))))
  refine ewp_ret ?_
  replace h10 := h10.st S49
  replace h13 := h13.st S49
  replace h17 := h17.st S49
  replace h21 := h21.st S49
  replace h25 := h25.st S49
  replace h32 := h32.st S49
  replace h35 := h35.st S49
  replace h40 := h40.st S49
  obtain ⟨O62, S63, hz65, ha66, h64⟩ := Sch.shut (x := (⟨(⟨x0.t.vars, x0.t.init, x0.t.goal, x0.t.ops⟩ : Tsk), q45.2.2.2, x0.que, x0.costs, x0.fin, x0.exp⟩ : Sch)) (l0 := 2) (l1 := 3) (l2 := 4) (l3 := 5) (l4 := 6) (by decide) h10 h13 h17 h21 h25 h52 h32 h35 h40 r44
  obtain rfl := sm hm
  replace hB := ((hB.st S9).st S49).st S63
  obtain ⟨O', hS', hz, hl⟩ := hE.leave (fun q => if q = 2 then i0 else 0) rfl hB
  exact ret1v rfl (res_tmp rfl) ⟨O', hS', (Ob.leave h64 hz (hl 2 (by decide) (by decide)) hx0.2), (vErr r60)⟩
 ·
  replace hm := im hm c61
  refine o_z ?_
  refine ewp_false rfl (ewp_skip (ewp_seq ?_))
  obtain ⟨y67, hy68, hm⟩ := bs hm
  refine ewp_join (fun l' w' => ∃ (x70 : Unit) (O' : Lab), subs l' [(0, (.pointer (some ⟨p0, 0, none⟩))), (2, (.int .i64 x2)), (3, (.int .i64 x3)), (4, (.int .i64 x4)), (11, (.int .i64 q45.1))] ∧ Bm w O0 w' O' ∧ Ob 2 w' O' (.pointer (some ⟨p0, 0, none⟩)) y67) ?_ ?_
  ·
   refine ewp_seq (ewp_region (o_mv rfl rfl (o_z ?_)))
   refine ewp_cond rfl (fun c72 => ?_) (fun c72 => ?_)
   ·
    replace hy68 := ip hy68 c72
    obtain ⟨u73, e74, hy68⟩ := bs hy68
    obtain ⟨u75, e76, hy68⟩ := bs hy68
    refine ewp_drawX [(6, []), (7, [5]), (12, []), (13, [6]), (16, [2])] O48 ?_
    refine x_pre (fuel := 16) [] [(2, true), (3, true), (4, true), (5, true)] (by kernel_rfl) rfl ?_
    refine h_mv rfl rfl rfl (h_nc rfl rfl rfl (h_fa rfl rfl rfl ?_))
    replace h10 := h10.st S49
    refine h_ldC (hc := fun w' ⟨O', hq⟩ => Blk.cell (i := 6) ((h10.st hq (by decide)).1) rfl) rfl rfl rfl ?_
    refine hwp_nilT ?_
    refine x_pre (fuel := 12) [5] [(8, true), (9, true), (10, true), (11, true)] (by kernel_rfl) rfl ?_
    refine h_mv rfl rfl rfl (h_nc rfl rfl rfl (h_fa rfl rfl rfl (h_ldC (hc := fun w' ⟨O', hq⟩ => Blk.cell (i := 7) ((h10.st hq (by decide)).1) rfl) rfl rfl rfl ?_)))
    refine hwp_nilT ?_
    refine x_pre (fuel := 11) [5, 6] [(0, true)] (by kernel_rfl) rfl ?_
    refine h_mv rfl rfl rfl (hwp_nilT ?_)
    refine x_pre (fuel := 10) [2, 5, 6] [(1, true)] (by kernel_rfl) rfl ?_
    refine h_mv rfl rfl rfl (hwp_nilT ?_)
    refine x_two (i := 6) (j := 12) (by kernel_rfl) rfl rfl ?_ ?_
    ·
     refine l_bslice 7 (by decide) O48 (xs := ([1125899906842624] : List Int)) rfl rfl rfl rfl ⟨(vInt (show inI64 (1125899906842624) from by decide)), trivial⟩ (by decide) (by decide) rfl fun g77 w78 O79 S80 h81 => ?_
     have hZ := S80.lst [] (fun _ h => h.elim)
     refine x_go [(7, [5]), (12, []), (13, [6]), (16, [2])] hZ (by kernel_rfl) ?_
     refine x_two (i := 7) (j := 12) (by kernel_rfl) rfl rfl ?_ ?_
     ·
      obtain ⟨e74, e83, e84⟩ := appI_some e74
      replace h35 := (h35.st S49).st S80
      refine l_append rfl h35 (h81.rd) rfl rfl (by decide) e83 e84 rfl fun A85 c86 w87 O88 S89 h90 => ?_
      rw [← e74] at h90 ⊢
      have hZ := S89.lst [5] (fun _ h => by cases h; decide)
      refine x_go [(12, []), (13, [6]), (16, [2])] hZ (by kernel_rfl) ?_
      refine x_one (i := 12) (by kernel_rfl) rfl ?_
      refine l_bslice 8 (by decide) O88 (xs := ([false] : List Bool)) rfl rfl rfl rfl ⟨vBool, trivial⟩ (by decide) (by decide) rfl fun g92 w93 O94 S95 h96 => ?_
      have hZ := S95.lst [] (fun _ h => h.elim)
      refine x_go [(13, [6]), (16, [2])] hZ (by kernel_rfl) ?_
      refine x_one (i := 13) (by kernel_rfl) rfl ?_
      obtain ⟨e76, e98, e99⟩ := appI_some e76
      replace h40 := (((h40.st S49).st S80).st S89).st S95
      refine l_append rfl h40 (h96.rd) rfl rfl (by decide) e98 e99 rfl fun A100 c101 w102 O103 S104 h105 => ?_
      rw [← e76] at h105 ⊢
      have hZ := S104.lst [6] (fun _ h => by cases h; decide)
      refine x_go [(16, [2])] hZ (by kernel_rfl) ?_
      refine x_pre (fuel := 4) [] [(14, true), (15, true)] (by kernel_rfl) rfl ?_
      refine h_nc rfl rfl rfl (h_fa rfl rfl rfl (hwp_nilT ?_))
      refine x_one (i := 16) (by kernel_rfl) rfl ?_
      replace h10 := (((h10.st S80).st S89).st S95).st S104
      refine l_store h10 rfl rfl rfl (Nat.le_of_ble_eq_true rfl) (by first | exact allOne rfl | simp [Value.cells, Value.oneCell', errV_one]) fun w107 S108 h10 => ?_
      replace h10 : Lc 2 w107 O103 p0 85 [(.slice A14 x0.t.vars.length c15), (.slice A18 x0.t.init.length c19), (.slice A22 x0.t.goal.length c23), (.slice A26 x0.t.ops.length c27), (.pointer (some ⟨p30, 0, none⟩)), (.pointer (some ⟨p33, 0, none⟩)), (.slice A85 u73.length c86), (.slice A41 x0.fin.length c42), (.int .i64 x0.exp)] := h10
      have hZ := S108.lst [2] (fun _ h => by cases h; decide)
      refine x_go [] hZ (by kernel_rfl) ?_
      refine x_pre (fuel := 1) [] [(17, true), (18, true)] (by kernel_rfl) rfl ?_
      refine h_nc rfl rfl rfl (h_fa rfl rfl rfl (hwp_nilT ?_))
      refine x_one (i := 19) (by kernel_rfl) rfl ?_
      refine l_store h10 rfl rfl rfl (Nat.le_of_ble_eq_true rfl) (by first | exact allOne rfl | simp [Value.cells, Value.oneCell', errV_one]) fun w109 S110 h10 => ?_
      replace h10 : Lc 2 w109 O103 p0 85 [(.slice A14 x0.t.vars.length c15), (.slice A18 x0.t.init.length c19), (.slice A22 x0.t.goal.length c23), (.slice A26 x0.t.ops.length c27), (.pointer (some ⟨p30, 0, none⟩)), (.pointer (some ⟨p33, 0, none⟩)), (.slice A85 u73.length c86), (.slice A100 u75.length c101), (.int .i64 x0.exp)] := h10
      refine x_end (by kernel_rfl) ?_
      refine x_nil (by kernel_rfl) ?_
      replace h13 := ((((((h13.st S49).st S80).st S89).st S95).st S104).st S108).st S110
      replace h17 := ((((((h17.st S49).st S80).st S89).st S95).st S104).st S108).st S110
      replace h21 := ((((((h21.st S49).st S80).st S89).st S95).st S104).st S108).st S110
      replace h25 := ((((((h25.st S49).st S80).st S89).st S95).st S104).st S108).st S110
      replace h32 := ((((((h32.st S49).st S80).st S89).st S95).st S104).st S108).st S110
      replace h52 := (((((h52.st S80).st S89).st S95).st S104).st S108).st S110
      replace h90 := (((h90.st S95).st S104).st S108).st S110
      replace h105 := (h105.st S108).st S110
      obtain ⟨O111, S112, hz114, ha115, h113⟩ := Sch.shut (x := (⟨(⟨x0.t.vars, x0.t.init, x0.t.goal, x0.t.ops⟩ : Tsk), q45.2.2.2, x0.que, u73, u75, x0.exp⟩ : Sch)) (l0 := 2) (l1 := 3) (l2 := 4) (l3 := 5) (l4 := 6) (by decide) h10 h13 h17 h21 h25 h52 h32 h90 h105 r44
      obtain rfl := sm hy68
      replace hB := ((((((((hB.st S9).st S49).st S80).st S89).st S95).st S104).st S108).st S110).st S112
      exact ⟨(), _, ⟨rfl, rfl, rfl, rfl, rfl, trivial⟩, hB, h113⟩
     ·
      refine l_bslice 8 (by decide) O79 (xs := ([false] : List Bool)) rfl rfl rfl rfl ⟨vBool, trivial⟩ (by decide) (by decide) rfl fun g116 w117 O118 S119 h120 => ?_
      have hZ := S119.lst [] (fun _ h => h.elim)
      refine x_go [(7, [5]), (13, [6]), (16, [2])] hZ (by kernel_rfl) ?_
      refine x_one (i := 7) (by kernel_rfl) rfl ?_
      obtain ⟨e74, e122, e123⟩ := appI_some e74
      replace h35 := ((h35.st S49).st S80).st S119
      replace h81 := h81.st S119
      refine l_append rfl h35 (h81.rd) rfl rfl (by decide) e122 e123 rfl fun A124 c125 w126 O127 S128 h129 => ?_
      rw [← e74] at h129 ⊢
      have hZ := S128.lst [5] (fun _ h => by cases h; decide)
      refine x_go [(13, [6]), (16, [2])] hZ (by kernel_rfl) ?_
      refine x_one (i := 13) (by kernel_rfl) rfl ?_
      obtain ⟨e76, e131, e132⟩ := appI_some e76
      replace h40 := (((h40.st S49).st S80).st S119).st S128
      replace h120 := h120.st S128
      refine l_append rfl h40 (h120.rd) rfl rfl (by decide) e131 e132 rfl fun A133 c134 w135 O136 S137 h138 => ?_
      rw [← e76] at h138 ⊢
      have hZ := S137.lst [6] (fun _ h => by cases h; decide)
      refine x_go [(16, [2])] hZ (by kernel_rfl) ?_
      refine x_pre (fuel := 4) [] [(14, true), (15, true)] (by kernel_rfl) rfl ?_
      refine h_nc rfl rfl rfl (h_fa rfl rfl rfl (hwp_nilT ?_))
      refine x_one (i := 16) (by kernel_rfl) rfl ?_
      replace h10 := (((h10.st S80).st S119).st S128).st S137
      refine l_store h10 rfl rfl rfl (Nat.le_of_ble_eq_true rfl) (by first | exact allOne rfl | simp [Value.cells, Value.oneCell', errV_one]) fun w140 S141 h10 => ?_
      replace h10 : Lc 2 w140 O136 p0 85 [(.slice A14 x0.t.vars.length c15), (.slice A18 x0.t.init.length c19), (.slice A22 x0.t.goal.length c23), (.slice A26 x0.t.ops.length c27), (.pointer (some ⟨p30, 0, none⟩)), (.pointer (some ⟨p33, 0, none⟩)), (.slice A124 u73.length c125), (.slice A41 x0.fin.length c42), (.int .i64 x0.exp)] := h10
      have hZ := S141.lst [2] (fun _ h => by cases h; decide)
      refine x_go [] hZ (by kernel_rfl) ?_
      refine x_pre (fuel := 1) [] [(17, true), (18, true)] (by kernel_rfl) rfl ?_
      refine h_nc rfl rfl rfl (h_fa rfl rfl rfl (hwp_nilT ?_))
      refine x_one (i := 19) (by kernel_rfl) rfl ?_
      refine l_store h10 rfl rfl rfl (Nat.le_of_ble_eq_true rfl) (by first | exact allOne rfl | simp [Value.cells, Value.oneCell', errV_one]) fun w142 S143 h10 => ?_
      replace h10 : Lc 2 w142 O136 p0 85 [(.slice A14 x0.t.vars.length c15), (.slice A18 x0.t.init.length c19), (.slice A22 x0.t.goal.length c23), (.slice A26 x0.t.ops.length c27), (.pointer (some ⟨p30, 0, none⟩)), (.pointer (some ⟨p33, 0, none⟩)), (.slice A124 u73.length c125), (.slice A133 u75.length c134), (.int .i64 x0.exp)] := h10
      refine x_end (by kernel_rfl) ?_
      refine x_nil (by kernel_rfl) ?_
      replace h13 := ((((((h13.st S49).st S80).st S119).st S128).st S137).st S141).st S143
      replace h17 := ((((((h17.st S49).st S80).st S119).st S128).st S137).st S141).st S143
      replace h21 := ((((((h21.st S49).st S80).st S119).st S128).st S137).st S141).st S143
      replace h25 := ((((((h25.st S49).st S80).st S119).st S128).st S137).st S141).st S143
      replace h32 := ((((((h32.st S49).st S80).st S119).st S128).st S137).st S141).st S143
      replace h52 := (((((h52.st S80).st S119).st S128).st S137).st S141).st S143
      replace h129 := ((h129.st S137).st S141).st S143
      replace h138 := (h138.st S141).st S143
      obtain ⟨O144, S145, hz147, ha148, h146⟩ := Sch.shut (x := (⟨(⟨x0.t.vars, x0.t.init, x0.t.goal, x0.t.ops⟩ : Tsk), q45.2.2.2, x0.que, u73, u75, x0.exp⟩ : Sch)) (l0 := 2) (l1 := 3) (l2 := 4) (l3 := 5) (l4 := 6) (by decide) h10 h13 h17 h21 h25 h52 h32 h129 h138 r44
      obtain rfl := sm hy68
      replace hB := ((((((((hB.st S9).st S49).st S80).st S119).st S128).st S137).st S141).st S143).st S145
      exact ⟨(), _, ⟨rfl, rfl, rfl, rfl, rfl, trivial⟩, hB, h146⟩
    ·
     refine l_bslice 8 (by decide) O48 (xs := ([false] : List Bool)) rfl rfl rfl rfl ⟨vBool, trivial⟩ (by decide) (by decide) rfl fun g149 w150 O151 S152 h153 => ?_
     have hZ := S152.lst [] (fun _ h => h.elim)
     refine x_go [(6, []), (7, [5]), (13, [6]), (16, [2])] hZ (by kernel_rfl) ?_
     refine x_one (i := 6) (by kernel_rfl) rfl ?_
     refine l_bslice 7 (by decide) O151 (xs := ([1125899906842624] : List Int)) rfl rfl rfl rfl ⟨(vInt (show inI64 (1125899906842624) from by decide)), trivial⟩ (by decide) (by decide) rfl fun g155 w156 O157 S158 h159 => ?_
     have hZ := S158.lst [] (fun _ h => h.elim)
     refine x_go [(7, [5]), (13, [6]), (16, [2])] hZ (by kernel_rfl) ?_
     refine x_one (i := 7) (by kernel_rfl) rfl ?_
     obtain ⟨e74, e161, e162⟩ := appI_some e74
     replace h35 := ((h35.st S49).st S152).st S158
     refine l_append rfl h35 (h159.rd) rfl rfl (by decide) e161 e162 rfl fun A163 c164 w165 O166 S167 h168 => ?_
     rw [← e74] at h168 ⊢
     have hZ := S167.lst [5] (fun _ h => by cases h; decide)
     refine x_go [(13, [6]), (16, [2])] hZ (by kernel_rfl) ?_
     refine x_one (i := 13) (by kernel_rfl) rfl ?_
     obtain ⟨e76, e170, e171⟩ := appI_some e76
     replace h40 := (((h40.st S49).st S152).st S158).st S167
     replace h153 := (h153.st S158).st S167
     refine l_append rfl h40 (h153.rd) rfl rfl (by decide) e170 e171 rfl fun A172 c173 w174 O175 S176 h177 => ?_
     rw [← e76] at h177 ⊢
     have hZ := S176.lst [6] (fun _ h => by cases h; decide)
     refine x_go [(16, [2])] hZ (by kernel_rfl) ?_
     refine x_pre (fuel := 4) [] [(14, true), (15, true)] (by kernel_rfl) rfl ?_
     refine h_nc rfl rfl rfl (h_fa rfl rfl rfl (hwp_nilT ?_))
     refine x_one (i := 16) (by kernel_rfl) rfl ?_
     replace h10 := (((h10.st S152).st S158).st S167).st S176
     refine l_store h10 rfl rfl rfl (Nat.le_of_ble_eq_true rfl) (by first | exact allOne rfl | simp [Value.cells, Value.oneCell', errV_one]) fun w179 S180 h10 => ?_
     replace h10 : Lc 2 w179 O175 p0 85 [(.slice A14 x0.t.vars.length c15), (.slice A18 x0.t.init.length c19), (.slice A22 x0.t.goal.length c23), (.slice A26 x0.t.ops.length c27), (.pointer (some ⟨p30, 0, none⟩)), (.pointer (some ⟨p33, 0, none⟩)), (.slice A163 u73.length c164), (.slice A41 x0.fin.length c42), (.int .i64 x0.exp)] := h10
     have hZ := S180.lst [2] (fun _ h => by cases h; decide)
     refine x_go [] hZ (by kernel_rfl) ?_
     refine x_pre (fuel := 1) [] [(17, true), (18, true)] (by kernel_rfl) rfl ?_
     refine h_nc rfl rfl rfl (h_fa rfl rfl rfl (hwp_nilT ?_))
     refine x_one (i := 19) (by kernel_rfl) rfl ?_
     refine l_store h10 rfl rfl rfl (Nat.le_of_ble_eq_true rfl) (by first | exact allOne rfl | simp [Value.cells, Value.oneCell', errV_one]) fun w181 S182 h10 => ?_
     replace h10 : Lc 2 w181 O175 p0 85 [(.slice A14 x0.t.vars.length c15), (.slice A18 x0.t.init.length c19), (.slice A22 x0.t.goal.length c23), (.slice A26 x0.t.ops.length c27), (.pointer (some ⟨p30, 0, none⟩)), (.pointer (some ⟨p33, 0, none⟩)), (.slice A163 u73.length c164), (.slice A172 u75.length c173), (.int .i64 x0.exp)] := h10
     refine x_end (by kernel_rfl) ?_
     refine x_nil (by kernel_rfl) ?_
     replace h13 := ((((((h13.st S49).st S152).st S158).st S167).st S176).st S180).st S182
     replace h17 := ((((((h17.st S49).st S152).st S158).st S167).st S176).st S180).st S182
     replace h21 := ((((((h21.st S49).st S152).st S158).st S167).st S176).st S180).st S182
     replace h25 := ((((((h25.st S49).st S152).st S158).st S167).st S176).st S180).st S182
     replace h32 := ((((((h32.st S49).st S152).st S158).st S167).st S176).st S180).st S182
     replace h52 := (((((h52.st S152).st S158).st S167).st S176).st S180).st S182
     replace h168 := ((h168.st S176).st S180).st S182
     replace h177 := (h177.st S180).st S182
     obtain ⟨O183, S184, hz186, ha187, h185⟩ := Sch.shut (x := (⟨(⟨x0.t.vars, x0.t.init, x0.t.goal, x0.t.ops⟩ : Tsk), q45.2.2.2, x0.que, u73, u75, x0.exp⟩ : Sch)) (l0 := 2) (l1 := 3) (l2 := 4) (l3 := 5) (l4 := 6) (by decide) h10 h13 h17 h21 h25 h52 h32 h168 h177 r44
     obtain rfl := sm hy68
     replace hB := ((((((((hB.st S9).st S49).st S152).st S158).st S167).st S176).st S180).st S182).st S184
     exact ⟨(), _, ⟨rfl, rfl, rfl, rfl, rfl, trivial⟩, hB, h185⟩
   ·
    replace hy68 := im' hy68 c72
    refine ewp_skip ?_
    replace h10 := h10.st S49
    replace h13 := h13.st S49
    replace h17 := h17.st S49
    replace h21 := h21.st S49
    replace h25 := h25.st S49
    replace h32 := h32.st S49
    replace h35 := h35.st S49
    replace h40 := h40.st S49
    obtain ⟨O188, S189, hz191, ha192, h190⟩ := Sch.shut (x := (⟨(⟨x0.t.vars, x0.t.init, x0.t.goal, x0.t.ops⟩ : Tsk), q45.2.2.2, x0.que, x0.costs, x0.fin, x0.exp⟩ : Sch)) (l0 := 2) (l1 := 3) (l2 := 4) (l3 := 5) (l4 := 6) (by decide) h10 h13 h17 h21 h25 h52 h32 h35 h40 r44
    obtain rfl := sm hy68
    replace hB := ((hB.st S9).st S49).st S189
    exact ⟨(), _, ⟨rfl, rfl, rfl, rfl, rfl, trivial⟩, hB, h190⟩
  replace hB := (hB.st S9).st S49
  rintro l193 w194 ⟨x70, O195, hs196, hB, h71⟩
  refine ewp_sub _ hs196 ?_
  refine ewp_seq (ewp_seq (ewp_region (o_mv rfl rfl (o_mv rfl rfl (o_nc rfl rfl ?_)))))
  obtain ⟨O197, v201, v205, v209, v213, v217, v220, v223, v228, S198, ha200, h199, h202, h206, h210, h214, h218, h221, h224, h229, r233⟩ := Sch.opn h71 2 3 4 5 6 (by decide)
  obtain ⟨A203, c204, rfl⟩ := h202.form
  obtain ⟨A207, c208, rfl⟩ := h206.form
  obtain ⟨A211, c212, rfl⟩ := h210.form
  obtain ⟨A215, c216, rfl⟩ := h214.form
  obtain ⟨p219, rfl⟩ := h218.ptr
  obtain ⟨p222, rfl⟩ := h221.ptr
  obtain ⟨A225, c226, rfl⟩ := h224.form
  obtain ⟨A230, c231, rfl⟩ := h229.form
  refine o_fa rfl rfl (o_ld (hc := Blk.cell (i := 6) (h199.1) rfl) rfl rfl ?_)
  refine o_mv rfl rfl ?_
  obtain ⟨a234, e235, hm⟩ := bs hm
  obtain ⟨p237, x236⟩ := atI_some' e235
  obtain ⟨b238, o239, ce240, hA241, hl242, hd243, rfl, r245⟩ := h224.elem x236
  refine o_iaE (hA := hA241) (hj := (Int.toNat_of_nonneg p237).symm) (hlt := hl242) rfl rfl rfl ?_
  refine o_ld (hc := cat0 hd243) rfl rfl ?_
  refine o_geS rfl rfl rfl (fun c246 => ?_) fun c246 => ?_
  ·
   replace hm := ip hm c246
   refine o_z ?_
   refine ewp_true rfl (ewp_seq (ewp_region (o_as rfl rfl (o_z ?_))))
   refine ewp_ret ?_
   obtain ⟨O247, S248, hz250, ha251, h249⟩ := Sch.shut (x := y67) (l0 := 2) (l1 := 3) (l2 := 4) (l3 := 5) (l4 := 6) (by decide) h199 h202 h206 h210 h214 h218 h221 h224 h229 r233
   obtain rfl := sm hm
   replace hB := (hB.st S198).st S248
   obtain ⟨O', hS', hz, hl⟩ := hE.leave (fun q => if q = 2 then i0 else 0) rfl hB
   exact ret1v rfl (res_tmp rfl) ⟨O', hS', (Ob.leave h249 hz (hl 2 (by decide) (by decide)) hx0.2), (vErr (show inI64 0 from by decide))⟩
  ·
   replace hm := im hm c246
   refine o_z ?_
   refine ewp_false rfl (ewp_skip (ewp_seq (ewp_region (o_mv rfl rfl (o_nc rfl rfl (o_fa rfl rfl (o_ld (hc := Blk.cell (i := 6) (h199.1) rfl) rfl rfl ?_)))))))
   refine o_mv rfl rfl (o_mv rfl rfl ?_)
   obtain ⟨a252, e253, hm⟩ := bs hm
   obtain ⟨p255, x254⟩ := atI_some' e253
   obtain ⟨b256, o257, ce258, hA259, hl260, hd261, rfl, r263⟩ := h224.elem x254
   refine o_iaE (hA := hA259) (hj := (Int.toNat_of_nonneg p255).symm) (hlt := hl260) rfl rfl rfl ?_
   refine l_setE rfl h224 (a := x4) (vInt rx4) hA259 rfl rfl (lt_of_get x254) fun w264 S265 h224 => ?_
   refine o_z ?_
   refine ewp_seq (ewp_seq (ewp_region (o_mv rfl rfl (o_nc rfl rfl (o_fa rfl rfl ?_)))))
   replace h199 := h199.st S265
   refine o_ld (hc := Blk.cell (i := 4) (h199.1) rfl) rfl rfl ?_
   refine o_mv rfl rfl (o_mv rfl rfl (o_mv rfl rfl (o_mv rfl rfl ?_)))
   obtain ⟨q266, e267, hm⟩ := bs hm
   replace h218 := h218.st S265
   refine l_callM (O := O197) (c_registry_Registry_SetLink h218 r59 rx2 rx3 rx4 e267) rfl rfl fun v272 w268 O269 S270 h271 => ?_
   obtain ⟨h273, h274⟩ := h271
   obtain ⟨rfl, r275⟩ := h274.err
   refine o_as rfl rfl (o_z ?_)
   refine ewp_seq (ewp_region (o_mv rfl rfl (o_rnS rfl rfl (fun c276 => ?_) fun c276 => ?_)))
   ·
    replace hm := ip hm c276
    refine o_z ?_
    refine ewp_true rfl (ewp_seq (ewp_region (o_mv rfl rfl (o_as rfl rfl (o_z ?_)))))
    refine ewp_ret ?_
    replace h199 := h199.st S270
    replace h202 := (h202.st S265).st S270
    replace h206 := (h206.st S265).st S270
    replace h210 := (h210.st S265).st S270
    replace h214 := (h214.st S265).st S270
    replace h221 := (h221.st S265).st S270
    replace h224 := h224.st S270
    replace h229 := (h229.st S265).st S270
    obtain ⟨O277, S278, hz280, ha281, h279⟩ := Sch.shut (x := (⟨(⟨y67.t.vars, y67.t.init, y67.t.goal, y67.t.ops⟩ : Tsk), q266.2, y67.que, (y67.costs.set (q45.1 : Int).toNat x4), y67.fin, y67.exp⟩ : Sch)) (l0 := 2) (l1 := 3) (l2 := 4) (l3 := 5) (l4 := 6) (by decide) (by have q := h199; rw [← ((by simp : (y67.costs.set (q45.1 : Int).toNat x4).length = y67.costs.length).trans rfl)] at q; exact q) h202 h206 h210 h214 h273 h221 h224.relen h229 r233
    obtain rfl := sm hm
    replace hB := (((hB.st S198).st S265).st S270).st S278
    obtain ⟨O', hS', hz, hl⟩ := hE.leave (fun q => if q = 2 then i0 else 0) rfl hB
    exact ret1v rfl (res_tmp rfl) ⟨O', hS', (Ob.leave h279 hz (hl 2 (by decide) (by decide)) hx0.2), (vErr r275)⟩
   ·
    replace hm := im hm c276
    refine o_z ?_
    refine ewp_false rfl (ewp_skip (ewp_seq (ewp_region (o_mv rfl rfl (o_nc rfl rfl (o_fa rfl rfl ?_))))))
    replace h199 := h199.st S270
    refine o_ld (hc := Blk.cell (i := 5) (h199.1) rfl) rfl rfl ?_
    refine o_mv rfl rfl (o_mv rfl rfl ?_)
    obtain ⟨q282, e283, hm⟩ := bs hm
    replace h221 := (h221.st S265).st S270
    refine l_callM (O := O269) (c_pqueue_Queue_Push h221 rx4 (show inI64 (0) from by decide) r59 e283) rfl rfl fun v288 w284 O285 S286 h287 => ?_
    obtain ⟨h289, h290⟩ := h287
    obtain ⟨rfl, r291⟩ := h290.err
    refine o_as rfl rfl (o_z ?_)
    refine ewp_ret ?_
    replace h199 := h199.st S286
    replace h202 := ((h202.st S265).st S270).st S286
    replace h206 := ((h206.st S265).st S270).st S286
    replace h210 := ((h210.st S265).st S270).st S286
    replace h214 := ((h214.st S265).st S270).st S286
    replace h224 := (h224.st S270).st S286
    replace h229 := ((h229.st S265).st S270).st S286
    replace h273 := h273.st S286
    obtain ⟨O292, S293, hz295, ha296, h294⟩ := Sch.shut (x := (⟨(⟨y67.t.vars, y67.t.init, y67.t.goal, y67.t.ops⟩ : Tsk), q266.2, q282.2, (y67.costs.set (q45.1 : Int).toNat x4), y67.fin, y67.exp⟩ : Sch)) (l0 := 2) (l1 := 3) (l2 := 4) (l3 := 5) (l4 := 6) (by decide) (by have q := h199; rw [← ((by simp : (y67.costs.set (q45.1 : Int).toNat x4).length = y67.costs.length).trans rfl)] at q; exact q) h202 h206 h210 h214 h273 h289 h224.relen h229 r233
    obtain rfl := sm hm
    replace hB := ((((hB.st S198).st S265).st S270).st S286).st S293
    obtain ⟨O', hS', hz, hl⟩ := hE.leave (fun q => if q = 2 then i0 else 0) rfl hB
    exact ret1v rfl (res_tmp rfl) ⟨O', hS', (Ob.leave h294 hz (hl 2 (by decide) (by decide)) hx0.2), (vErr r291)⟩
noncomputable def m_stubborn_search_expand (x0 : Sch) (x1 : Int) (x2 : List Int) : Option (Err × Sch) :=
  bnd (atI x0.fin x1) fun a43 => bnd (chkI (x0.exp + 1)) fun n56 => bnd (m_stubborn_set (⟨x0.t.vars, x0.t.init, x0.t.goal, x0.t.ops⟩ : Tsk) x2) fun q61 => bnd (rng (ρ := Err × Sch) (fun (k81 : Nat) (a82 : Int) (s79 : Sch) => bnd (m_task_Apply (⟨s79.t.vars, s79.t.init, s79.t.goal, s79.t.ops⟩ : Tsk) x2 a82) fun q139 => if q139.2.n ≠ 0 then (some (.ret ((⟨q139.2.n⟩ : Err), s79))) else (bnd (atI s79.costs x1) fun a159 => bnd (atI s79.t.ops a82) fun a171 => bnd (chkI (a159 + a171.cost)) fun n192 => bnd (m_stubborn_search_reach s79 q139.1 x1 a82 n192) fun q200 => if q200.1.n ≠ 0 then (some (.ret ((⟨q200.1.n⟩ : Err), q200.2))) else (some (.next q200.2)))) q61 0 (⟨(⟨x0.t.vars, x0.t.init, x0.t.goal, x0.t.ops⟩ : Tsk), x0.states, x0.que, x0.costs, (x0.fin.set (x1 : Int).toNat true), n56⟩ : Sch)) fun res77 => fin res77 fun (s215 : Sch) => some ((⟨0⟩ : Err), s215)
theorem c_stubborn_search_expand {w : World} {O : Lab} {p0 i0 : Nat} {x0 : Sch} (hx0 : Ob i0 w O (.pointer (some ⟨p0, 0, none⟩)) x0) {x1 : Int} (rx1 : inI64 x1) {vx2 : Value} {x2 : List Int} (hx2 : Vb w (Fr 0 w O) vx2 x2) {r : Err × Sch} (hm : m_stubborn_search_expand x0 x1 x2 = some r) :
    Fn Try.prog 66 [(.pointer (some ⟨p0, 0, none⟩)), (.int .i64 x1), vx2] w fun v w' => ∃ O', St (eT i0) w O w' O' ∧ Ob i0 w' O' (.pointer (some ⟨p0, 0, none⟩)) r.2 ∧ Vb w' (Fr 0 w' O') v r.1 := by
 obtain ⟨O0, hE, hz0, hl2⟩ := ent1 (w := w) (O := O) hx0.2
 have hx0' := Ob.leave hx0 hz0 hl2 (j := 2) (by decide)
 have hB : Bm w O0 w O0 := Bm.refl
 replace hx2 := hx2.mono hz0
 obtain ⟨A4, c5, rfl⟩ := hx2.form
 refine fn_enter Try.func66 rfl Try.ntmps66 rfl ?_
 unfold m_stubborn_search_expand at hm
 refine ewp_seq (ewp_region (o_as rfl rfl (o_z ?_)))
 refine ewp_seq (ewp_region (o_mv rfl rfl (o_nc rfl rfl ?_)))
 obtain ⟨O6, v10, v14, v18, v22, v26, v29, v32, v37, S7, ha9, h8, h11, h15, h19, h23, h27, h30, h33, h38, r42⟩ := Sch.opn hx0' 2 3 4 5 6 (by decide)
 obtain ⟨A12, c13, rfl⟩ := h11.form
 obtain ⟨A16, c17, rfl⟩ := h15.form
 obtain ⟨A20, c21, rfl⟩ := h19.form
 obtain ⟨A24, c25, rfl⟩ := h23.form
 obtain ⟨p28, rfl⟩ := h27.ptr
 obtain ⟨p31, rfl⟩ := h30.ptr
 obtain ⟨A34, c35, rfl⟩ := h33.form
 obtain ⟨A39, c40, rfl⟩ := h38.form
 refine o_fa rfl rfl (o_ld (hc := Blk.cell (i := 7) (h8.1) rfl) rfl rfl ?_)
 refine o_mv rfl rfl ?_
 obtain ⟨a43, e44, hm⟩ := bs hm
 obtain ⟨p46, x45⟩ := atI_some' e44
 obtain ⟨b47, o48, ce49, hA50, hl51, hd52, rfl⟩ := h38.elem x45
 refine o_iaE (hA := hA50) (hj := (Int.toNat_of_nonneg p46).symm) (hlt := hl51) rfl rfl rfl ?_
 refine l_setE rfl h38 (a := true) vBool hA50 rfl rfl (lt_of_get x45) fun w54 S55 h38 => ?_
 refine o_z ?_
 refine ewp_seq (ewp_region (o_mv rfl rfl (o_nc rfl rfl (o_fa rfl rfl ?_))))
 replace h8 := h8.st S55
 refine o_ld (hc := Blk.cell (i := 8) (h8.1) rfl) rfl rfl ?_
 obtain ⟨n56, e57, hm⟩ := bs hm
 have r58 := (chkI_rng e57)
 refine o_adE (he := e57) rfl rfl rfl ?_
 refine o_nc rfl rfl (o_fa rfl rfl (l_store h8 rfl rfl rfl (Nat.le_of_ble_eq_true rfl) (by first | exact allOne rfl | simp [Value.cells, Value.oneCell', errV_one]) fun w59 S60 h8 => ?_))
 replace h8 : Lc 2 w59 O6 p0 85 [(.slice A12 x0.t.vars.length c13), (.slice A16 x0.t.init.length c17), (.slice A20 x0.t.goal.length c21), (.slice A24 x0.t.ops.length c25), (.pointer (some ⟨p28, 0, none⟩)), (.pointer (some ⟨p31, 0, none⟩)), (.slice A34 x0.costs.length c35), (.slice A39 x0.fin.length c40), (.int .i64 n56)] := h8
 refine o_z ?_
 refine ewp_seq (ewp_seq (ewp_region (o_mv rfl rfl (o_nc rfl rfl (o_fa rfl rfl (o_la (hl := rfl) (hc := (cellsAt_part 0 4 (h8.1).cellsAt)) rfl rfl ?_))))))
 refine o_mv rfl rfl ?_
 obtain ⟨q61, e62, hm⟩ := bs hm
 replace hx2 := ((hx2.st S7).st S55).st S60
 replace h11 := (h11.st S55).st S60
 replace h15 := (h15.st S55).st S60
 replace h19 := (h19.st S55).st S60
 replace h23 := (h23.st S55).st S60
 refine l_call (O := O6) (R := fun w' F v => Vb w' F v q61) (c_stubborn_set Fr.lt (Vb.ofAgg (cs := [(.slice A12 x0.t.vars.length c13), (.slice A16 x0.t.init.length c17), (.slice A20 x0.t.goal.length c21), (.slice A24 x0.t.ops.length c25)]) (x := (⟨x0.t.vars, x0.t.init, x0.t.goal, x0.t.ops⟩ : Tsk)) rfl ⟨_, _, _, _, rfl, h11, h15, h19, h23⟩) hx2 e62) rfl rfl fun v67 w63 O64 S65 h66 => ?_
 obtain ⟨A68, c69, rfl⟩ := h66.form
 refine o_ln rfl rfl ?_
 have l71 : q61.length ≤ 9223372036854775807 := Nat.le_trans h66.len.2.1 h66.len.2.2
 have r70 : inI64 (q61.length : Int) := rngNat l71
 refine o_mv rfl rfl (o_z ?_)
 replace h8 := h8.st S65
 replace h11 := h11.st S65
 replace h15 := h15.st S65
 replace h19 := h19.st S65
 replace h23 := h23.st S65
 replace h27 := ((h27.st S55).st S60).st S65
 replace h30 := ((h30.st S55).st S60).st S65
 replace h33 := ((h33.st S55).st S60).st S65
 replace h38 := (h38.st S60).st S65
 obtain ⟨O72, S73, hz75, ha76, h74⟩ := Sch.shut (x := (⟨(⟨x0.t.vars, x0.t.init, x0.t.goal, x0.t.ops⟩ : Tsk), x0.states, x0.que, x0.costs, (x0.fin.set (x1 : Int).toNat true), n56⟩ : Sch)) (l0 := 2) (l1 := 3) (l2 := 4) (l3 := 5) (l4 := 6) (by decide) (by have q := h8; rw [← ((by simp : (x0.fin.set (x1 : Int).toNat true).length = x0.fin.length).trans rfl)] at q; exact q) h11 h15 h19 h23 h27 h30 h33 h38.relen r58
 obtain ⟨res77, hL78, hm⟩ := bs hm
 refine ewp_join (aft res77 (fun (s79 : Sch) (x80 : Unit) => []) (fun s79 x80 w' => ∃ O' : Lab, Bm w O0 w' O' ∧ Ob 2 w' O' (.pointer (some ⟨p0, 0, none⟩)) s79)) ?_ ?_
 ·
  refine ewp_block ?_
  replace hB := ((((hB.st S7).st S55).st S60).st S65).st S73
  replace hx2 := (hx2.st S65).st S73
  replace h66 := h66.st S73
  refine ewp_rng (σ := Sch) (X := Unit) (q61.length) hL78 rfl l71 (fun (s79 : Sch) (x80 : Unit) => [(0, (.pointer (some ⟨p0, 0, none⟩))), (1, (.int .i64 x1)), (2, (.slice A4 x2.length c5)), (30, (.slice A68 q61.length c69))]) _ (fun s79 x80 w' => ∃ O' : Lab, Bm w O0 w' O' ∧ Ob 2 w' O' (.pointer (some ⟨p0, 0, none⟩)) s79 ∧ Vb w' (Fr 0 w' O') (.slice A4 x2.length c5) x2 ∧ Vb w' (Fr 0 w' O') (.slice A68 q61.length c69) q61) _ () ⟨O72, hB, h74, hx2, h66⟩ ⟨rfl, rfl, rfl, rfl, rfl, rfl, trivial⟩ (fun _ _ => ⟨rfl, rfl⟩) (fun _ _ => trivial) (fun _ _ _ ⟨O', hB, h93, hx2, h66⟩ => ⟨O', hB, h93⟩) ⟨rfl, rfl, rfl⟩ ⟨rfl, rfl⟩ ?_
  rintro k81 a82 s79 x80 w83 cc85 hx86 ⟨O84, hB, h93, hx2, h66⟩ hf87 hret88 hbrk89
  have rk81 : inI64 (k81 : Int) := rngK hx86 l71
  refine ewp_seq (ewp_region ?_)
  obtain ⟨b94, o95, ce96, hA97, hl98, hd99, rfl, r101⟩ := h66.elem' hx86
  refine o_iaE (hA := hA97) (hj := rfl) (hlt := hl98) rfl rfl rfl ?_
  refine o_ld (hc := cat0 hd99) rfl rfl ?_
  refine o_as rfl rfl (o_z ?_)
  refine ewp_seq (ewp_region (o_mv rfl rfl (o_nc rfl rfl ?_)))
  obtain ⟨O102, v106, v110, v114, v118, v122, v125, v128, v133, S103, ha105, h104, h107, h111, h115, h119, h123, h126, h129, h134, r138⟩ := Sch.opn h93 2 3 4 5 6 (by decide)
  obtain ⟨A108, c109, rfl⟩ := h107.form
  obtain ⟨A112, c113, rfl⟩ := h111.form
  obtain ⟨A116, c117, rfl⟩ := h115.form
  obtain ⟨A120, c121, rfl⟩ := h119.form
  obtain ⟨p124, rfl⟩ := h123.ptr
  obtain ⟨p127, rfl⟩ := h126.ptr
  obtain ⟨A130, c131, rfl⟩ := h129.form
  obtain ⟨A135, c136, rfl⟩ := h134.form
  refine o_fa rfl rfl (o_la (hl := rfl) (hc := (cellsAt_part 0 4 (h104.1).cellsAt)) rfl rfl ?_)
  refine o_mv rfl rfl (o_mv rfl rfl ?_)
  obtain ⟨q139, e140, hf87⟩ := bs hf87
  replace hx2 := hx2.st S103
  refine l_call (O := O102) (R := fun w' F v => T2 w' F v q139) (c_task_Apply Fr.lt (Vb.ofAgg (cs := [(.slice A108 s79.t.vars.length c109), (.slice A112 s79.t.init.length c113), (.slice A116 s79.t.goal.length c117), (.slice A120 s79.t.ops.length c121)]) (x := (⟨s79.t.vars, s79.t.init, s79.t.goal, s79.t.ops⟩ : Tsk)) rfl ⟨_, _, _, _, rfl, h107, h111, h115, h119⟩) hx2 r101 e140) rfl rfl fun v145 w141 O142 S143 h144 => ?_
  obtain ⟨v146, v147, rfl, h148, h149⟩ := h144
  obtain ⟨A150, c151, rfl⟩ := h148.form
  obtain ⟨rfl, r152⟩ := h149.err
  refine o_mv rfl rfl (o_ex rfl rfl rfl (o_ex rfl rfl rfl (o_as rfl rfl (o_as rfl rfl (o_z ?_)))))
  refine ewp_seq (ewp_seq (ewp_region (o_mv rfl rfl (o_rnS rfl rfl (fun c153 => ?_) fun c153 => ?_))))
  ·
   replace hf87 := ip hf87 c153
   refine o_z ?_
   refine ewp_true rfl (ewp_seq (ewp_region (o_mv rfl rfl (o_as rfl rfl (o_z ?_)))))
   refine ewp_ret ?_
   replace h104 := h104.st S143
   replace h107 := h107.st S143
   replace h111 := h111.st S143
   replace h115 := h115.st S143
   replace h119 := h119.st S143
   replace h123 := h123.st S143
   replace h126 := h126.st S143
   replace h129 := h129.st S143
   replace h134 := h134.st S143
   obtain ⟨O154, S155, hz157, ha158, h156⟩ := Sch.shut (x := s79) (l0 := 2) (l1 := 3) (l2 := 4) (l3 := 5) (l4 := 6) (by decide) h104 h107 h111 h115 h119 h123 h126 h129 h134 r138
   obtain rfl := sm hf87
   obtain rfl := hret88 _ rfl
   obtain rfl := sm (fin_ret hm)
   replace hB := ((hB.st S103).st S143).st S155
   obtain ⟨O', hS', hz, hl⟩ := hE.leave (fun q => if q = 2 then i0 else 0) rfl hB
   exact ret1v rfl (res_tmp rfl) ⟨O', hS', (Ob.leave h156 hz (hl 2 (by decide) (by decide)) hx0.2), (vErr r152)⟩
  ·
   replace hf87 := im hf87 c153
   refine o_z ?_
   refine ewp_false rfl (ewp_skip (ewp_seq (ewp_drawX [(21, [2, 3, 4, 5, 6])] O142 ?_)))
   refine x_pre (fuel := 2) [] [(0, true), (1, true), (2, true), (3, true), (4, true), (5, true), (6, true), (7, true), (8, true), (9, true), (10, true), (11, true), (12, true), (13, true), (14, true), (15, true), (16, true), (17, true), (18, true), (19, true), (20, true)] (by kernel_rfl) rfl ?_
   refine h_mv rfl rfl rfl (h_mv rfl rfl rfl (h_mv rfl rfl rfl (h_mv rfl rfl rfl (h_mv rfl rfl rfl (h_nc rfl rfl rfl (h_fa rfl rfl rfl ?_))))))
   replace h104 := h104.st S143
   refine h_ldC (hc := fun w' ⟨O', hq⟩ => Blk.cell (i := 6) ((h104.st hq (by decide)).1) rfl) rfl rfl rfl ?_
   refine h_mv rfl rfl rfl ?_
   obtain ⟨a159, e160, hf87⟩ := bs hf87
   obtain ⟨p162, x161⟩ := atI_some' e160
   replace h129 := h129.st S143
   obtain ⟨b163, o164, ce165, hA166, hF169, hl167, hd168, rfl, r170⟩ := h129.elemF x161
   refine h_iaE (hA := hA166) (hj := (Int.toNat_of_nonneg p162).symm) (hlt := hl167) rfl rfl rfl rfl ?_
   refine h_ldC (hc := fun w' ⟨O', hq⟩ => cat0 (cellsAt_agree (hq.agree (i := 5) (by decide)) hF169 hd168)) rfl rfl rfl ?_
   refine h_mv rfl rfl rfl (h_nc rfl rfl rfl (h_fa rfl rfl rfl (h_fa rfl rfl rfl (h_ldC (hc := fun w' ⟨O', hq⟩ => Blk.cell (i := 3) ((h104.st hq (by decide)).1) rfl) rfl rfl rfl ?_))))
   refine h_mv rfl rfl rfl ?_
   obtain ⟨a171, e172, hf87⟩ := bs hf87
   obtain ⟨p174, x173⟩ := atI_some' e172
   replace h119 := h119.st S143
   obtain ⟨b175, o176, ce177, hA178, hF181, hl179, hd180, v182, v183, rfl, h184, h187, r190, z191⟩ := h119.elem x173
   obtain ⟨A185, c186, rfl⟩ := h184.form
   obtain ⟨A188, c189, rfl⟩ := h187.form
   refine h_iaE (hA := hA178) (hj := (Int.toNat_of_nonneg p174).symm) (hlt := hl179) rfl rfl rfl rfl ?_
   refine h_fa rfl rfl rfl (h_ldC (hc := fun w' ⟨O', hq⟩ => cat1 (cellsAt_agree (hq.agree (i := 0) (by decide)) hF181 hd180)) rfl rfl rfl ?_)
   obtain ⟨n192, e193, hf87⟩ := bs hf87
   have r194 := (chkI_rng e193)
   refine h_adE (he := e193) rfl rfl rfl rfl ?_
   refine hwp_nilT ?_
   refine x_one (i := 21) (by kernel_rfl) rfl ?_
   replace h107 := h107.st S143
   replace h111 := h111.st S143
   replace h115 := h115.st S143
   replace h123 := h123.st S143
   replace h126 := h126.st S143
   replace h134 := h134.st S143
   obtain ⟨O195, S196, hz198, ha199, h197⟩ := Sch.shut (x := s79) (l0 := 2) (l1 := 3) (l2 := 4) (l3 := 5) (l4 := 6) (by decide) h104 h107 h111 h115 h119 h123 h126 h129 h134 r138
   have hZ := S196.lst [2, 3, 4, 5, 6] (by decide)
   obtain ⟨q200, e201, hf87⟩ := bs hf87
   replace h148 := h148.st S196
   refine l_callM (O := O195) (c_stubborn_search_reach h197 h148 rx1 r101 r194 e201) rfl rfl fun v206 w202 O203 S204 h205 => ?_
   obtain ⟨h207, h208⟩ := h205
   obtain ⟨rfl, r209⟩ := h208.err
   replace hZ := hZ.cmp S204 [2, 3, 4, 5, 6] (fun _ h => by cases h; decide) rfl
   refine x_go [] hZ (by kernel_rfl) ?_
   refine x_pre (fuel := 0) [] [(22, true)] (by kernel_rfl) rfl ?_
   refine h_as rfl rfl rfl (hwp_nilT ?_)
   refine x_nil (by kernel_rfl) ?_
   refine ewp_seq (ewp_region (o_mv rfl rfl (o_rnS rfl rfl (fun c210 => ?_) fun c210 => ?_)))
   ·
    replace hf87 := ip hf87 c210
    refine o_z ?_
    refine ewp_true rfl (ewp_seq (ewp_region (o_mv rfl rfl (o_as rfl rfl (o_z ?_)))))
    refine ewp_ret ?_
    obtain rfl := sm hf87
    obtain rfl := hret88 _ rfl
    obtain rfl := sm (fin_ret hm)
    replace hB := (((hB.st S103).st S143).st S196).st S204
    obtain ⟨O', hS', hz, hl⟩ := hE.leave (fun q => if q = 2 then i0 else 0) rfl hB
    exact ret1v rfl (res_tmp rfl) ⟨O', hS', (Ob.leave h207 hz (hl 2 (by decide) (by decide)) hx0.2), (vErr r209)⟩
   ·
    replace hf87 := im hf87 c210
    refine o_z ?_
    refine ewp_false rfl (ewp_skip ?_)
    obtain rfl := sm hf87
    refine (?_ : Exists _)
    replace hB := (((hB.st S103).st S143).st S196).st S204
    replace hx2 := ((hx2.st S143).st S196).st S204
    replace h66 := (((h66.st S103).st S143).st S196).st S204
    exact ⟨_, (), rfl, ⟨rfl, rfl, rfl, rfl, rfl, rfl, trivial⟩, _, hB, h207, hx2, h66⟩
 replace hB := ((((hB.st S7).st S55).st S60).st S65).st S73
 rintro l211 w212 ⟨s215, x216, rfl, hs214, O213, hB, h93⟩
 replace hm := fin_done hm
 refine ewp_sub _ hs214 ?_
 refine ewp_seq (ewp_region (o_as rfl rfl (o_z ?_)))
 refine ewp_ret ?_
 obtain rfl := sm hm
 obtain ⟨O', hS', hz, hl⟩ := hE.leave (fun q => if q = 2 then i0 else 0) rfl hB
 exact ret1v rfl (res_tmp rfl) ⟨O', hS', (Ob.leave h93 hz (hl 2 (by decide) (by decide)) hx0.2), (vErr (show inI64 0 from by decide))⟩
noncomputable def m_stubborn_search_run (x0 : Sch) (x1 : Int) : Option (Rsl × Sch) :=
  bnd (lop (ρ := Rsl × Sch) (fun (s17 : Int × Sch) => bnd (m_pqueue_Queue_Len s17.2.que) fun q71 => if 0 < q71 then (bnd (m_pqueue_Queue_Pop s17.2.que) fun q82 => bnd (if q82.2.2.2.1.n ≠ 0 then (some true) else (bnd (atI s17.2.fin q82.2.2.1) fun a112 => if a112 = true then (some true) else (bnd (atI s17.2.costs q82.2.2.1) fun a129 => if q82.1 ≠ a129 then (some true) else (some false))) : Option Bool) fun y102 => if y102 = true then (some (.next (s17.1, (⟨(⟨s17.2.t.vars, s17.2.t.init, s17.2.t.goal, s17.2.t.ops⟩ : Tsk), s17.2.states, q82.2.2.2.2, s17.2.costs, s17.2.fin, s17.2.exp⟩ : Sch)))) else (bnd (m_registry_Registry_State ((⟨(⟨s17.2.t.vars, s17.2.t.init, s17.2.t.goal, s17.2.t.ops⟩ : Tsk), s17.2.states, q82.2.2.2.2, s17.2.costs, s17.2.fin, s17.2.exp⟩ : Sch).states) q82.2.2.1) fun q194 => if q194.2.n ≠ 0 then (some (.brk (s17.1, (⟨(⟨s17.2.t.vars, s17.2.t.init, s17.2.t.goal, s17.2.t.ops⟩ : Tsk), s17.2.states, q82.2.2.2.2, s17.2.costs, s17.2.fin, s17.2.exp⟩ : Sch)))) else (bnd (m_task_Holds ((⟨(⟨s17.2.t.vars, s17.2.t.init, s17.2.t.goal, s17.2.t.ops⟩ : Tsk), s17.2.states, q82.2.2.2.2, s17.2.costs, s17.2.fin, s17.2.exp⟩ : Sch).t.goal) q194.1) fun q215 => if q215 = true then bnd (m_registry_Registry_Path ((⟨(⟨s17.2.t.vars, s17.2.t.init, s17.2.t.goal, s17.2.t.ops⟩ : Tsk), s17.2.states, q82.2.2.2.2, s17.2.costs, s17.2.fin, s17.2.exp⟩ : Sch).states) q82.2.2.1) fun q294 => if q294.2.n ≠ 0 then (some (.brk (s17.1, (⟨(⟨s17.2.t.vars, s17.2.t.init, s17.2.t.goal, s17.2.t.ops⟩ : Tsk), s17.2.states, q82.2.2.2.2, s17.2.costs, s17.2.fin, s17.2.exp⟩ : Sch)))) else (some (.ret ((⟨1, q294.1, q82.1, (⟨(⟨s17.2.t.vars, s17.2.t.init, s17.2.t.goal, s17.2.t.ops⟩ : Tsk), s17.2.states, q82.2.2.2.2, s17.2.costs, s17.2.fin, s17.2.exp⟩ : Sch).exp⟩ : Rsl), (⟨(⟨s17.2.t.vars, s17.2.t.init, s17.2.t.goal, s17.2.t.ops⟩ : Tsk), s17.2.states, q82.2.2.2.2, s17.2.costs, s17.2.fin, s17.2.exp⟩ : Sch)))) else if x1 ≤ ((⟨(⟨s17.2.t.vars, s17.2.t.init, s17.2.t.goal, s17.2.t.ops⟩ : Tsk), s17.2.states, q82.2.2.2.2, s17.2.costs, s17.2.fin, s17.2.exp⟩ : Sch).exp) then (some (.ret ((⟨3, ([] : List Int), 0, (⟨(⟨s17.2.t.vars, s17.2.t.init, s17.2.t.goal, s17.2.t.ops⟩ : Tsk), s17.2.states, q82.2.2.2.2, s17.2.costs, s17.2.fin, s17.2.exp⟩ : Sch).exp⟩ : Rsl), (⟨(⟨s17.2.t.vars, s17.2.t.init, s17.2.t.goal, s17.2.t.ops⟩ : Tsk), s17.2.states, q82.2.2.2.2, s17.2.costs, s17.2.fin, s17.2.exp⟩ : Sch)))) else (bnd (m_stubborn_search_expand (⟨(⟨s17.2.t.vars, s17.2.t.init, s17.2.t.goal, s17.2.t.ops⟩ : Tsk), s17.2.states, q82.2.2.2.2, s17.2.costs, s17.2.fin, s17.2.exp⟩ : Sch) q82.2.2.1 q194.1) fun q237 => if q237.1.n ≠ 0 then (some (.ret ((⟨3, ([] : List Int), 0, q237.2.exp⟩ : Rsl), q237.2))) else (some (.next ((⟨(⟨s17.2.t.vars, s17.2.t.init, s17.2.t.goal, s17.2.t.ops⟩ : Tsk), s17.2.states, q82.2.2.2.2, s17.2.costs, s17.2.fin, s17.2.exp⟩ : Sch).exp, q237.2))))))) else (some (.brk (s17.1, s17.2)))) (0, x0)) fun res15 => fin res15 fun (s331 : Int × Sch) => some ((⟨2, ([] : List Int), 0, s331.2.exp⟩ : Rsl), s331.2)
theorem c_stubborn_search_run {w : World} {O : Lab} {p0 i0 : Nat} {x0 : Sch} (hx0 : Ob i0 w O (.pointer (some ⟨p0, 0, none⟩)) x0) {x1 : Int} (rx1 : inI64 x1) {r : Rsl × Sch} (hm : m_stubborn_search_run x0 x1 = some r) :
    Fn Try.prog 42 [(.pointer (some ⟨p0, 0, none⟩)), (.int .i64 x1)] w fun v w' => ∃ O', St (eT i0) w O w' O' ∧ Ob i0 w' O' (.pointer (some ⟨p0, 0, none⟩)) r.2 ∧ Vb w' (Fr 0 w' O') v r.1 := by
 obtain ⟨O0, hE, hz0, hl2⟩ := ent1 (w := w) (O := O) hx0.2
 have hx0' := Ob.leave hx0 hz0 hl2 (j := 2) (by decide)
 have hB : Bm w O0 w O0 := Bm.refl
 refine fn_enter Try.func42 rfl Try.ntmps42 rfl ?_
 unfold m_stubborn_search_run at hm
 refine ewp_seq (ewp_region (l_alloc 3 O0 rfl fun g3 w4 O5 S6 h7 => ?_))
 refine o_z ?_
 refine ewp_seq (ewp_region (o_bd rfl rfl rfl ?_))
 refine l_alloc 4 O5 rfl fun g8 w9 O10 S11 h12 => ?_
 refine l_store h12 rfl rfl rfl (Nat.le_of_ble_eq_true rfl) (by first | exact allOne rfl | simp [Value.cells, Value.oneCell', errV_one]) fun w13 S14 h12 => ?_
 replace h12 : Lc 4 w13 O10 g8 50 [(.int .i64 3), (.slice none 0 0), (.int .i64 0), (.int .i64 0)] := h12
 refine o_z ?_
 refine ewp_seq ?_
 obtain ⟨res15, hL16, hm⟩ := bs hm
 refine ewp_join (aft res15 (fun (s17 : Int × Sch) (x18 : Unit) => [(0, (.pointer (some ⟨p0, 0, none⟩))), (4, (.pointer (some ⟨g3, 0, none⟩)))]) (fun s17 x18 w' => ∃ O' : Lab, Bm w O0 w' O' ∧ Ob 2 w' O' (.pointer (some ⟨p0, 0, none⟩)) s17.2 ∧ Lc 3 w' O' g3 50 [(.int .i64 0), (.slice none 0 0), (.int .i64 0), (.int .i64 0)] ∧ inI64 s17.1)) ?_ ?_
 ·
  refine ewp_block ?_
  replace hB := ((hB.st S6).st S11).st S14
  replace hx0' := ((hx0'.st S6).st S11).st S14
  replace h7 := (h7.st S11).st S14
  refine ewp_lop (σ := Int × Sch) (X := Unit) hL16 (fun (s17 : Int × Sch) (x18 : Unit) => [(0, (.pointer (some ⟨p0, 0, none⟩))), (1, (.int .i64 x1)), (4, (.pointer (some ⟨g3, 0, none⟩))), (5, (.pointer (some ⟨g8, 0, none⟩)))]) _ (fun s17 x18 w' => ∃ O' : Lab, Bm w O0 w' O' ∧ Ob 2 w' O' (.pointer (some ⟨p0, 0, none⟩)) s17.2 ∧ Lc 3 w' O' g3 50 [(.int .i64 0), (.slice none 0 0), (.int .i64 0), (.int .i64 0)] ∧ Lc 4 w' O' g8 50 [(.int .i64 3), (.slice none 0 0), (.int .i64 0), (.int .i64 s17.1)] ∧ inI64 s17.1) _ () ⟨O10, hB, hx0', h7, h12, (show inI64 0 from by decide)⟩ ⟨rfl, rfl, rfl, rfl, trivial⟩ ?_
  rintro s17 x18 w21 cc23 ⟨O22, hB, h33, h7, h12, r32⟩ hf25 hret26 hbrk27
  refine ewp_seq (ewp_seq (ewp_region (o_mv rfl rfl (o_nc rfl rfl ?_))))
  obtain ⟨O34, v38, v42, v46, v50, v54, v57, v60, v65, S35, ha37, h36, h39, h43, h47, h51, h55, h58, h61, h66, r70⟩ := Sch.opn h33 2 5 6 7 8 (by decide)
  obtain ⟨A40, c41, rfl⟩ := h39.form
  obtain ⟨A44, c45, rfl⟩ := h43.form
  obtain ⟨A48, c49, rfl⟩ := h47.form
  obtain ⟨A52, c53, rfl⟩ := h51.form
  obtain ⟨p56, rfl⟩ := h55.ptr
  obtain ⟨p59, rfl⟩ := h58.ptr
  obtain ⟨A62, c63, rfl⟩ := h61.form
  obtain ⟨A67, c68, rfl⟩ := h66.form
  refine o_fa rfl rfl (o_ld (hc := Blk.cell (i := 5) (h36.1) rfl) rfl rfl ?_)
  obtain ⟨q71, e72, hf25⟩ := bs hf25
  refine l_callM (O := O34) (c_pqueue_Queue_Len h58 e72) rfl rfl fun v77 w73 O74 S75 h76 => ?_
  obtain ⟨h78, h79⟩ := h76
  obtain ⟨rfl, r80⟩ := h79.int
  refine o_gtS rfl rfl rfl (fun c81 => ?_) fun c81 => ?_
  ·
   replace hf25 := ip hf25 c81
   refine o_z ?_
   refine ewp_true rfl (ewp_skip (ewp_block (ewp_seq (ewp_region (o_mv rfl rfl (o_nc rfl rfl (o_fa rfl rfl ?_)))))))
   replace h36 := h36.st S75
   refine o_ld (hc := Blk.cell (i := 5) (h36.1) rfl) rfl rfl ?_
   obtain ⟨q82, e83, hf25⟩ := bs hf25
   refine l_callM (O := O74) (c_pqueue_Queue_Pop h78 e83) rfl rfl fun v88 w84 O85 S86 h87 => ?_
   obtain ⟨v90, v91, v92, v93, h89, rfl, h94, h95, h96, h97⟩ := h87
   obtain ⟨rfl, r98⟩ := h94.int
   obtain ⟨rfl, r99⟩ := h95.int
   obtain ⟨rfl, r100⟩ := h96.int
   obtain ⟨rfl, r101⟩ := h97.err
   refine o_mv rfl rfl (o_ex rfl rfl rfl (o_ex rfl rfl rfl (o_ex rfl rfl rfl (o_ex rfl rfl rfl (o_as rfl rfl (o_as rfl rfl (o_as rfl rfl (o_as rfl rfl (o_z ?_)))))))))
   refine ewp_seq (ewp_seq ?_)
   obtain ⟨y102, hy103, hf25⟩ := bs hf25
   refine ewp_join (fun l' w' => ∃ (x105 : Unit) (O' : Lab), subs l' [(0, (.pointer (some ⟨p0, 0, none⟩))), (1, (.int .i64 x1)), (4, (.pointer (some ⟨g3, 0, none⟩))), (5, (.pointer (some ⟨g8, 0, none⟩))), (6, (.int .i64 q82.1)), (8, (.int .i64 q82.2.2.1)), (51, (.bool y102))] ∧ Bm w O0 w' O' ∧ Ob 2 w' O' (.pointer (some ⟨p0, 0, none⟩)) (⟨(⟨s17.2.t.vars, s17.2.t.init, s17.2.t.goal, s17.2.t.ops⟩ : Tsk), s17.2.states, q82.2.2.2.2, s17.2.costs, s17.2.fin, s17.2.exp⟩ : Sch) ∧ Lc 3 w' O' g3 50 [(.int .i64 0), (.slice none 0 0), (.int .i64 0), (.int .i64 0)] ∧ Lc 4 w' O' g8 50 [(.int .i64 3), (.slice none 0 0), (.int .i64 0), (.int .i64 s17.1)]) ?_ ?_
   ·
    refine ewp_region (o_mv rfl rfl (o_rnS rfl rfl (fun c106 => ?_) fun c106 => ?_))
    ·
     replace hy103 := ip hy103 c106
     refine o_mv rfl rfl (owp_no rfl rfl rfl rfl (owp_no rfl rfl rfl rfl (owp_no rfl rfl rfl rfl (owp_no rfl rfl rfl rfl (owp_no rfl rfl rfl rfl (owp_no rfl rfl rfl rfl (owp_no rfl rfl rfl rfl (o_pt rfl rfl rfl (o_mv rfl rfl (owp_no rfl rfl rfl rfl (owp_no rfl rfl rfl rfl (owp_no rfl rfl rfl rfl (owp_no rfl rfl rfl rfl (owp_no rfl rfl rfl rfl ?_))))))))))))))
     refine owp_no rfl rfl rfl rfl (owp_no rfl rfl rfl rfl (owp_no rfl rfl rfl rfl (owp_no rfl rfl rfl rfl (o_pt rfl rfl rfl (o_z ?_)))))
     replace h36 := h36.st S86
     replace h39 := (h39.st S75).st S86
     replace h43 := (h43.st S75).st S86
     replace h47 := (h47.st S75).st S86
     replace h51 := (h51.st S75).st S86
     replace h55 := (h55.st S75).st S86
     replace h61 := (h61.st S75).st S86
     replace h66 := (h66.st S75).st S86
     obtain ⟨O107, S108, hz110, ha111, h109⟩ := Sch.shut (x := (⟨(⟨s17.2.t.vars, s17.2.t.init, s17.2.t.goal, s17.2.t.ops⟩ : Tsk), s17.2.states, q82.2.2.2.2, s17.2.costs, s17.2.fin, s17.2.exp⟩ : Sch)) (l0 := 2) (l1 := 5) (l2 := 6) (l3 := 7) (l4 := 8) (by decide) h36 h39 h43 h47 h51 h55 h89 h61 h66 r70
     obtain rfl := sm hy103
     replace hB := (((hB.st S35).st S75).st S86).st S108
     replace h7 := (((h7.st S35).st S75).st S86).st S108
     replace h12 := (((h12.st S35).st S75).st S86).st S108
     exact ⟨(), _, ⟨rfl, rfl, rfl, rfl, rfl, rfl, rfl, trivial⟩, hB, h109, h7, h12⟩
    ·
     replace hy103 := im hy103 c106
     refine o_mv rfl rfl (owp_yes rfl rfl (o_mv rfl rfl (owp_yes rfl rfl (o_nc rfl rfl (owp_yes rfl rfl (o_fa rfl rfl (owp_yes rfl rfl ?_)))))))
     replace h36 := h36.st S86
     refine o_ld (hc := Blk.cell (i := 7) (h36.1) rfl) rfl rfl ?_
     refine owp_yes rfl rfl (o_mv rfl rfl (owp_yes rfl rfl ?_))
     obtain ⟨a112, e113, hy103⟩ := bs hy103
     obtain ⟨p115, x114⟩ := atI_some' e113
     replace h66 := (h66.st S75).st S86
     obtain ⟨b116, o117, ce118, hA119, hl120, hd121, rfl⟩ := h66.elem x114
     refine o_iaE (hA := hA119) (hj := (Int.toNat_of_nonneg p115).symm) (hlt := hl120) rfl rfl rfl ?_
     refine owp_yes rfl rfl (o_ld (hc := cat0 hd121) rfl rfl ?_)
     refine o_pf rfl rfl rfl (o_mv rfl rfl ?_)
     rcases Bool.eq_false_or_eq_true a112 with c123 | c123
     ·
      try rw [c123]
      replace hy103 := ip hy103 c123
      refine owp_no rfl rfl rfl rfl (owp_no rfl rfl rfl rfl (owp_no rfl rfl rfl rfl (owp_no rfl rfl rfl rfl (owp_no rfl rfl rfl rfl (owp_no rfl rfl rfl rfl (owp_no rfl rfl rfl rfl (owp_no rfl rfl rfl rfl (owp_no rfl rfl rfl rfl (o_pt rfl rfl rfl (o_z ?_))))))))))
      replace h39 := (h39.st S75).st S86
      replace h43 := (h43.st S75).st S86
      replace h47 := (h47.st S75).st S86
      replace h51 := (h51.st S75).st S86
      replace h55 := (h55.st S75).st S86
      replace h61 := (h61.st S75).st S86
      obtain ⟨O124, S125, hz127, ha128, h126⟩ := Sch.shut (x := (⟨(⟨s17.2.t.vars, s17.2.t.init, s17.2.t.goal, s17.2.t.ops⟩ : Tsk), s17.2.states, q82.2.2.2.2, s17.2.costs, s17.2.fin, s17.2.exp⟩ : Sch)) (l0 := 2) (l1 := 5) (l2 := 6) (l3 := 7) (l4 := 8) (by decide) h36 h39 h43 h47 h51 h55 h89 h61 h66 r70
      obtain rfl := sm hy103
      replace hB := (((hB.st S35).st S75).st S86).st S125
      replace h7 := (((h7.st S35).st S75).st S86).st S125
      replace h12 := (((h12.st S35).st S75).st S86).st S125
      exact ⟨(), _, ⟨rfl, rfl, rfl, rfl, rfl, rfl, rfl, trivial⟩, hB, h126, h7, h12⟩
     ·
      try rw [c123]
      replace hy103 := im' hy103 c123
      refine owp_yes rfl rfl (o_mv rfl rfl (owp_yes rfl rfl (o_mv rfl rfl (owp_yes rfl rfl (o_nc rfl rfl (owp_yes rfl rfl (o_fa rfl rfl (owp_yes rfl rfl (o_ld (hc := Blk.cell (i := 6) (h36.1) rfl) rfl rfl ?_)))))))))
      refine owp_yes rfl rfl (o_mv rfl rfl (owp_yes rfl rfl ?_))
      obtain ⟨a129, e130, hy103⟩ := bs hy103
      obtain ⟨p132, x131⟩ := atI_some' e130
      replace h61 := (h61.st S75).st S86
      obtain ⟨b133, o134, ce135, hA136, hl137, hd138, rfl, r140⟩ := h61.elem x131
      refine o_iaE (hA := hA136) (hj := (Int.toNat_of_nonneg p132).symm) (hlt := hl137) rfl rfl rfl ?_
      refine owp_yes rfl rfl (o_ld (hc := cat0 hd138) rfl rfl ?_)
      refine owp_yes rfl rfl (o_neS rfl rfl rfl (fun c141 => ?_) fun c141 => ?_)
      ·
       replace hy103 := ip hy103 c141
       refine o_pf rfl rfl rfl (o_z ?_)
       replace h39 := (h39.st S75).st S86
       replace h43 := (h43.st S75).st S86
       replace h47 := (h47.st S75).st S86
       replace h51 := (h51.st S75).st S86
       replace h55 := (h55.st S75).st S86
       obtain ⟨O142, S143, hz145, ha146, h144⟩ := Sch.shut (x := (⟨(⟨s17.2.t.vars, s17.2.t.init, s17.2.t.goal, s17.2.t.ops⟩ : Tsk), s17.2.states, q82.2.2.2.2, s17.2.costs, s17.2.fin, s17.2.exp⟩ : Sch)) (l0 := 2) (l1 := 5) (l2 := 6) (l3 := 7) (l4 := 8) (by decide) h36 h39 h43 h47 h51 h55 h89 h61 h66 r70
       obtain rfl := sm hy103
       replace hB := (((hB.st S35).st S75).st S86).st S143
       replace h7 := (((h7.st S35).st S75).st S86).st S143
       replace h12 := (((h12.st S35).st S75).st S86).st S143
       exact ⟨(), _, ⟨rfl, rfl, rfl, rfl, rfl, rfl, rfl, trivial⟩, hB, h144, h7, h12⟩
      ·
       replace hy103 := im hy103 c141
       refine o_pf rfl rfl rfl (o_z ?_)
       replace h39 := (h39.st S75).st S86
       replace h43 := (h43.st S75).st S86
       replace h47 := (h47.st S75).st S86
       replace h51 := (h51.st S75).st S86
       replace h55 := (h55.st S75).st S86
       obtain ⟨O147, S148, hz150, ha151, h149⟩ := Sch.shut (x := (⟨(⟨s17.2.t.vars, s17.2.t.init, s17.2.t.goal, s17.2.t.ops⟩ : Tsk), s17.2.states, q82.2.2.2.2, s17.2.costs, s17.2.fin, s17.2.exp⟩ : Sch)) (l0 := 2) (l1 := 5) (l2 := 6) (l3 := 7) (l4 := 8) (by decide) h36 h39 h43 h47 h51 h55 h89 h61 h66 r70
       obtain rfl := sm hy103
       replace hB := (((hB.st S35).st S75).st S86).st S148
       replace h7 := (((h7.st S35).st S75).st S86).st S148
       replace h12 := (((h12.st S35).st S75).st S86).st S148
       exact ⟨(), _, ⟨rfl, rfl, rfl, rfl, rfl, rfl, rfl, trivial⟩, hB, h149, h7, h12⟩
   replace hB := ((hB.st S35).st S75).st S86
   replace h7 := ((h7.st S35).st S75).st S86
   replace h12 := ((h12.st S35).st S75).st S86
   rintro l152 w153 ⟨x105, O154, hs155, hB, h105, h7, h12⟩
   refine ewp_sub _ hs155 ?_
   refine ewp_cond rfl (fun c156 => ?_) (fun c156 => ?_)
   ·
    replace hf25 := ip hf25 c156
    refine ewp_exit ?_
    obtain rfl := sm hf25
    refine (?_ : Exists _)
    exact ⟨_, (), rfl, ⟨rfl, rfl, rfl, rfl, trivial⟩, _, hB, h105, h7, h12, r32⟩
   ·
    replace hf25 := im' hf25 c156
    refine ewp_skip (ewp_seq (ewp_region (o_mv rfl rfl (o_nc rfl rfl ?_))))
    obtain ⟨O157, v161, v165, v169, v173, v177, v180, v183, v188, S158, ha160, h159, h162, h166, h170, h174, h178, h181, h184, h189, r193⟩ := Sch.opn h105 2 5 6 7 8 (by decide)
    obtain ⟨A163, c164, rfl⟩ := h162.form
    obtain ⟨A167, c168, rfl⟩ := h166.form
    obtain ⟨A171, c172, rfl⟩ := h170.form
    obtain ⟨A175, c176, rfl⟩ := h174.form
    obtain ⟨p179, rfl⟩ := h178.ptr
    obtain ⟨p182, rfl⟩ := h181.ptr
    obtain ⟨A185, c186, rfl⟩ := h184.form
    obtain ⟨A190, c191, rfl⟩ := h189.form
    refine o_fa rfl rfl (o_ld (hc := Blk.cell (i := 4) (h159.1) rfl) rfl rfl ?_)
    refine o_mv rfl rfl ?_
    obtain ⟨q194, e195, hf25⟩ := bs hf25
    refine l_callM (O := O157) (c_registry_Registry_State h178 r100 e195) rfl rfl fun v200 w196 O197 S198 h199 => ?_
    obtain ⟨v202, v203, h201, rfl, h204, h205⟩ := h199
    obtain ⟨A206, c207, rfl⟩ := h204.form
    obtain ⟨rfl, r208⟩ := h205.err
    refine o_mv rfl rfl (o_ex rfl rfl rfl (o_ex rfl rfl rfl (o_as rfl rfl (o_as rfl rfl (o_z ?_)))))
    refine ewp_seq (ewp_seq (ewp_region (o_mv rfl rfl (o_rnS rfl rfl (fun c209 => ?_) fun c209 => ?_))))
    ·
     replace hf25 := ip hf25 c209
     refine o_z ?_
     refine ewp_true rfl (ewp_exit ?_)
     replace h159 := h159.st S198
     replace h162 := h162.st S198
     replace h166 := h166.st S198
     replace h170 := h170.st S198
     replace h174 := h174.st S198
     replace h181 := h181.st S198
     replace h184 := h184.st S198
     replace h189 := h189.st S198
     obtain ⟨O210, S211, hz213, ha214, h212⟩ := Sch.shut (x := (⟨(⟨s17.2.t.vars, s17.2.t.init, s17.2.t.goal, s17.2.t.ops⟩ : Tsk), s17.2.states, q82.2.2.2.2, s17.2.costs, s17.2.fin, s17.2.exp⟩ : Sch)) (l0 := 2) (l1 := 5) (l2 := 6) (l3 := 7) (l4 := 8) (by decide) h159 h162 h166 h170 h174 h201 h181 h184 h189 r193
     obtain rfl := sm hf25
     refine (?_ : Exists _)
     replace hB := ((hB.st S158).st S198).st S211
     replace h7 := ((h7.st S158).st S198).st S211
     exact ⟨_, (), hbrk27 _ rfl, ⟨rfl, rfl, trivial⟩, _, hB, h212, h7, r32⟩
    ·
     replace hf25 := im hf25 c209
     refine o_z ?_
     refine ewp_false rfl (ewp_skip (ewp_seq (ewp_seq (ewp_region (o_mv rfl rfl (o_nc rfl rfl (o_fa rfl rfl (o_fa rfl rfl ?_))))))))
     replace h159 := h159.st S198
     refine o_ld (hc := Blk.cell (i := 2) (h159.1) rfl) rfl rfl ?_
     refine o_mv rfl rfl ?_
     obtain ⟨q215, e216, hf25⟩ := bs hf25
     replace h170 := h170.st S198
     refine l_callA (O := O197) (A := All w196) (R := fun w' F v => Vb w' F v q215) (c_task_Holds (fun _ h => h) (Vb.mono (F := Fr 0 w196 O197) h170 Fr.lt) (Vb.mono (F := Fr 0 w196 O197) h204 Fr.lt) e216) rfl rfl fun v221 w217 O218 S219 h220 => ?_
     obtain rfl := h220.bool
     cases q215
     case false =>
      replace hf25 := iF hf25
      refine o_z ?_
      refine ewp_false rfl (ewp_skip (ewp_seq (ewp_region (o_mv rfl rfl (o_nc rfl rfl (o_fa rfl rfl ?_))))))
      replace h159 := h159.st S219
      refine o_ld (hc := Blk.cell (i := 8) (h159.1) rfl) rfl rfl ?_
      refine o_fa rfl rfl ?_
      replace h12 := ((h12.st S158).st S198).st S219
      refine l_store h12 rfl rfl rfl (Nat.le_of_ble_eq_true rfl) (by first | exact allOne rfl | simp [Value.cells, Value.oneCell', errV_one]) fun w222 S223 h12 => ?_
      replace h12 : Lc 4 w222 O218 g8 50 [(.int .i64 3), (.slice none 0 0), (.int .i64 0), (.int .i64 ((⟨(⟨s17.2.t.vars, s17.2.t.init, s17.2.t.goal, s17.2.t.ops⟩ : Tsk), s17.2.states, q82.2.2.2.2, s17.2.costs, s17.2.fin, s17.2.exp⟩ : Sch).exp))] := h12
      refine o_z ?_
      refine ewp_seq (ewp_seq (ewp_region (o_mv rfl rfl (o_nc rfl rfl (o_fa rfl rfl ?_)))))
      replace h159 := h159.st S223
      refine o_ld (hc := Blk.cell (i := 8) (h159.1) rfl) rfl rfl ?_
      refine o_mv rfl rfl (o_geS rfl rfl rfl (fun c224 => ?_) fun c224 => ?_)
      ·
       replace hf25 := ip hf25 c224
       refine o_z ?_
       refine ewp_true rfl (ewp_seq (ewp_region (o_la (hl := rfl) (hc := (h12.1).cellsAt) rfl rfl ?_)))
       replace h7 := (((h7.st S158).st S198).st S219).st S223
       refine l_store h7 rfl rfl rfl (Nat.le_of_ble_eq_true rfl) (by first | exact allOne rfl | simp [Value.cells, Value.oneCell', errV_one]) fun w225 S226 h7 => ?_
       replace h7 : Lc 3 w225 O218 g3 50 [(.int .i64 3), (.slice none 0 0), (.int .i64 0), (.int .i64 ((⟨(⟨s17.2.t.vars, s17.2.t.init, s17.2.t.goal, s17.2.t.ops⟩ : Tsk), s17.2.states, q82.2.2.2.2, s17.2.costs, s17.2.fin, s17.2.exp⟩ : Sch).exp))] := h7
       refine o_z ?_
       refine ewp_ret ?_
       replace h159 := h159.st S226
       replace h162 := (((h162.st S198).st S219).st S223).st S226
       replace h166 := (((h166.st S198).st S219).st S223).st S226
       replace h170 := ((h170.st S219).st S223).st S226
       replace h174 := (((h174.st S198).st S219).st S223).st S226
       replace h181 := (((h181.st S198).st S219).st S223).st S226
       replace h184 := (((h184.st S198).st S219).st S223).st S226
       replace h189 := (((h189.st S198).st S219).st S223).st S226
       replace h201 := ((h201.st S219).st S223).st S226
       obtain ⟨O227, S228, hz230, ha231, h229⟩ := Sch.shut (x := (⟨(⟨s17.2.t.vars, s17.2.t.init, s17.2.t.goal, s17.2.t.ops⟩ : Tsk), s17.2.states, q82.2.2.2.2, s17.2.costs, s17.2.fin, s17.2.exp⟩ : Sch)) (l0 := 2) (l1 := 5) (l2 := 6) (l3 := 7) (l4 := 8) (by decide) h159 h162 h166 h170 h174 h201 h181 h184 h189 r193
       obtain rfl := sm hf25
       obtain rfl := hret26 _ rfl
       obtain rfl := sm (fin_ret hm)
       replace hB := (((((hB.st S158).st S198).st S219).st S223).st S226).st S228
       obtain ⟨O', hS', hz, hl⟩ := hE.leave (fun q => if q = 2 then i0 else 0) rfl hB
       replace h7 := h7.st S228
       exact ret1v rfl (res_cell (cs := [(.int .i64 3), (.slice none 0 0), (.int .i64 0), (.int .i64 ((⟨(⟨s17.2.t.vars, s17.2.t.init, s17.2.t.goal, s17.2.t.ops⟩ : Tsk), s17.2.states, q82.2.2.2.2, s17.2.costs, s17.2.fin, s17.2.exp⟩ : Sch).exp))]) rfl rfl h7.1.cellsAt) ⟨O', hS', (Ob.leave h229 hz (hl 2 (by decide) (by decide)) hx0.2), (Vb.mono (Vb.ofAgg (cs := [(.int .i64 3), (.slice none 0 0), (.int .i64 0), (.int .i64 ((⟨(⟨s17.2.t.vars, s17.2.t.init, s17.2.t.goal, s17.2.t.ops⟩ : Tsk), s17.2.states, q82.2.2.2.2, s17.2.costs, s17.2.fin, s17.2.exp⟩ : Sch).exp))]) (x := (⟨3, ([] : List Int), 0, (⟨(⟨s17.2.t.vars, s17.2.t.init, s17.2.t.goal, s17.2.t.ops⟩ : Tsk), s17.2.states, q82.2.2.2.2, s17.2.costs, s17.2.fin, s17.2.exp⟩ : Sch).exp⟩ : Rsl)) rfl ⟨_, rfl, (Vb.nil _ _), (show inI64 (3) from by decide), (show inI64 0 from by decide), r193⟩) hz)⟩
      ·
       replace hf25 := im hf25 c224
       refine o_z ?_
       refine ewp_false rfl (ewp_skip (ewp_seq (ewp_region (o_mv rfl rfl (o_mv rfl rfl (o_mv rfl rfl ?_))))))
       replace h162 := ((h162.st S198).st S219).st S223
       replace h166 := ((h166.st S198).st S219).st S223
       replace h170 := (h170.st S219).st S223
       replace h174 := ((h174.st S198).st S219).st S223
       replace h181 := ((h181.st S198).st S219).st S223
       replace h184 := ((h184.st S198).st S219).st S223
       replace h189 := ((h189.st S198).st S219).st S223
       replace h201 := (h201.st S219).st S223
       obtain ⟨O232, S233, hz235, ha236, h234⟩ := Sch.shut (x := (⟨(⟨s17.2.t.vars, s17.2.t.init, s17.2.t.goal, s17.2.t.ops⟩ : Tsk), s17.2.states, q82.2.2.2.2, s17.2.costs, s17.2.fin, s17.2.exp⟩ : Sch)) (l0 := 2) (l1 := 5) (l2 := 6) (l3 := 7) (l4 := 8) (by decide) h159 h162 h166 h170 h174 h201 h181 h184 h189 r193
       obtain ⟨q237, e238, hf25⟩ := bs hf25
       replace h204 := ((h204.st S219).st S223).st S233
       refine l_callM (O := O232) (c_stubborn_search_expand h234 r100 h204 e238) rfl rfl fun v243 w239 O240 S241 h242 => ?_
       obtain ⟨h244, h245⟩ := h242
       obtain ⟨rfl, r246⟩ := h245.err
       refine o_rnS rfl rfl (fun c247 => ?_) fun c247 => ?_
       ·
        replace hf25 := ip hf25 c247
        refine o_z ?_
        refine ewp_true rfl (ewp_seq (ewp_region (o_mv rfl rfl (o_nc rfl rfl ?_))))
        obtain ⟨O248, v252, v256, v260, v264, v268, v271, v274, v279, S249, ha251, h250, h253, h257, h261, h265, h269, h272, h275, h280, r284⟩ := Sch.opn h244 2 5 6 7 8 (by decide)
        obtain ⟨A254, c255, rfl⟩ := h253.form
        obtain ⟨A258, c259, rfl⟩ := h257.form
        obtain ⟨A262, c263, rfl⟩ := h261.form
        obtain ⟨A266, c267, rfl⟩ := h265.form
        obtain ⟨p270, rfl⟩ := h269.ptr
        obtain ⟨p273, rfl⟩ := h272.ptr
        obtain ⟨A276, c277, rfl⟩ := h275.form
        obtain ⟨A281, c282, rfl⟩ := h280.form
        refine o_fa rfl rfl (o_ld (hc := Blk.cell (i := 8) (h250.1) rfl) rfl rfl ?_)
        refine o_fa rfl rfl ?_
        replace h12 := ((h12.st S233).st S241).st S249
        refine l_store h12 rfl rfl rfl (Nat.le_of_ble_eq_true rfl) (by first | exact allOne rfl | simp [Value.cells, Value.oneCell', errV_one]) fun w285 S286 h12 => ?_
        replace h12 : Lc 4 w285 O248 g8 50 [(.int .i64 3), (.slice none 0 0), (.int .i64 0), (.int .i64 q237.2.exp)] := h12
        refine o_z ?_
        refine ewp_seq (ewp_region (o_la (hl := rfl) (hc := (h12.1).cellsAt) rfl rfl ?_))
        replace h7 := (((((((h7.st S158).st S198).st S219).st S223).st S233).st S241).st S249).st S286
        refine l_store h7 rfl rfl rfl (Nat.le_of_ble_eq_true rfl) (by first | exact allOne rfl | simp [Value.cells, Value.oneCell', errV_one]) fun w287 S288 h7 => ?_
        replace h7 : Lc 3 w287 O248 g3 50 [(.int .i64 3), (.slice none 0 0), (.int .i64 0), (.int .i64 q237.2.exp)] := h7
        refine o_z ?_
        refine ewp_ret ?_
        replace h250 := (h250.st S286).st S288
        replace h253 := (h253.st S286).st S288
        replace h257 := (h257.st S286).st S288
        replace h261 := (h261.st S286).st S288
        replace h265 := (h265.st S286).st S288
        replace h269 := (h269.st S286).st S288
        replace h272 := (h272.st S286).st S288
        replace h275 := (h275.st S286).st S288
        replace h280 := (h280.st S286).st S288
        obtain ⟨O289, S290, hz292, ha293, h291⟩ := Sch.shut (x := q237.2) (l0 := 2) (l1 := 5) (l2 := 6) (l3 := 7) (l4 := 8) (by decide) h250 h253 h257 h261 h265 h269 h272 h275 h280 r284
        obtain rfl := sm hf25
        obtain rfl := hret26 _ rfl
        obtain rfl := sm (fin_ret hm)
        replace hB := (((((((((hB.st S158).st S198).st S219).st S223).st S233).st S241).st S249).st S286).st S288).st S290
        obtain ⟨O', hS', hz, hl⟩ := hE.leave (fun q => if q = 2 then i0 else 0) rfl hB
        replace h7 := h7.st S290
        exact ret1v rfl (res_cell (cs := [(.int .i64 3), (.slice none 0 0), (.int .i64 0), (.int .i64 q237.2.exp)]) rfl rfl h7.1.cellsAt) ⟨O', hS', (Ob.leave h291 hz (hl 2 (by decide) (by decide)) hx0.2), (Vb.mono (Vb.ofAgg (cs := [(.int .i64 3), (.slice none 0 0), (.int .i64 0), (.int .i64 q237.2.exp)]) (x := (⟨3, ([] : List Int), 0, q237.2.exp⟩ : Rsl)) rfl ⟨_, rfl, (Vb.nil _ _), (show inI64 (3) from by decide), (show inI64 0 from by decide), r284⟩) hz)⟩
       ·
        replace hf25 := im hf25 c247
        refine o_z ?_
        refine ewp_false rfl (ewp_skip ?_)
        obtain rfl := sm hf25
        refine (?_ : Exists _)
        replace hB := (((((hB.st S158).st S198).st S219).st S223).st S233).st S241
        replace h7 := (((((h7.st S158).st S198).st S219).st S223).st S233).st S241
        replace h12 := (h12.st S233).st S241
        exact ⟨_, (), rfl, ⟨rfl, rfl, rfl, rfl, trivial⟩, _, hB, h244, h7, h12, r193⟩
     replace hf25 := iT hf25
     refine o_z ?_
     refine ewp_true rfl (ewp_seq (ewp_region (o_mv rfl rfl (o_nc rfl rfl (o_fa rfl rfl ?_)))))
     replace h159 := h159.st S219
     refine o_ld (hc := Blk.cell (i := 4) (h159.1) rfl) rfl rfl ?_
     refine o_mv rfl rfl ?_
     obtain ⟨q294, e295, hf25⟩ := bs hf25
     replace h201 := h201.st S219
     refine l_callM (O := O218) (c_registry_Registry_Path h201 r100 e295) rfl rfl fun v300 w296 O297 S298 h299 => ?_
     obtain ⟨v302, v303, h301, rfl, h304, h305⟩ := h299
     obtain ⟨A306, c307, rfl⟩ := h304.form
     obtain ⟨rfl, r308⟩ := h305.err
     refine o_mv rfl rfl (o_ex rfl rfl rfl (o_ex rfl rfl rfl (o_as rfl rfl (o_as rfl rfl (o_z ?_)))))
     refine ewp_seq (ewp_seq (ewp_region (o_mv rfl rfl (o_rnS rfl rfl (fun c309 => ?_) fun c309 => ?_))))
     ·
      replace hf25 := ip hf25 c309
      refine o_z ?_
      refine ewp_true rfl (ewp_exit ?_)
      replace h159 := h159.st S298
      replace h162 := ((h162.st S198).st S219).st S298
      replace h166 := ((h166.st S198).st S219).st S298
      replace h170 := (h170.st S219).st S298
      replace h174 := ((h174.st S198).st S219).st S298
      replace h181 := ((h181.st S198).st S219).st S298
      replace h184 := ((h184.st S198).st S219).st S298
      replace h189 := ((h189.st S198).st S219).st S298
      obtain ⟨O310, S311, hz313, ha314, h312⟩ := Sch.shut (x := (⟨(⟨s17.2.t.vars, s17.2.t.init, s17.2.t.goal, s17.2.t.ops⟩ : Tsk), s17.2.states, q82.2.2.2.2, s17.2.costs, s17.2.fin, s17.2.exp⟩ : Sch)) (l0 := 2) (l1 := 5) (l2 := 6) (l3 := 7) (l4 := 8) (by decide) h159 h162 h166 h170 h174 h301 h181 h184 h189 r193
      obtain rfl := sm hf25
      refine (?_ : Exists _)
      replace hB := ((((hB.st S158).st S198).st S219).st S298).st S311
      replace h7 := ((((h7.st S158).st S198).st S219).st S298).st S311
      exact ⟨_, (), hbrk27 _ rfl, ⟨rfl, rfl, trivial⟩, _, hB, h312, h7, r32⟩
     ·
      replace hf25 := im hf25 c309
      refine o_z ?_
      refine ewp_false rfl (ewp_skip (ewp_seq (ewp_region (o_mv rfl rfl (o_mv rfl rfl (o_mv rfl rfl (o_nc rfl rfl (o_fa rfl rfl ?_))))))))
      replace h159 := h159.st S298
      refine o_ld (hc := Blk.cell (i := 8) (h159.1) rfl) rfl rfl ?_
      refine o_bd rfl rfl rfl ?_
      replace h7 := (((h7.st S158).st S198).st S219).st S298
      refine l_store h7 rfl rfl rfl (Nat.le_of_ble_eq_true rfl) (by first | exact allOne rfl | simp [Value.cells, Value.oneCell', errV_one]) fun w315 S316 h7 => ?_
      replace h7 : Lc 3 w315 O297 g3 50 [(.int .i64 1), (.slice A306 q294.1.length c307), (.int .i64 q82.1), (.int .i64 ((⟨(⟨s17.2.t.vars, s17.2.t.init, s17.2.t.goal, s17.2.t.ops⟩ : Tsk), s17.2.states, q82.2.2.2.2, s17.2.costs, s17.2.fin, s17.2.exp⟩ : Sch).exp))] := h7
      refine o_z ?_
      refine ewp_ret ?_
      replace h159 := h159.st S316
      replace h162 := (((h162.st S198).st S219).st S298).st S316
      replace h166 := (((h166.st S198).st S219).st S298).st S316
      replace h170 := ((h170.st S219).st S298).st S316
      replace h174 := (((h174.st S198).st S219).st S298).st S316
      replace h181 := (((h181.st S198).st S219).st S298).st S316
      replace h184 := (((h184.st S198).st S219).st S298).st S316
      replace h189 := (((h189.st S198).st S219).st S298).st S316
      replace h301 := h301.st S316
      obtain ⟨O317, S318, hz320, ha321, h319⟩ := Sch.shut (x := (⟨(⟨s17.2.t.vars, s17.2.t.init, s17.2.t.goal, s17.2.t.ops⟩ : Tsk), s17.2.states, q82.2.2.2.2, s17.2.costs, s17.2.fin, s17.2.exp⟩ : Sch)) (l0 := 2) (l1 := 5) (l2 := 6) (l3 := 7) (l4 := 8) (by decide) h159 h162 h166 h170 h174 h301 h181 h184 h189 r193
      obtain rfl := sm hf25
      obtain rfl := hret26 _ rfl
      obtain rfl := sm (fin_ret hm)
      replace hB := (((((hB.st S158).st S198).st S219).st S298).st S316).st S318
      obtain ⟨O', hS', hz, hl⟩ := hE.leave (fun q => if q = 2 then i0 else 0) rfl hB
      replace h7 := h7.st S318
      replace h304 := (h304.st S316).st S318
      exact ret1v rfl (res_cell (cs := [(.int .i64 1), (.slice A306 q294.1.length c307), (.int .i64 q82.1), (.int .i64 ((⟨(⟨s17.2.t.vars, s17.2.t.init, s17.2.t.goal, s17.2.t.ops⟩ : Tsk), s17.2.states, q82.2.2.2.2, s17.2.costs, s17.2.fin, s17.2.exp⟩ : Sch).exp))]) rfl rfl h7.1.cellsAt) ⟨O', hS', (Ob.leave h319 hz (hl 2 (by decide) (by decide)) hx0.2), (Vb.mono (Vb.ofAgg (cs := [(.int .i64 1), (.slice A306 q294.1.length c307), (.int .i64 q82.1), (.int .i64 ((⟨(⟨s17.2.t.vars, s17.2.t.init, s17.2.t.goal, s17.2.t.ops⟩ : Tsk), s17.2.states, q82.2.2.2.2, s17.2.costs, s17.2.fin, s17.2.exp⟩ : Sch).exp))]) (x := (⟨1, q294.1, q82.1, (⟨(⟨s17.2.t.vars, s17.2.t.init, s17.2.t.goal, s17.2.t.ops⟩ : Tsk), s17.2.states, q82.2.2.2.2, s17.2.costs, s17.2.fin, s17.2.exp⟩ : Sch).exp⟩ : Rsl)) rfl ⟨_, rfl, h304, (show inI64 (1) from by decide), r98, r193⟩) hz)⟩
  ·
   replace hf25 := im hf25 c81
   refine o_z ?_
   refine ewp_false rfl (ewp_exit ?_)
   replace h36 := h36.st S75
   replace h39 := h39.st S75
   replace h43 := h43.st S75
   replace h47 := h47.st S75
   replace h51 := h51.st S75
   replace h55 := h55.st S75
   replace h61 := h61.st S75
   replace h66 := h66.st S75
   obtain ⟨O322, S323, hz325, ha326, h324⟩ := Sch.shut (x := s17.2) (l0 := 2) (l1 := 5) (l2 := 6) (l3 := 7) (l4 := 8) (by decide) h36 h39 h43 h47 h51 h55 h78 h61 h66 r70
   obtain rfl := sm hf25
   refine (?_ : Exists _)
   replace hB := ((hB.st S35).st S75).st S323
   replace h7 := ((h7.st S35).st S75).st S323
   exact ⟨_, (), hbrk27 _ rfl, ⟨rfl, rfl, trivial⟩, _, hB, h324, h7, r32⟩
 replace hB := ((hB.st S6).st S11).st S14
 replace h7 := (h7.st S11).st S14
 rintro l327 w328 ⟨s331, x332, rfl, hs330, O329, hB, h33, h7, r32⟩
 replace hm := fin_done hm
 refine ewp_sub _ hs330 ?_
 refine ewp_seq (ewp_region (o_mv rfl rfl (o_nc rfl rfl ?_)))
 obtain ⟨O333, v337, v341, v345, v349, v353, v356, v359, v364, S334, ha336, h335, h338, h342, h346, h350, h354, h357, h360, h365, r369⟩ := Sch.opn h33 2 5 6 7 8 (by decide)
 obtain ⟨A339, c340, rfl⟩ := h338.form
 obtain ⟨A343, c344, rfl⟩ := h342.form
 obtain ⟨A347, c348, rfl⟩ := h346.form
 obtain ⟨A351, c352, rfl⟩ := h350.form
 obtain ⟨p355, rfl⟩ := h354.ptr
 obtain ⟨p358, rfl⟩ := h357.ptr
 obtain ⟨A361, c362, rfl⟩ := h360.form
 obtain ⟨A366, c367, rfl⟩ := h365.form
 refine o_fa rfl rfl (o_ld (hc := Blk.cell (i := 8) (h335.1) rfl) rfl rfl ?_)
 refine o_bd rfl rfl rfl ?_
 replace h7 := h7.st S334
 refine l_store h7 rfl rfl rfl (Nat.le_of_ble_eq_true rfl) (by first | exact allOne rfl | simp [Value.cells, Value.oneCell', errV_one]) fun w370 S371 h7 => ?_
 replace h7 : Lc 3 w370 O333 g3 50 [(.int .i64 2), (.slice none 0 0), (.int .i64 0), (.int .i64 s331.2.exp)] := h7
 refine o_z ?_
 refine ewp_ret ?_
 replace h335 := h335.st S371
 replace h338 := h338.st S371
 replace h342 := h342.st S371
 replace h346 := h346.st S371
 replace h350 := h350.st S371
 replace h354 := h354.st S371
 replace h357 := h357.st S371
 replace h360 := h360.st S371
 replace h365 := h365.st S371
 obtain ⟨O372, S373, hz375, ha376, h374⟩ := Sch.shut (x := s331.2) (l0 := 2) (l1 := 5) (l2 := 6) (l3 := 7) (l4 := 8) (by decide) h335 h338 h342 h346 h350 h354 h357 h360 h365 r369
 obtain rfl := sm hm
 replace hB := ((hB.st S334).st S371).st S373
 obtain ⟨O', hS', hz, hl⟩ := hE.leave (fun q => if q = 2 then i0 else 0) rfl hB
 replace h7 := h7.st S373
 exact ret1v rfl (res_cell (cs := [(.int .i64 2), (.slice none 0 0), (.int .i64 0), (.int .i64 s331.2.exp)]) rfl rfl h7.1.cellsAt) ⟨O', hS', (Ob.leave h374 hz (hl 2 (by decide) (by decide)) hx0.2), (Vb.mono (Vb.ofAgg (cs := [(.int .i64 2), (.slice none 0 0), (.int .i64 0), (.int .i64 s331.2.exp)]) (x := (⟨2, ([] : List Int), 0, s331.2.exp⟩ : Rsl)) rfl ⟨_, rfl, (Vb.nil _ _), (show inI64 (2) from by decide), (show inI64 0 from by decide), r369⟩) hz)⟩
noncomputable def m_stubborn_Search (x0 : Tsk) (x1 : Int) : Option (Rsl × Err) :=
  bnd (m_task_Check x0) fun q30 => if q30.n ≠ 0 then (some ((⟨0, ([] : List Int), 0, 0⟩ : Rsl), (⟨q30.n⟩ : Err))) else (bnd (m_registry_New x0.vars) fun q41 => if q41.2.n ≠ 0 then (some ((⟨0, ([] : List Int), 0, 0⟩ : Rsl), (⟨q41.2.n⟩ : Err))) else (bnd (m_pqueue_New) fun q56 => bnd q41.1 fun o64 => bnd q56 fun o67 => bnd (m_stubborn_search_reach (⟨(⟨x0.vars, x0.init, x0.goal, x0.ops⟩ : Tsk), o64, o67, ([] : List Int), ([] : List Bool), 0⟩ : Sch) x0.init (-1) (-1) 0) fun q84 => if q84.1.n ≠ 0 then (some ((⟨0, ([] : List Int), 0, 0⟩ : Rsl), (⟨q84.1.n⟩ : Err))) else (bnd (m_stubborn_search_run q84.2 (max x1 0)) fun q97 => some (q97.1, (⟨0⟩ : Err)))))
theorem c_stubborn_Search {w : World} {A : Nat → Prop} (hA : ∀ k, A k → k < w.heap.size) {vx0 : Value} {x0 : Tsk} (hx0 : Vb w A vx0 x0) {x1 : Int} (rx1 : inI64 x1) {r : Rsl × Err} (hm : m_stubborn_Search x0 x1 = some r) :
    Fn Try.prog 22 [vx0, (.int .i64 x1)] w fun v w' => Ext w w' ∧ T2 w' (upA A w w') v r := by
 obtain ⟨O, hB, hA0⟩ := enter hA
 replace hx0 := hx0.mono hA0
 obtain ⟨cs3, rfl, v4, v5, v6, v7, rfl, h8, h11, h14, h17⟩ := hx0
 obtain ⟨A9, c10, rfl⟩ := h8.form
 obtain ⟨A12, c13, rfl⟩ := h11.form
 obtain ⟨A15, c16, rfl⟩ := h14.form
 obtain ⟨A18, c19, rfl⟩ := h17.form
 refine fn_enter Try.func22 rfl Try.ntmps22 rfl ?_
 unfold m_stubborn_Search at hm
 refine ewp_seq (ewp_region (l_box 2 O rfl rfl fun g20 w21 O22 S23 h24 => ?_))
 replace h24 : Lc 2 w21 O22 g20 26 [(.slice A9 x0.vars.length c10), (.slice A12 x0.init.length c13), (.slice A15 x0.goal.length c16), (.slice A18 x0.ops.length c19)] := h24
 refine l_alloc 3 O22 rfl fun g25 w26 O27 S28 h29 => ?_
 refine o_as rfl rfl (o_z ?_)
 refine ewp_seq (ewp_seq (ewp_region ?_))
 replace h24 := h24.st S28
 refine o_la (hl := rfl) (hc := (h24.1).cellsAt) rfl rfl ?_
 obtain ⟨q30, e31, hm⟩ := bs hm
 replace h8 := (h8.st S23).st S28
 replace h11 := (h11.st S23).st S28
 replace h14 := (h14.st S23).st S28
 replace h17 := (h17.st S23).st S28
 refine l_callA (O := O27) (A := All w26) (R := fun w' F v => Vb w' F v q30) (c_task_Check (fun _ h => h) (Vb.mono (F := Fr 0 w26 O27) (Vb.ofAgg (cs := [(.slice A9 x0.vars.length c10), (.slice A12 x0.init.length c13), (.slice A15 x0.goal.length c16), (.slice A18 x0.ops.length c19)]) (x := x0) rfl ⟨_, _, _, _, rfl, h8, h11, h14, h17⟩) Fr.lt) e31) rfl rfl fun v36 w32 O33 S34 h35 => ?_
 obtain ⟨rfl, r37⟩ := h35.err
 refine o_as rfl rfl (o_z ?_)
 refine ewp_seq (ewp_region (o_mv rfl rfl (o_rnS rfl rfl (fun c38 => ?_) fun c38 => ?_)))
 ·
  replace hm := ip hm c38
  refine o_z ?_
  refine ewp_true rfl (ewp_seq (ewp_region (o_bd rfl rfl rfl ?_)))
  refine o_mv rfl rfl ?_
  replace h29 := h29.st S34
  refine l_store h29 rfl rfl rfl (Nat.le_of_ble_eq_true rfl) (by first | exact allOne rfl | simp [Value.cells, Value.oneCell', errV_one]) fun w39 S40 h29 => ?_
  replace h29 : Lc 3 w39 O33 g25 50 [(.int .i64 0), (.slice none 0 0), (.int .i64 0), (.int .i64 0)] := h29
  refine o_as rfl rfl (o_z ?_)
  refine ewp_ret ?_
  obtain rfl := sm hm
  replace hB := (((hB.st S23).st S28).st S34).st S40
  exact ret2 rfl (res_cell (cs := [(.int .i64 0), (.slice none 0 0), (.int .i64 0), (.int .i64 0)]) rfl rfl h29.1.cellsAt) (res_tmp rfl) ⟨hB.ext, _, _, rfl, (Vb.mono (F := Fr 0 w39 O33) (Vb.ofAgg (cs := [(.int .i64 0), (.slice none 0 0), (.int .i64 0), (.int .i64 0)]) (x := (⟨0, ([] : List Int), 0, 0⟩ : Rsl)) rfl ⟨_, rfl, (Vb.nil _ _), (show inI64 0 from by decide), (show inI64 0 from by decide), (show inI64 0 from by decide)⟩) hB.out), (vErr r37)⟩
 ·
  replace hm := im hm c38
  refine o_z ?_
  refine ewp_false rfl (ewp_skip (ewp_seq (ewp_region (o_fa rfl rfl ?_))))
  replace h24 := h24.st S34
  refine o_ld (hc := Blk.cell (i := 0) (h24.1) rfl) rfl rfl ?_
  obtain ⟨q41, e42, hm⟩ := bs hm
  replace h8 := h8.st S34
  refine l_callM (O := O33) (c_registry_New h8 4 (by decide) e42) rfl rfl fun v47 w43 O44 S45 h46 => ?_
  obtain ⟨v48, v49, rfl, h50, h51⟩ := h46
  obtain ⟨rfl, r52⟩ := h51.err
  refine o_mv rfl rfl (o_ex rfl rfl rfl (o_ex rfl rfl rfl (o_as rfl rfl (o_as rfl rfl (o_z ?_)))))
  refine ewp_seq (ewp_seq (ewp_region (o_mv rfl rfl (o_rnS rfl rfl (fun c53 => ?_) fun c53 => ?_))))
  ·
   replace hm := ip hm c53
   refine o_z ?_
   refine ewp_true rfl (ewp_seq (ewp_region (o_bd rfl rfl rfl ?_)))
   refine o_mv rfl rfl ?_
   replace h29 := (h29.st S34).st S45
   refine l_store h29 rfl rfl rfl (Nat.le_of_ble_eq_true rfl) (by first | exact allOne rfl | simp [Value.cells, Value.oneCell', errV_one]) fun w54 S55 h29 => ?_
   replace h29 : Lc 3 w54 O44 g25 50 [(.int .i64 0), (.slice none 0 0), (.int .i64 0), (.int .i64 0)] := h29
   refine o_as rfl rfl (o_z ?_)
   refine ewp_ret ?_
   obtain rfl := sm hm
   replace hB := ((((hB.st S23).st S28).st S34).st S45).st S55
   exact ret2 rfl (res_cell (cs := [(.int .i64 0), (.slice none 0 0), (.int .i64 0), (.int .i64 0)]) rfl rfl h29.1.cellsAt) (res_tmp rfl) ⟨hB.ext, _, _, rfl, (Vb.mono (F := Fr 0 w54 O44) (Vb.ofAgg (cs := [(.int .i64 0), (.slice none 0 0), (.int .i64 0), (.int .i64 0)]) (x := (⟨0, ([] : List Int), 0, 0⟩ : Rsl)) rfl ⟨_, rfl, (Vb.nil _ _), (show inI64 0 from by decide), (show inI64 0 from by decide), (show inI64 0 from by decide)⟩) hB.out), (vErr r52)⟩
  ·
   replace hm := im hm c53
   refine o_z ?_
   refine ewp_false rfl (ewp_skip (ewp_seq (ewp_drawX [(2, []), (4, [])] O44 ?_)))
   refine x_pre (fuel := 4) [] [(0, true), (1, true)] (by kernel_rfl) rfl ?_
   replace h24 := h24.st S45
   refine h_laB (hl := rfl) (hb := fun w' ⟨O', hq⟩ => ((h24.st hq (by decide)).1).cellsAt) rfl rfl rfl ?_
   refine h_mv rfl rfl rfl (hwp_nilT ?_)
   refine x_one (i := 2) (by kernel_rfl) rfl ?_
   obtain ⟨q56, e57, hm⟩ := bs hm
   refine l_callM (O := O44) (c_pqueue_New 5 (by decide) e57) rfl rfl fun v62 w58 O59 S60 h63 => ?_
   have hZ := S60.lst [] (fun _ h => h.elim)
   refine x_go [(4, [])] hZ (by kernel_rfl) ?_
   refine x_pre (fuel := 2) [] [(3, true)] (by kernel_rfl) rfl ?_
   obtain ⟨o64, e65, hm⟩ := bs hm
   replace h50 := h50.st S60
   rw [e65] at h50
   obtain ⟨p66, rfl⟩ := Ob.ptr h50
   obtain ⟨o67, e68, hm⟩ := bs hm
   rw [e68] at h63
   obtain ⟨p69, rfl⟩ := Ob.ptr h63
   refine h_bd rfl rfl rfl rfl ?_
   refine hwp_nilT ?_
   refine x_one (i := 4) (by kernel_rfl) rfl ?_
   refine l_box 6 O59 rfl rfl fun g70 w71 O72 S73 h74 => ?_
   replace h74 : Lc 6 w71 O72 g70 85 [(.slice A9 x0.vars.length c10), (.slice A12 x0.init.length c13), (.slice A15 x0.goal.length c16), (.slice A18 x0.ops.length c19), (.pointer (some ⟨p66, 0, none⟩)), (.pointer (some ⟨p69, 0, none⟩)), (.slice none 0 0), (.slice none 0 0), (.int .i64 0)] := h74
   have hZ := S73.lst [] (fun _ h => h.elim)
   refine x_go [] hZ (by kernel_rfl) ?_
   refine x_pre (fuel := 0) [] [(5, true)] (by kernel_rfl) rfl ?_
   refine h_as rfl rfl rfl (hwp_nilT ?_)
   refine x_nil (by kernel_rfl) ?_
   refine ewp_seq (ewp_seq (ewp_region (o_mv rfl rfl (o_fa rfl rfl ?_))))
   replace h24 := (h24.st S60).st S73
   refine o_ld (hc := Blk.cell (i := 1) (h24.1) rfl) rfl rfl ?_
   have h75 : Rw 7 w71 O72 3 (.slice none 0 0) ([] : List Int) := Rw.nil 7 (by decide)
   have h77 : Rw 8 w71 O72 4 (.slice none 0 0) ([] : List Bool) := Rw.nil 8 (by decide)
   replace h8 := ((h8.st S45).st S60).st S73
   replace h11 := (((h11.st S34).st S45).st S60).st S73
   replace h14 := (((h14.st S34).st S45).st S60).st S73
   replace h17 := (((h17.st S34).st S45).st S60).st S73
   replace h50 := h50.st S73
   replace h63 := h63.st S73
   obtain ⟨O79, S80, hz82, ha83, h81⟩ := Sch.shut (x := (⟨(⟨x0.vars, x0.init, x0.goal, x0.ops⟩ : Tsk), o64, o67, ([] : List Int), ([] : List Bool), 0⟩ : Sch)) (l0 := 6) (l1 := 4) (l2 := 5) (l3 := 7) (l4 := 8) (by decide) h74 h8 h11 h14 h17 h50 h63 h75 h77 (show inI64 0 from by decide)
   obtain ⟨q84, e85, hm⟩ := bs hm
   replace h11 := h11.st S80
   refine l_callM (O := O79) (c_stubborn_search_reach h81 h11 (show inI64 (-1) from by decide) (show inI64 (-1) from by decide) (show inI64 (0) from by decide) e85) rfl rfl fun v90 w86 O87 S88 h89 => ?_
   obtain ⟨h91, h92⟩ := h89
   obtain ⟨rfl, r93⟩ := h92.err
   refine o_as rfl rfl (o_z ?_)
   refine ewp_seq (ewp_region (o_mv rfl rfl (o_rnS rfl rfl (fun c94 => ?_) fun c94 => ?_)))
   ·
    replace hm := ip hm c94
    refine o_z ?_
    refine ewp_true rfl (ewp_seq (ewp_region (o_bd rfl rfl rfl ?_)))
    refine o_mv rfl rfl ?_
    replace h29 := (((((h29.st S34).st S45).st S60).st S73).st S80).st S88
    refine l_store h29 rfl rfl rfl (Nat.le_of_ble_eq_true rfl) (by first | exact allOne rfl | simp [Value.cells, Value.oneCell', errV_one]) fun w95 S96 h29 => ?_
    replace h29 : Lc 3 w95 O87 g25 50 [(.int .i64 0), (.slice none 0 0), (.int .i64 0), (.int .i64 0)] := h29
    refine o_as rfl rfl (o_z ?_)
    refine ewp_ret ?_
    obtain rfl := sm hm
    replace hB := ((((((((hB.st S23).st S28).st S34).st S45).st S60).st S73).st S80).st S88).st S96
    exact ret2 rfl (res_cell (cs := [(.int .i64 0), (.slice none 0 0), (.int .i64 0), (.int .i64 0)]) rfl rfl h29.1.cellsAt) (res_tmp rfl) ⟨hB.ext, _, _, rfl, (Vb.mono (F := Fr 0 w95 O87) (Vb.ofAgg (cs := [(.int .i64 0), (.slice none 0 0), (.int .i64 0), (.int .i64 0)]) (x := (⟨0, ([] : List Int), 0, 0⟩ : Rsl)) rfl ⟨_, rfl, (Vb.nil _ _), (show inI64 0 from by decide), (show inI64 0 from by decide), (show inI64 0 from by decide)⟩) hB.out), (vErr r93)⟩
   ·
    replace hm := im hm c94
    refine o_z ?_
    refine ewp_false rfl (ewp_skip (ewp_seq (ewp_region (o_mv rfl rfl (o_mv rfl rfl (o_max rfl rfl rfl ?_))))))
    obtain ⟨q97, e98, hm⟩ := bs hm
    refine l_callM (O := O87) (c_stubborn_search_run h91 (rngMax rx1 (show inI64 (0) from by decide)) e98) rfl rfl fun v103 w99 O100 S101 h102 => ?_
    obtain ⟨h104, h105⟩ := h102
    obtain ⟨cs106, rfl, v107, rfl, h108, r111, r112, r113⟩ := h105
    obtain ⟨A109, c110, rfl⟩ := h108.form
    replace h29 := ((((((h29.st S34).st S45).st S60).st S73).st S80).st S88).st S101
    refine l_store h29 rfl rfl rfl (Nat.le_of_ble_eq_true rfl) (by first | exact allOne rfl | simp [Value.cells, Value.oneCell', errV_one]) fun w114 S115 h29 => ?_
    replace h29 : Lc 3 w114 O100 g25 50 [(.int .i64 q97.1.verdict), (.slice A109 q97.1.plan.length c110), (.int .i64 q97.1.cost), (.int .i64 q97.1.expanded)] := h29
    refine o_as rfl rfl (o_z ?_)
    refine ewp_ret ?_
    obtain rfl := sm hm
    replace hB := (((((((((hB.st S23).st S28).st S34).st S45).st S60).st S73).st S80).st S88).st S101).st S115
    replace h108 := h108.st S115
    exact ret2 rfl (res_cell (cs := [(.int .i64 q97.1.verdict), (.slice A109 q97.1.plan.length c110), (.int .i64 q97.1.cost), (.int .i64 q97.1.expanded)]) rfl rfl h29.1.cellsAt) (res_tmp rfl) ⟨hB.ext, _, _, rfl, (Vb.mono (F := Fr 0 w114 O100) (Vb.ofAgg (cs := [(.int .i64 q97.1.verdict), (.slice A109 q97.1.plan.length c110), (.int .i64 q97.1.cost), (.int .i64 q97.1.expanded)]) (x := q97.1) rfl ⟨_, rfl, h108, r111, r112, r113⟩) hB.out), (vErr (show inI64 0 from by decide))⟩
end
section
open Go Go.RowKit
attribute [local irreducible] ewp owp hwp hwq Ev Evg Fn retPost Res1
attribute [local irreducible] hwx loudX
noncomputable def m_law53_switches  : Option Tsk :=
  some (⟨[2, 2], [0, 0], [(⟨0, 1⟩ : Fct), (⟨1, 1⟩ : Fct)], [(⟨(⟨#[]⟩ : ByteArray), 1, [(⟨0, 0⟩ : Fct)], [(⟨([] : List Fct), 0, 1⟩ : Eff)]⟩ : Opr), (⟨(⟨#[]⟩ : ByteArray), 1, [(⟨1, 0⟩ : Fct)], [(⟨([] : List Fct), 1, 1⟩ : Eff)]⟩ : Opr)]⟩ : Tsk)
theorem c_law53_switches {w : World} {A : Nat → Prop} (hA : ∀ k, A k → k < w.heap.size)  {r : Tsk} (hm : m_law53_switches  = some r) :
    Fn Try.prog 30 [] w fun v w' => Ext w w' ∧ Vb w' (upA A w w') v r := by
 obtain ⟨O, hB, hA0⟩ := enter hA
 refine fn_enter Try.func30 rfl Try.ntmps30 rfl ?_
 unfold m_law53_switches at hm
 refine ewp_seq (ewp_region (l_alloc 2 O rfl fun g1 w2 O3 S4 h5 => ?_))
 refine o_z ?_
 refine ewp_seq (ewp_region (l_bslice 3 (by decide) O3 (xs := ([2, 2] : List Int)) rfl rfl rfl rfl ⟨(vInt (show inI64 (2) from by decide)), (vInt (show inI64 (2) from by decide)), trivial⟩ (by decide) (by decide) rfl fun g6 w7 O8 S9 h10 => ?_))
 refine l_bslice 4 (by decide) O8 (xs := ([0, 0] : List Int)) rfl rfl rfl rfl ⟨(vInt (show inI64 (0) from by decide)), (vInt (show inI64 (0) from by decide)), trivial⟩ (by decide) (by decide) rfl fun g12 w13 O14 S15 h16 => ?_
 refine o_bd rfl rfl rfl ?_
 refine o_bd rfl rfl rfl ?_
 refine l_bslice 5 (by decide) O14 (xs := ([(⟨0, 1⟩ : Fct), (⟨1, 1⟩ : Fct)] : List Fct)) rfl rfl rfl rfl ⟨(Vb.ofAgg (cs := [(.int .i64 0), (.int .i64 1)]) (x := (⟨0, 1⟩ : Fct)) rfl ⟨rfl, (show inI64 (0) from by decide), (show inI64 (1) from by decide)⟩), (Vb.ofAgg (cs := [(.int .i64 1), (.int .i64 1)]) (x := (⟨1, 1⟩ : Fct)) rfl ⟨rfl, (show inI64 (1) from by decide), (show inI64 (1) from by decide)⟩), trivial⟩ (by decide) (by decide) rfl fun g18 w19 O20 S21 h22 => ?_
 refine o_bd rfl rfl rfl ?_
 refine l_bslice 6 (by decide) O20 (xs := ([(⟨0, 0⟩ : Fct)] : List Fct)) rfl rfl rfl rfl ⟨(Vb.ofAgg (cs := [(.int .i64 0), (.int .i64 0)]) (x := (⟨0, 0⟩ : Fct)) rfl ⟨rfl, (show inI64 (0) from by decide), (show inI64 (0) from by decide)⟩), trivial⟩ (by decide) (by decide) rfl fun g24 w25 O26 S27 h28 => ?_
 refine o_bd rfl rfl rfl ?_
 refine l_bslice 7 (by decide) O26 (xs := ([(⟨([] : List Fct), 0, 1⟩ : Eff)] : List Eff)) rfl rfl rfl rfl ⟨(Vb.ofAgg (cs := [(.slice none 0 0), (.int .i64 0), (.int .i64 1)]) (x := (⟨([] : List Fct), 0, 1⟩ : Eff)) rfl ⟨_, rfl, (Vb.nil _ _), (show inI64 (0) from by decide), (show inI64 (1) from by decide)⟩), trivial⟩ (by decide) (by decide) rfl fun g30 w31 O32 S33 h34 => ?_
 refine o_bd rfl rfl rfl ?_
 refine o_bd rfl rfl rfl ?_
 refine l_bslice 8 (by decide) O32 (xs := ([(⟨1, 0⟩ : Fct)] : List Fct)) rfl rfl rfl rfl ⟨(Vb.ofAgg (cs := [(.int .i64 1), (.int .i64 0)]) (x := (⟨1, 0⟩ : Fct)) rfl ⟨rfl, (show inI64 (1) from by decide), (show inI64 (0) from by decide)⟩), trivial⟩ (by decide) (by decide) rfl fun g36 w37 O38 S39 h40 => ?_
 refine o_bd rfl rfl rfl ?_
 refine l_bslice 9 (by decide) O38 (xs := ([(⟨([] : List Fct), 1, 1⟩ : Eff)] : List Eff)) rfl rfl rfl rfl ⟨(Vb.ofAgg (cs := [(.slice none 0 0), (.int .i64 1), (.int .i64 1)]) (x := (⟨([] : List Fct), 1, 1⟩ : Eff)) rfl ⟨_, rfl, (Vb.nil _ _), (show inI64 (1) from by decide), (show inI64 (1) from by decide)⟩), trivial⟩ (by decide) (by decide) rfl fun g42 w43 O44 S45 h46 => ?_
 refine o_bd rfl rfl rfl ?_
 replace h28 := ((h28.st S33).st S39).st S45
 obtain ⟨O48, S49, h28⟩ := h28.freeze
 replace h34 := ((h34.st S39).st S45).st S49
 obtain ⟨O50, S51, h34⟩ := h34.freeze
 replace h40 := ((h40.st S45).st S49).st S51
 obtain ⟨O52, S53, h40⟩ := h40.freeze
 replace h46 := ((h46.st S49).st S51).st S53
 obtain ⟨O54, S55, h46⟩ := h46.freeze
 replace h28 := ((h28.st S51).st S53).st S55
 replace h34 := (h34.st S53).st S55
 replace h40 := h40.st S55
 refine l_bslice 10 (by decide) O54 (xs := ([(⟨(⟨#[]⟩ : ByteArray), 1, [(⟨0, 0⟩ : Fct)], [(⟨([] : List Fct), 0, 1⟩ : Eff)]⟩ : Opr), (⟨(⟨#[]⟩ : ByteArray), 1, [(⟨1, 0⟩ : Fct)], [(⟨([] : List Fct), 1, 1⟩ : Eff)]⟩ : Opr)] : List Opr)) rfl rfl rfl rfl ⟨(Vb.ofAgg (cs := [(.string (⟨#[]⟩ : ByteArray)), (.int .i64 1), (.slice (some ⟨g24, 0, none⟩) [(⟨0, 0⟩ : Fct)].length 1), (.slice (some ⟨g30, 0, none⟩) [(⟨([] : List Fct), 0, 1⟩ : Eff)].length 1)]) (x := (⟨(⟨#[]⟩ : ByteArray), 1, [(⟨0, 0⟩ : Fct)], [(⟨([] : List Fct), 0, 1⟩ : Eff)]⟩ : Opr)) rfl ⟨_, _, rfl, h28, h34, (show inI64 (1) from by decide), (show (⟨#[]⟩ : ByteArray).size ≤ 9223372036854775807 from by decide)⟩), (Vb.ofAgg (cs := [(.string (⟨#[]⟩ : ByteArray)), (.int .i64 1), (.slice (some ⟨g36, 0, none⟩) [(⟨1, 0⟩ : Fct)].length 1), (.slice (some ⟨g42, 0, none⟩) [(⟨([] : List Fct), 1, 1⟩ : Eff)].length 1)]) (x := (⟨(⟨#[]⟩ : ByteArray), 1, [(⟨1, 0⟩ : Fct)], [(⟨([] : List Fct), 1, 1⟩ : Eff)]⟩ : Opr)) rfl ⟨_, _, rfl, h40, h46, (show inI64 (1) from by decide), (show (⟨#[]⟩ : ByteArray).size ≤ 9223372036854775807 from by decide)⟩), trivial⟩ (by decide) (by decide) rfl fun g56 w57 O58 S59 h60 => ?_
 refine o_bd rfl rfl rfl ?_
 replace h5 := (((((((((((h5.st S9).st S15).st S21).st S27).st S33).st S39).st S45).st S49).st S51).st S53).st S55).st S59
 refine l_store h5 rfl rfl rfl (Nat.le_of_ble_eq_true rfl) (by first | exact allOne rfl | simp [Value.cells, Value.oneCell', errV_one]) fun w62 S63 h5 => ?_
 replace h5 : Lc 2 w62 O58 g1 26 [(.slice (some ⟨g6, 0, none⟩) [2, 2].length 2), (.slice (some ⟨g12, 0, none⟩) [0, 0].length 2), (.slice (some ⟨g18, 0, none⟩) [(⟨0, 1⟩ : Fct), (⟨1, 1⟩ : Fct)].length 2), (.slice (some ⟨g56, 0, none⟩) [(⟨(⟨#[]⟩ : ByteArray), 1, [(⟨0, 0⟩ : Fct)], [(⟨([] : List Fct), 0, 1⟩ : Eff)]⟩ : Opr), (⟨(⟨#[]⟩ : ByteArray), 1, [(⟨1, 0⟩ : Fct)], [(⟨([] : List Fct), 1, 1⟩ : Eff)]⟩ : Opr)].length 2)] := h5
 refine o_z ?_
 refine ewp_ret ?_
 replace h10 := (((((((((((h10.st S15).st S21).st S27).st S33).st S39).st S45).st S49).st S51).st S53).st S55).st S59).st S63
 obtain ⟨O64, S65, h10⟩ := h10.freeze
 replace h16 := (((((((((((h16.st S21).st S27).st S33).st S39).st S45).st S49).st S51).st S53).st S55).st S59).st S63).st S65
 obtain ⟨O66, S67, h16⟩ := h16.freeze
 replace h22 := (((((((((((h22.st S27).st S33).st S39).st S45).st S49).st S51).st S53).st S55).st S59).st S63).st S65).st S67
 obtain ⟨O68, S69, h22⟩ := h22.freeze
 replace h60 := (((h60.st S63).st S65).st S67).st S69
 obtain ⟨O70, S71, h60⟩ := h60.freeze
 obtain rfl := sm hm
 replace hB := (((((((((((((((((hB.st S4).st S9).st S15).st S21).st S27).st S33).st S39).st S45).st S49).st S51).st S53).st S55).st S59).st S63).st S65).st S67).st S69).st S71
 replace h5 := (((h5.st S65).st S67).st S69).st S71
 replace h10 := ((h10.st S67).st S69).st S71
 replace h16 := (h16.st S69).st S71
 replace h22 := h22.st S71
 exact ret1v rfl (res_cell (cs := [(.slice (some ⟨g6, 0, none⟩) [2, 2].length 2), (.slice (some ⟨g12, 0, none⟩) [0, 0].length 2), (.slice (some ⟨g18, 0, none⟩) [(⟨0, 1⟩ : Fct), (⟨1, 1⟩ : Fct)].length 2), (.slice (some ⟨g56, 0, none⟩) [(⟨(⟨#[]⟩ : ByteArray), 1, [(⟨0, 0⟩ : Fct)], [(⟨([] : List Fct), 0, 1⟩ : Eff)]⟩ : Opr), (⟨(⟨#[]⟩ : ByteArray), 1, [(⟨1, 0⟩ : Fct)], [(⟨([] : List Fct), 1, 1⟩ : Eff)]⟩ : Opr)].length 2)]) rfl rfl h5.1.cellsAt) ⟨hB.ext, (Vb.mono (F := Fr 0 w62 O70) (Vb.ofAgg (cs := [(.slice (some ⟨g6, 0, none⟩) [2, 2].length 2), (.slice (some ⟨g12, 0, none⟩) [0, 0].length 2), (.slice (some ⟨g18, 0, none⟩) [(⟨0, 1⟩ : Fct), (⟨1, 1⟩ : Fct)].length 2), (.slice (some ⟨g56, 0, none⟩) [(⟨(⟨#[]⟩ : ByteArray), 1, [(⟨0, 0⟩ : Fct)], [(⟨([] : List Fct), 0, 1⟩ : Eff)]⟩ : Opr), (⟨(⟨#[]⟩ : ByteArray), 1, [(⟨1, 0⟩ : Fct)], [(⟨([] : List Fct), 1, 1⟩ : Eff)]⟩ : Opr)].length 2)]) (x := (⟨[2, 2], [0, 0], [(⟨0, 1⟩ : Fct), (⟨1, 1⟩ : Fct)], [(⟨(⟨#[]⟩ : ByteArray), 1, [(⟨0, 0⟩ : Fct)], [(⟨([] : List Fct), 0, 1⟩ : Eff)]⟩ : Opr), (⟨(⟨#[]⟩ : ByteArray), 1, [(⟨1, 0⟩ : Fct)], [(⟨([] : List Fct), 1, 1⟩ : Eff)]⟩ : Opr)]⟩ : Tsk)) rfl ⟨_, _, _, _, rfl, h10, h16, h22, h60⟩) hB.out)⟩
noncomputable def m_law53_awake  : Option Bool :=
  bnd (m_law53_switches) fun q1 => bnd (m_stubborn_Set q1 [0, 0]) fun q33 => bnd (m_law53_switches) fun q47 => bnd (m_stubborn_Search q47 10) fun q71 => bnd (if q33.2.n = 0 then (if q71.2.n = 0 then (bnd (m_base_Ints q33.1 [0]) fun q110 => if q110 = true then if q71.1.verdict = 1 then (if q71.1.cost = 2 then (if q71.1.expanded = 2 then (some true) else (some false)) else (some false)) else (some false) else some false) else (some false)) else (some false) : Option Bool) fun y98 => some y98
theorem c_law53_awake {w : World} {A : Nat → Prop} (hA : ∀ k, A k → k < w.heap.size)  {r : Bool} (hm : m_law53_awake  = some r) :
    Fn Try.prog 10 [] w fun v w' => Ext w w' ∧ Vb w' (upA A w w') v r := by
 obtain ⟨O, hB, hA0⟩ := enter hA
 refine fn_enter Try.func10 rfl Try.ntmps10 rfl ?_
 unfold m_law53_awake at hm
 refine ewp_seq (ewp_region (o_as rfl rfl (o_z ?_)))
 refine ewp_seq (ewp_region ?_)
 obtain ⟨q1, e2, hm⟩ := bs hm
 refine l_call (O := O) (R := fun w' F v => Vb w' F v q1) (c_law53_switches Fr.lt  e2) rfl rfl fun v7 w3 O4 S5 h6 => ?_
 obtain ⟨cs8, rfl, v9, v10, v11, v12, rfl, h13, h16, h19, h22⟩ := h6
 obtain ⟨A14, c15, rfl⟩ := h13.form
 obtain ⟨A17, c18, rfl⟩ := h16.form
 obtain ⟨A20, c21, rfl⟩ := h19.form
 obtain ⟨A23, c24, rfl⟩ := h22.form
 refine l_bslice 2 (by decide) O4 (xs := ([0, 0] : List Int)) rfl rfl rfl rfl ⟨(vInt (show inI64 (0) from by decide)), (vInt (show inI64 (0) from by decide)), trivial⟩ (by decide) (by decide) rfl fun g25 w26 O27 S28 h29 => ?_
 obtain ⟨O31, S32, h29⟩ := h29.freeze
 obtain ⟨q33, e34, hm⟩ := bs hm
 replace h13 := (h13.st S28).st S32
 replace h16 := (h16.st S28).st S32
 replace h19 := (h19.st S28).st S32
 replace h22 := (h22.st S28).st S32
 refine l_call (O := O31) (R := fun w' F v => T2 w' F v q33) (c_stubborn_Set Fr.lt (Vb.ofAgg (cs := [(.slice A14 q1.vars.length c15), (.slice A17 q1.init.length c18), (.slice A20 q1.goal.length c21), (.slice A23 q1.ops.length c24)]) (x := q1) rfl ⟨_, _, _, _, rfl, h13, h16, h19, h22⟩) h29 e34) rfl rfl fun v39 w35 O36 S37 h38 => ?_
 obtain ⟨v40, v41, rfl, h42, h43⟩ := h38
 obtain ⟨A44, c45, rfl⟩ := h42.form
 obtain ⟨rfl, r46⟩ := h43.err
 refine o_mv rfl rfl (o_ex rfl rfl rfl (o_ex rfl rfl rfl (o_as rfl rfl (o_as rfl rfl (o_z ?_)))))
 refine ewp_seq (ewp_region ?_)
 obtain ⟨q47, e48, hm⟩ := bs hm
 refine l_call (O := O36) (R := fun w' F v => Vb w' F v q47) (c_law53_switches Fr.lt  e48) rfl rfl fun v53 w49 O50 S51 h52 => ?_
 obtain ⟨cs54, rfl, v55, v56, v57, v58, rfl, h59, h62, h65, h68⟩ := h52
 obtain ⟨A60, c61, rfl⟩ := h59.form
 obtain ⟨A63, c64, rfl⟩ := h62.form
 obtain ⟨A66, c67, rfl⟩ := h65.form
 obtain ⟨A69, c70, rfl⟩ := h68.form
 obtain ⟨q71, e72, hm⟩ := bs hm
 refine l_call (O := O50) (R := fun w' F v => T2 w' F v q71) (c_stubborn_Search Fr.lt (Vb.ofAgg (cs := [(.slice A60 q47.vars.length c61), (.slice A63 q47.init.length c64), (.slice A66 q47.goal.length c67), (.slice A69 q47.ops.length c70)]) (x := q47) rfl ⟨_, _, _, _, rfl, h59, h62, h65, h68⟩) (show inI64 (10) from by decide) e72) rfl rfl fun v77 w73 O74 S75 h76 => ?_
 obtain ⟨v78, v79, rfl, h80, h81⟩ := h76
 obtain ⟨cs82, rfl, v83, rfl, h84, r87, r88, r89⟩ := h80
 obtain ⟨A85, c86, rfl⟩ := h84.form
 obtain ⟨rfl, r90⟩ := h81.err
 refine o_mv rfl rfl (o_ex rfl rfl rfl (o_ex rfl rfl rfl (l_alloc 3 O74 rfl fun g91 w92 O93 S94 h95 => ?_)))
 refine l_store h95 rfl rfl rfl (Nat.le_of_ble_eq_true rfl) (by first | exact allOne rfl | simp [Value.cells, Value.oneCell', errV_one]) fun w96 S97 h95 => ?_
 replace h95 : Lc 3 w96 O93 g91 50 [(.int .i64 q71.1.verdict), (.slice A85 q71.1.plan.length c86), (.int .i64 q71.1.cost), (.int .i64 q71.1.expanded)] := h95
 refine o_as rfl rfl (o_z ?_)
 refine ewp_seq ?_
 obtain ⟨y98, hy99, hm⟩ := bs hm
 refine ewp_join (fun l' w' => ∃ (x101 : Unit) (O' : Lab), subs l' [(0, (.bool y98))] ∧ Bs w A w' O') ?_ ?_
 ·
  refine ewp_region (o_mv rfl rfl (o_erS rfl rfl (fun c102 => ?_) fun c102 => ?_))
  ·
   replace hy99 := ip hy99 c102
   refine o_mv rfl rfl (owp_yes rfl rfl (o_mv rfl rfl (owp_yes rfl rfl (o_erS rfl rfl (fun c103 => ?_) fun c103 => ?_))))
   ·
    replace hy99 := ip hy99 c103
    refine o_pt rfl rfl rfl (o_mv rfl rfl (owp_yes rfl rfl (o_mv rfl rfl (owp_yes rfl rfl (l_bslice 4 (by decide) O93 (xs := ([0] : List Int)) rfl rfl rfl rfl ⟨(vInt (show inI64 (0) from by decide)), trivial⟩ (by decide) (by decide) rfl fun g104 w105 O106 S107 h108 => ?_)))))
    refine owp_yes rfl rfl ?_
    obtain ⟨q110, e111, hy99⟩ := bs hy99
    replace h42 := ((((h42.st S51).st S75).st S94).st S97).st S107
    refine l_callA (O := O106) (A := All w105) (R := fun w' F v => Vb w' F v q110) (c_base_Ints (fun _ h => h) (Vb.mono (F := Fr 0 w105 O106) h42 Fr.lt) (h108).all e111) rfl rfl fun v116 w112 O113 S114 h115 => ?_
    obtain rfl := h115.bool
    cases q110
    case false =>
     replace hy99 := iF hy99
     refine o_pt rfl rfl rfl (o_mv rfl rfl (owp_no rfl rfl rfl rfl (owp_no rfl rfl rfl rfl (owp_no rfl rfl rfl rfl (o_pf rfl rfl rfl (o_mv rfl rfl (owp_no rfl rfl rfl rfl (owp_no rfl rfl rfl rfl (owp_no rfl rfl rfl rfl (o_pf rfl rfl rfl (o_mv rfl rfl (owp_no rfl rfl rfl rfl (owp_no rfl rfl rfl rfl (owp_no rfl rfl rfl rfl ?_))))))))))))))
     refine o_pf rfl rfl rfl (o_as rfl rfl (o_z ?_))
     obtain rfl := sm hy99
     replace hB := (((((((((hB.st S5).st S28).st S32).st S37).st S51).st S75).st S94).st S97).st S107).st S114
     exact ⟨(), _, ⟨rfl, trivial⟩, hB⟩
    replace hy99 := iT hy99
    refine o_pt rfl rfl rfl (o_mv rfl rfl (owp_yes rfl rfl (o_fa rfl rfl (owp_yes rfl rfl ?_))))
    replace h95 := (h95.st S107).st S114
    refine o_ld (hc := Blk.cell (i := 0) (h95.1) rfl) rfl rfl ?_
    refine owp_yes rfl rfl (o_eeS rfl rfl rfl (fun c117 => ?_) fun c117 => ?_)
    ·
     replace hy99 := ip hy99 c117
     refine o_pt rfl rfl rfl (o_mv rfl rfl (owp_yes rfl rfl (o_fa rfl rfl (owp_yes rfl rfl (o_ld (hc := Blk.cell (i := 2) (h95.1) rfl) rfl rfl ?_)))))
     refine owp_yes rfl rfl (o_eeS rfl rfl rfl (fun c118 => ?_) fun c118 => ?_)
     ·
      replace hy99 := ip hy99 c118
      refine o_pt rfl rfl rfl (o_mv rfl rfl (owp_yes rfl rfl (o_fa rfl rfl (owp_yes rfl rfl (o_ld (hc := Blk.cell (i := 3) (h95.1) rfl) rfl rfl ?_)))))
      refine owp_yes rfl rfl (o_eeS rfl rfl rfl (fun c119 => ?_) fun c119 => ?_)
      ·
       replace hy99 := ip hy99 c119
       refine o_pt rfl rfl rfl (o_as rfl rfl (o_z ?_))
       obtain rfl := sm hy99
       replace hB := (((((((((hB.st S5).st S28).st S32).st S37).st S51).st S75).st S94).st S97).st S107).st S114
       exact ⟨(), _, ⟨rfl, trivial⟩, hB⟩
      ·
       replace hy99 := im hy99 c119
       refine o_pt rfl rfl rfl (o_as rfl rfl (o_z ?_))
       obtain rfl := sm hy99
       replace hB := (((((((((hB.st S5).st S28).st S32).st S37).st S51).st S75).st S94).st S97).st S107).st S114
       exact ⟨(), _, ⟨rfl, trivial⟩, hB⟩
     ·
      replace hy99 := im hy99 c118
      refine o_pt rfl rfl rfl (o_mv rfl rfl (owp_no rfl rfl rfl rfl (owp_no rfl rfl rfl rfl (owp_no rfl rfl rfl rfl (o_pf rfl rfl rfl (o_as rfl rfl (o_z ?_)))))))
      obtain rfl := sm hy99
      replace hB := (((((((((hB.st S5).st S28).st S32).st S37).st S51).st S75).st S94).st S97).st S107).st S114
      exact ⟨(), _, ⟨rfl, trivial⟩, hB⟩
    ·
     replace hy99 := im hy99 c117
     refine o_pt rfl rfl rfl (o_mv rfl rfl (owp_no rfl rfl rfl rfl (owp_no rfl rfl rfl rfl (owp_no rfl rfl rfl rfl (o_pf rfl rfl rfl (o_mv rfl rfl (owp_no rfl rfl rfl rfl (owp_no rfl rfl rfl rfl (owp_no rfl rfl rfl rfl (o_pf rfl rfl rfl (o_as rfl rfl (o_z ?_))))))))))))
     obtain rfl := sm hy99
     replace hB := (((((((((hB.st S5).st S28).st S32).st S37).st S51).st S75).st S94).st S97).st S107).st S114
     exact ⟨(), _, ⟨rfl, trivial⟩, hB⟩
   ·
    replace hy99 := im hy99 c103
    refine o_pt rfl rfl rfl (o_mv rfl rfl (owp_no rfl rfl rfl rfl (owp_no rfl rfl rfl rfl (owp_no rfl rfl rfl rfl (o_pf rfl rfl rfl (o_mv rfl rfl (owp_no rfl rfl rfl rfl (owp_no rfl rfl rfl rfl (owp_no rfl rfl rfl rfl (o_pf rfl rfl rfl (o_mv rfl rfl (owp_no rfl rfl rfl rfl (owp_no rfl rfl rfl rfl (owp_no rfl rfl rfl rfl ?_))))))))))))))
    refine o_pf rfl rfl rfl (o_mv rfl rfl (owp_no rfl rfl rfl rfl (owp_no rfl rfl rfl rfl (owp_no rfl rfl rfl rfl (o_pf rfl rfl rfl (o_as rfl rfl (o_z ?_)))))))
    obtain rfl := sm hy99
    replace hB := (((((((hB.st S5).st S28).st S32).st S37).st S51).st S75).st S94).st S97
    exact ⟨(), _, ⟨rfl, trivial⟩, hB⟩
  ·
   replace hy99 := im hy99 c102
   refine o_mv rfl rfl (owp_no rfl rfl rfl rfl (owp_no rfl rfl rfl rfl (o_pf rfl rfl rfl (o_mv rfl rfl (owp_no rfl rfl rfl rfl (owp_no rfl rfl rfl rfl (owp_no rfl rfl rfl rfl (o_pf rfl rfl rfl (o_mv rfl rfl (owp_no rfl rfl rfl rfl (owp_no rfl rfl rfl rfl (owp_no rfl rfl rfl rfl (o_pf rfl rfl rfl (o_mv rfl rfl ?_))))))))))))))
   refine owp_no rfl rfl rfl rfl (owp_no rfl rfl rfl rfl (owp_no rfl rfl rfl rfl (o_pf rfl rfl rfl (o_mv rfl rfl (owp_no rfl rfl rfl rfl (owp_no rfl rfl rfl rfl (owp_no rfl rfl rfl rfl (o_pf rfl rfl rfl (o_as rfl rfl (o_z ?_))))))))))
   obtain rfl := sm hy99
   replace hB := (((((((hB.st S5).st S28).st S32).st S37).st S51).st S75).st S94).st S97
   exact ⟨(), _, ⟨rfl, trivial⟩, hB⟩
 replace hB := (((((((hB.st S5).st S28).st S32).st S37).st S51).st S75).st S94).st S97
 rintro l120 w121 ⟨x101, O122, hs123, hB⟩
 refine ewp_sub _ hs123 ?_
 refine ewp_ret ?_
 obtain rfl := sm hm
 exact ret1v rfl (res_tmp rfl) ⟨hB.ext, vBool⟩
end
section
open Go Go.RowKit
def Le {α : Type} (x y : Option α) : Prop := ∀ r, x = some r → y = some r
theorem Le.rf {α : Type} {x : Option α} : Le x x := fun _ h => h
theorem Le.bnd {α β : Type} {x x' : Option α} {f f' : α → Option β} (h : Le x x') (hf : ∀ a, Le (f a) (f' a)) : Le (bnd x f) (bnd x' f') := fun r hr => by
  obtain ⟨a, ha, hb⟩ := bs hr
  rw [h a ha, bnd_some]
  exact hf a r hb
theorem Le.ite {α : Type} {p : Prop} [Decidable p] {x x' y y' : Option α} (h : Le x x') (k : Le y y') : Le (if p then x else y) (if p then x' else y') := by
  by_cases hp : p
  · rw [if_pos hp, if_pos hp]; exact h
  · rw [if_neg hp, if_neg hp]; exact k
theorem Le.fin {σ κ : Type} {y : Fin σ κ} {f f' : σ → Option κ} (hf : ∀ a, Le (f a) (f' a)) : Le (fin y f) (fin y f') := by
  cases y with
  | done s => exact hf s
  | ret c => exact Le.rf
theorem Le.rng {α σ ρ : Type} {f f' : Nat → α → σ → Option (Ctl σ ρ)} (hf : ∀ k a s, Le (f k a s) (f' k a s)) : ∀ {xs : List α} {k : Nat} {s : σ}, Le (rng f xs k s) (rng f' xs k s)
  | [], _, _ => Le.rf
  | x :: xs, k, s => fun r hr => by
    simp only [Proofs.Ytgnmjmcjadpmhaa.rng] at hr ⊢
    cases hc : f k x s with
    | none => rw [hc] at hr; cases hr
    | some c =>
      rw [hc] at hr
      rw [hf k x s c hc]
      cases c with
      | next s' => exact Le.rng hf r hr
      | brk s' => exact hr
      | ret q => exact hr
theorem Le.rngN {σ ρ : Type} {f f' : Nat → σ → Option (Ctl σ ρ)} {n : Nat} {s : σ} (hf : ∀ k s, Le (f k s) (f' k s)) : Le (rngN f n s) (rngN f' n s) := Le.rng fun _ k s => hf k s
theorem Le.itr {σ ρ : Type} {f f' : σ → Option (Ctl σ ρ)} (hf : ∀ s, Le (f s) (f' s)) : ∀ (n : Nat) (s : σ), Le (itr f n s) (itr f' n s)
  | 0, _ => Le.rf
  | n + 1, s => fun r hr => by
    simp only [Proofs.Ytgnmjmcjadpmhaa.itr] at hr ⊢
    cases hc : f s with
    | none => rw [hc] at hr; cases hr
    | some c =>
      rw [hc] at hr
      rw [hf s c hc]
      cases c with
      | next s' => exact Le.itr hf n s' r hr
      | brk s' => exact hr
      | ret q => exact hr
def lopE {σ ρ : Type} (f : σ → Option (Ctl σ ρ)) (s : σ) : Option (Fin σ ρ) := itr f 600 s
theorem Le.lop {σ ρ : Type} {f f' : σ → Option (Ctl σ ρ)} {s : σ} (hf : ∀ s, Le (f s) (f' s)) : Le (lopE f s) (lop f' s) := fun r hr => lop_some.2 ⟨600, Le.itr hf 600 s r hr⟩
end
section
open Go Go.RowKit
def factB (vars : List Int) (x : Fct) : Bool := decide (0 ≤ x.var) && (decide (0 ≤ x.val) && (match vars[x.var.toNat]? with | some y => decide (x.val < y) | none => false))
theorem factB_ok {vars : List Int} {x : Fct} (h : factB vars x = true) : FactOk vars x := by
  unfold factB at h
  simp only [Bool.and_eq_true, decide_eq_true_eq] at h
  obtain ⟨h1, h2, h3⟩ := h
  cases hv : vars[x.var.toNat]? with
  | none => rw [hv] at h3; cases h3
  | some y => rw [hv] at h3; exact ⟨h1, h2, y, hv, by simpa using h3⟩
def ascB : List Fct → Bool
  | x :: y :: r => decide (x.var < y.var) && ascB (y :: r)
  | _ => true
theorem ascB_ok : ∀ {f : List Fct}, ascB f = true → ∀ (i : Nat) x y, f[i]? = some x → f[i + 1]? = some y → x.var < y.var
  | [], _, i, x, y, h, _ => by simp at h
  | [_], _, i, x, y, _, h => by simp at h
  | a :: b :: r, h, i, x, y, h1, h2 => by
    simp only [ascB, Bool.and_eq_true, decide_eq_true_eq] at h
    cases i with
    | zero => simp at h1 h2; subst h1; subst h2; exact h.1
    | succ i => exact ascB_ok h.2 i x y (by simpa using h1) (by simpa using h2)
def factsB (vars : List Int) (f : List Fct) : Bool := f.all (factB vars) && ascB f
theorem factsB_ok {vars : List Int} {f : List Fct} (h : factsB vars f = true) : FactsOk vars f := by
  unfold factsB at h
  rw [Bool.and_eq_true, List.all_eq_true] at h
  exact ⟨fun i x hx => factB_ok (h.1 x (List.mem_of_getElem? hx)), ascB_ok h.2⟩
def stateB : List Int → List Int → Bool
  | [], [] => true
  | y :: vars, x :: s => decide (0 ≤ x) && (decide (x < y) && stateB vars s)
  | _, _ => false
theorem stateB_ok : ∀ {vars s : List Int}, stateB vars s = true → StateOk vars s
  | [], [], _ => ⟨rfl, fun i x y h => by simp at h⟩
  | y :: vars, x :: s, h => by
    simp only [stateB, Bool.and_eq_true, decide_eq_true_eq] at h
    obtain ⟨h1, h2⟩ := stateB_ok h.2.2
    refine ⟨by simp [h1], fun i a b ha hb => ?_⟩
    cases i with
    | zero => simp at ha hb; subst ha; subst hb; exact ⟨h.1, h.2.1⟩
    | succ i => exact h2 i a b (by simpa using ha) (by simpa using hb)
  | [], _ :: _, h => by simp [stateB] at h
  | _ :: _, [], h => by simp [stateB] at h
def nameB (s : ByteArray) : Bool := decide (s.size ≤ 256) && s.data.toList.all fun c => decide (32 ≤ c.toNat) && decide (c.toNat ≤ 126)
theorem nameB_ok {s : ByteArray} (h : nameB s = true) : NameOk s := by
  unfold nameB at h
  simp only [Bool.and_eq_true, decide_eq_true_eq, List.all_eq_true] at h
  refine ⟨h.1, fun i hi => h.2 _ ?_⟩
  show s.data[i] ∈ _
  simp
def opB (vars : List Int) (o : Opr) : Bool := decide (0 ≤ o.cost) && (decide (o.cost ≤ 1048576) && (decide (o.effs.length ≤ 64) && (nameB o.name && (factsB vars o.pre && o.effs.all fun e => factsB vars e.cond && factB vars ⟨e.var, e.val⟩))))
theorem opB_ok {vars : List Int} {o : Opr} (h : opB vars o = true) : OpOk vars o := by
  unfold opB at h
  simp only [Bool.and_eq_true, decide_eq_true_eq, List.all_eq_true] at h
  obtain ⟨h1, h2, h3, h4, h5, h6⟩ := h
  exact ⟨h1, h2, h3, nameB_ok h4, factsB_ok h5, fun i e he => ⟨factsB_ok (h6 e (List.mem_of_getElem? he)).1, factB_ok (h6 e (List.mem_of_getElem? he)).2⟩⟩
def taskB (t : Tsk) : Bool := decide (t.vars.length ≤ 64) && (decide (t.ops.length ≤ 4096) && ((t.vars.all fun n => decide (1 ≤ n) && decide (n ≤ 64)) && (stateB t.vars t.init && (factsB t.vars t.goal && t.ops.all (opB t.vars)))))
theorem taskB_ok {t : Tsk} (h : taskB t = true) : TaskOk t := by
  unfold taskB at h
  simp only [Bool.and_eq_true, decide_eq_true_eq, List.all_eq_true] at h
  obtain ⟨h1, h2, h3, h4, h5, h6⟩ := h
  exact ⟨h1, h2, fun i n hn => h3 n (List.mem_of_getElem? hn), stateB_ok h4, factsB_ok h5, fun i o ho => opB_ok (h6 o (List.mem_of_getElem? ho))⟩
def e_task_Check (t : Tsk) : Option Err := if taskB t = true then some ⟨0⟩ else none
theorem le_task_Check (t : Tsk) : Le (e_task_Check t) (m_task_Check t) := fun r h => by
  obtain ⟨h1, rfl⟩ := ite_some h
  unfold m_task_Check
  rw [check_ok.2 (taskB_ok h1)]
def e_task_Proper (x y : List Int) : Option Bool := if stateB x y = true then some true else none
theorem le_task_Proper (x y : List Int) : Le (e_task_Proper x y) (m_task_Proper x y) := fun r h => by
  obtain ⟨h1, rfl⟩ := ite_some h
  unfold m_task_Proper
  rw [bof_t (stateB_ok h1)]
def e_base_Ints (x y : List Int) : Option Bool := some (decide (x = y))
theorem le_base_Ints (x y : List Int) : Le (e_base_Ints x y) (m_base_Ints x y) := fun r h => by
  unfold e_base_Ints at h
  unfold m_base_Ints
  rw [← h]
  by_cases hx : x = y
  · rw [bof_t hx]; simp [hx]
  · rw [bof_f hx]; simp [hx]
def e_task_Holds (f : List Fct) (s : List Int) : Option Bool := m_task_Holds f s
theorem le_task_Holds (f : List Fct) (s : List Int) : Le (e_task_Holds f s) (m_task_Holds f s) := Le.rf
def e_slices_Clone_Lint_int (x : List Int) : Option (List Int) := m_slices_Clone_Lint_int x
theorem le_slices_Clone_Lint_int (x : List Int) : Le (e_slices_Clone_Lint_int x) (m_slices_Clone_Lint_int x) := Le.rf
end
section
open Go Go.RowKit
def e_slices_Sort_Lint_int (xs : List Int) : Option (List Int) := if xs.length ≤ 1000000 then some (insS xs) else none
theorem le_slices_Sort_Lint_int (xs : List Int) : Le (e_slices_Sort_Lint_int xs) (m_slices_Sort_Lint_int xs) := fun r h => by
  unfold e_slices_Sort_Lint_int at h
  unfold m_slices_Sort_Lint_int
  rw [sortL_ins]; exact h
def e_slices_Clone_Luint64_uint64 (x : List U64) : Option (List U64) := m_slices_Clone_Luint64_uint64 x
theorem le_slices_Clone_Luint64_uint64 (x : List U64) : Le (e_slices_Clone_Luint64_uint64 x) (m_slices_Clone_Luint64_uint64 x) := Le.rf
noncomputable def e_pqueue_New  : Option (Option Que) :=
  some (some (⟨([] : List QEn), 0⟩ : Que))
theorem le_pqueue_New  : Le (e_pqueue_New ) (m_pqueue_New ) := by
  unfold e_pqueue_New m_pqueue_New
  repeat' (first | apply Le.ite | apply Le.bnd | apply Le.fin | apply Le.rng | apply Le.rngN | apply Le.lop | exact Le.rf | intro _)
noncomputable def e_pqueue_before (x0 : QEn) (x1 : QEn) : Option Bool :=
  if x0.key ≠ x1.key then (bnd (if x0.key < x1.key then (some true) else (some false) : Option Bool) fun y24 => some y24) else (if x0.tie ≠ x1.tie then (bnd (if x0.tie < x1.tie then (some true) else (some false) : Option Bool) fun y34 => some y34) else (bnd (if x0.number < x1.number then (some true) else (some false) : Option Bool) fun y43 => some y43))
theorem le_pqueue_before (x0 : QEn) (x1 : QEn) : Le (e_pqueue_before x0 x1) (m_pqueue_before x0 x1) := by
  unfold e_pqueue_before m_pqueue_before
  repeat' (first | apply Le.ite | apply Le.bnd | apply Le.fin | apply Le.rng | apply Le.rngN | apply Le.lop | exact Le.rf | intro _)
noncomputable def e_pqueue_Queue_Len (x0 : Que) : Option Int :=
  some (x0.heap.length : Int)
theorem le_pqueue_Queue_Len (x0 : Que) : Le (e_pqueue_Queue_Len x0) (m_pqueue_Queue_Len x0) := by
  unfold e_pqueue_Queue_Len m_pqueue_Queue_Len
  repeat' (first | apply Le.ite | apply Le.bnd | apply Le.fin | apply Le.rng | apply Le.rngN | apply Le.lop | exact Le.rf | intro _)
noncomputable def e_pqueue_Queue_Peek (x0 : Que) : Option (Int × Int × Int × Err) :=
  if (x0.heap.length : Int) = 0 then (some (0, 0, 0, (⟨3⟩ : Err))) else (bnd (atI x0.heap 0) fun a20 => some (a20.key, a20.tie, a20.item, (⟨0⟩ : Err)))
theorem le_pqueue_Queue_Peek (x0 : Que) : Le (e_pqueue_Queue_Peek x0) (m_pqueue_Queue_Peek x0) := by
  unfold e_pqueue_Queue_Peek m_pqueue_Queue_Peek
  repeat' (first | apply Le.ite | apply Le.bnd | apply Le.fin | apply Le.rng | apply Le.rngN | apply Le.lop | exact Le.rf | intro _)
noncomputable def e_pqueue_Queue_up (x0 : Que) (x1 : Int) : Option Que :=
  bnd (lopE (ρ := Que) (fun (s5 : Int × Que) => if 0 < s5.1 then (bnd (chkI (s5.1 - 1)) fun n23 => bnd (quoI n23 2) fun n26 => bnd (atI s5.2.heap s5.1) fun a39 => bnd (atI s5.2.heap n26) fun a54 => bnd (e_pqueue_before a39 a54) fun q69 => if q69 = true then bnd (atI s5.2.heap n26) fun a81 => bnd (atI s5.2.heap s5.1) fun a96 => bnd (atI s5.2.heap s5.1) fun a111 => bnd (atI (s5.2.heap.set (s5.1 : Int).toNat a81) n26) fun a128 => some (.next (n26, (⟨((s5.2.heap.set (s5.1 : Int).toNat a81).set (n26 : Int).toNat a96), s5.2.next⟩ : Que))) else some (.ret s5.2)) else (some (.brk (s5.1, s5.2)))) (x1, x0)) fun res3 => fin res3 fun (s154 : Int × Que) => some s154.2
theorem le_pqueue_Queue_up (x0 : Que) (x1 : Int) : Le (e_pqueue_Queue_up x0 x1) (m_pqueue_Queue_up x0 x1) := by
  unfold e_pqueue_Queue_up m_pqueue_Queue_up
  repeat' (first | apply le_pqueue_before | apply Le.ite | apply Le.bnd | apply Le.fin | apply Le.rng | apply Le.rngN | apply Le.lop | exact Le.rf | intro _)
noncomputable def e_pqueue_Queue_down (x0 : Que) (x1 : Int) : Option Que :=
  bnd (lopE (ρ := Que) (fun (s5 : Int × Que) => bnd (chkI (2 * s5.1)) fun n22 => bnd (chkI (n22 + 1)) fun n25 => if (s5.2.heap.length : Int) ≤ n25 then (some (.ret s5.2)) else (bnd (bnd (bnd (chkI (n25 + 1)) fun n55 => if n55 < (s5.2.heap.length : Int) then (bnd (chkI (n25 + 1)) fun n61 => bnd (atI s5.2.heap n61) fun a64 => bnd (atI s5.2.heap n25) fun a79 => bnd (e_pqueue_before a64 a79) fun q94 => if q94 = true then some true else some false) else (some false) : Option Bool) fun y51 => if y51 = true then (bnd (chkI (n25 + 1)) fun n121 => some n121) else (some n25) : Option Int) fun y46 => bnd (atI s5.2.heap y46) fun a138 => bnd (atI s5.2.heap s5.1) fun a153 => bnd (e_pqueue_before a138 a153) fun q168 => if q168 = true then bnd (atI s5.2.heap y46) fun a180 => bnd (atI s5.2.heap s5.1) fun a195 => bnd (atI s5.2.heap s5.1) fun a210 => bnd (atI (s5.2.heap.set (s5.1 : Int).toNat a180) y46) fun a227 => some (.next (y46, (⟨((s5.2.heap.set (s5.1 : Int).toNat a180).set (y46 : Int).toNat a195), s5.2.next⟩ : Que))) else some (.ret s5.2))) (x1, x0)) fun res3 => fin res3 fun (_ : Int × Que) => none
theorem le_pqueue_Queue_down (x0 : Que) (x1 : Int) : Le (e_pqueue_Queue_down x0 x1) (m_pqueue_Queue_down x0 x1) := by
  unfold e_pqueue_Queue_down m_pqueue_Queue_down
  repeat' (first | apply le_pqueue_before | apply Le.ite | apply Le.bnd | apply Le.fin | apply Le.rng | apply Le.rngN | apply Le.lop | exact Le.rf | intro _)
noncomputable def e_pqueue_Queue_Push (x0 : Que) (x1 : Int) (x2 : Int) (x3 : Int) : Option (Err × Que) :=
  if 65536 ≤ (x0.heap.length : Int) then (some ((⟨10⟩ : Err), x0)) else (bnd (appI 32 x0.heap [(⟨x1, x2, x3, x0.next⟩ : QEn)]) fun u29 => bnd (chkI (x0.next + 1)) fun n42 => bnd (chkI ((u29.length : Int) - 1)) fun n49 => bnd (e_pqueue_Queue_up (⟨u29, n42⟩ : Que) n49) fun q57 => some ((⟨0⟩ : Err), q57))
theorem le_pqueue_Queue_Push (x0 : Que) (x1 : Int) (x2 : Int) (x3 : Int) : Le (e_pqueue_Queue_Push x0 x1 x2 x3) (m_pqueue_Queue_Push x0 x1 x2 x3) := by
  unfold e_pqueue_Queue_Push m_pqueue_Queue_Push
  repeat' (first | apply le_pqueue_Queue_up | apply Le.ite | apply Le.bnd | apply Le.fin | apply Le.rng | apply Le.rngN | apply Le.lop | exact Le.rf | intro _)
noncomputable def e_pqueue_Queue_Pop (x0 : Que) : Option (Int × Int × Int × Err × Que) :=
  bnd (e_pqueue_Queue_Peek x0) fun q2 => if q2.2.2.2.n ≠ 0 then (some (0, 0, 0, (⟨q2.2.2.2.n⟩ : Err), x0)) else (bnd (chkI ((x0.heap.length : Int) - 1)) fun n35 => bnd (atI x0.heap n35) fun a38 => bnd (atI x0.heap 0) fun a53 => bnd (cutI (x0.heap.set (0 : Int).toNat a38) 0 n35) fun u70 => bnd (e_pqueue_Queue_down (⟨u70, x0.next⟩ : Que) 0) fun q82 => some (q2.1, q2.2.1, q2.2.2.1, (⟨0⟩ : Err), q82))
theorem le_pqueue_Queue_Pop (x0 : Que) : Le (e_pqueue_Queue_Pop x0) (m_pqueue_Queue_Pop x0) := by
  unfold e_pqueue_Queue_Pop m_pqueue_Queue_Pop
  repeat' (first | apply le_pqueue_Queue_Peek | apply le_pqueue_Queue_down | apply Le.ite | apply Le.bnd | apply Le.fin | apply Le.rng | apply Le.rngN | apply Le.lop | exact Le.rf | intro _)
noncomputable def e_pack_New (x0 : List Int) : Option ((Option Pkr) × Err) :=
  if 64 < (x0.length : Int) then (some (none, (⟨5⟩ : Err))) else (bnd (rng (ρ := (Option Pkr) × Err) (fun (k25 : Nat) (a26 : Int) (s23 : Int × Pkr) => bnd (if a26 < 1 then (some true) else (if 64 < a26 then (some true) else (some false)) : Option Bool) fun y48 => if y48 = true then (some (.ret (none, (⟨1⟩ : Err)))) else (bnd (lopE (ρ := Ctl (Int × Pkr) ((Option Pkr) × Err)) (fun (s61 : Int) => bnd (shlI 1 s61) fun n76 => if n76 < a26 then (bnd (chkI (s61 + 1)) fun n80 => some (.next n80)) else (some (.brk s61))) 0) fun res59 => fin res59 fun (s87 : Int) => bnd (bnd (chkI (s23.1 + s87)) fun n95 => if 64 < n95 then (bnd (chkI (s23.2.words + 1)) fun n109 => some (0, (⟨s23.2.fields, n109⟩ : Pkr))) else (some (s23.1, s23.2)) : Option (Int × Pkr)) fun y89 => bnd (chkI (y89.2.words - 1)) fun n133 => bnd (appI 32 y89.2.fields [(⟨n133, y89.1, s87, a26⟩ : PFd)]) fun u142 => bnd (chkI (y89.1 + s87)) fun n155 => some (.next (n155, (⟨u142, y89.2.words⟩ : Pkr))))) x0 0 (0, (⟨([] : List PFd), 1⟩ : Pkr))) fun res21 => fin res21 fun (s167 : Int × Pkr) => some ((some s167.2), (⟨0⟩ : Err)))
theorem le_pack_New (x0 : List Int) : Le (e_pack_New x0) (m_pack_New x0) := by
  unfold e_pack_New m_pack_New
  repeat' (first | apply Le.ite | apply Le.bnd | apply Le.fin | apply Le.rng | apply Le.rngN | apply Le.lop | exact Le.rf | intro _)
noncomputable def e_pack_field_mask (x0 : PFd) : Option U64 :=
  bnd (shlU (1 : U64) x0.width) fun n12 => bnd (shlU (n12 - (1 : U64)) x0.bit) fun n14 => some n14
theorem le_pack_field_mask (x0 : PFd) : Le (e_pack_field_mask x0) (m_pack_field_mask x0) := by
  unfold e_pack_field_mask m_pack_field_mask
  repeat' (first | apply Le.ite | apply Le.bnd | apply Le.fin | apply Le.rng | apply Le.rngN | apply Le.lop | exact Le.rf | intro _)
noncomputable def e_pack_field_get (x0 : PFd) (x1 : List U64) : Option Int :=
  bnd (atI x1 x0.word) fun a15 => bnd (e_pack_field_mask x0) fun q26 => bnd (shrU (a15 &&& q26) x0.bit) fun n33 => some n33.toInt
theorem le_pack_field_get (x0 : PFd) (x1 : List U64) : Le (e_pack_field_get x0 x1) (m_pack_field_get x0 x1) := by
  unfold e_pack_field_get m_pack_field_get
  repeat' (first | apply le_pack_field_mask | apply Le.ite | apply Le.bnd | apply Le.fin | apply Le.rng | apply Le.rngN | apply Le.lop | exact Le.rf | intro _)
noncomputable def e_pack_Packer_Pack (x0 : Pkr) (x1 : List Int) : Option ((List U64) × Err) :=
  if (x1.length : Int) ≠ (x0.fields.length : Int) then (some (([] : List U64), (⟨2⟩ : Err))) else (bnd (mkI 8 ((0 : U64) : U64) x0.words) fun u25 => bnd (rng (ρ := (List U64) × Err) (fun (k50 : Nat) (a51 : PFd) (s48 : (List U64)) => bnd (bnd (x1[k50]?) fun a87 => if a87 < 0 then (some true) else (bnd (x1[k50]?) fun a98 => if a51.size ≤ a98 then (some true) else (some false)) : Option Bool) fun y83 => if y83 = true then (some (.ret (([] : List U64), (⟨2⟩ : Err)))) else (bnd (atI s48 a51.word) fun a114 => bnd (x1[k50]?) fun a125 => bnd (shlU (BitVec.ofInt 64 a125) a51.bit) fun n135 => bnd (atI s48 a51.word) fun a137 => some (.next (s48.set (a51.word : Int).toNat (a114 ||| n135))))) x0.fields 0 u25) fun res46 => fin res46 fun (s154 : (List U64)) => some (s154, (⟨0⟩ : Err)))
theorem le_pack_Packer_Pack (x0 : Pkr) (x1 : List Int) : Le (e_pack_Packer_Pack x0 x1) (m_pack_Packer_Pack x0 x1) := by
  unfold e_pack_Packer_Pack m_pack_Packer_Pack
  repeat' (first | apply Le.ite | apply Le.bnd | apply Le.fin | apply Le.rng | apply Le.rngN | apply Le.lop | exact Le.rf | intro _)
noncomputable def e_pack_Packer_Unpack (x0 : Pkr) (x1 : List U64) : Option ((List Int) × Err) :=
  if (x1.length : Int) ≠ x0.words then (some (([] : List Int), (⟨2⟩ : Err))) else (bnd (mkI 8 (0 : Int) (x0.fields.length : Int)) fun u25 => bnd (e_slices_Clone_Luint64_uint64 x1) fun q38 => bnd (rng (ρ := (List Int) × Err) (fun (k60 : Nat) (a61 : PFd) (s58 : (List Int) × (List U64)) => bnd (e_pack_field_get a61 x1) fun q97 => bnd (s58.1[k60]?) fun a105 => bnd ((s58.1.set k60 q97)[k60]?) fun a117 => if a61.size ≤ a117 then (some (.ret (([] : List Int), (⟨2⟩ : Err)))) else (bnd (atI s58.2 a61.word) fun a128 => bnd (e_pack_field_mask a61) fun q139 => bnd (atI s58.2 a61.word) fun a146 => some (.next ((s58.1.set k60 q97), (s58.2.set (a61.word : Int).toNat (a128 &&& ~~~q139)))))) x0.fields 0 (u25, q38)) fun res56 => fin res56 fun (s163 : (List Int) × (List U64)) => bnd (rng (ρ := (List Int) × Err) (fun (k171 : Nat) (a172 : U64) (s169 : Unit) => bnd (s163.2[k171]?) fun a182 => if (a182.toNat : Int) ≠ ((0 : U64).toNat : Int) then (some (.ret (([] : List Int), (⟨2⟩ : Err)))) else (some (.next ()))) q38 0 ()) fun res167 => fin res167 fun (s196 : Unit) => some (s163.1, (⟨0⟩ : Err)))
theorem le_pack_Packer_Unpack (x0 : Pkr) (x1 : List U64) : Le (e_pack_Packer_Unpack x0 x1) (m_pack_Packer_Unpack x0 x1) := by
  unfold e_pack_Packer_Unpack m_pack_Packer_Unpack
  repeat' (first | apply le_pack_field_get | apply le_pack_field_mask | apply le_slices_Clone_Luint64_uint64 | apply Le.ite | apply Le.bnd | apply Le.fin | apply Le.rng | apply Le.rngN | apply Le.lop | exact Le.rf | intro _)
noncomputable def e_pack_Packer_Hash (x0 : Pkr) (x1 : List U64) : Option Int :=
  bnd (rng (ρ := Int) (fun (k13 : Nat) (a14 : U64) (s11 : U64) => bnd (shrU ((s11 ^^^ a14) * (13787848793156543929 : U64)) 29) fun n31 => some (.next (((s11 ^^^ a14) * (13787848793156543929 : U64)) ^^^ n31))) x1 0 ((BitVec.ofInt 64 (x1.length : Int)) + (11400714819323198485 : U64))) fun res9 => fin res9 fun (s37 : U64) => bnd (shrU s37 2) fun n39 => some n39.toInt
theorem le_pack_Packer_Hash (x0 : Pkr) (x1 : List U64) : Le (e_pack_Packer_Hash x0 x1) (m_pack_Packer_Hash x0 x1) := by
  unfold e_pack_Packer_Hash m_pack_Packer_Hash
  repeat' (first | apply Le.ite | apply Le.bnd | apply Le.fin | apply Le.rng | apply Le.rngN | apply Le.lop | exact Le.rf | intro _)
noncomputable def e_slices_Equal_Luint64_uint64 (x0 : List U64) (x1 : List U64) : Option Bool :=
  if (x0.length : Int) ≠ (x1.length : Int) then (some false) else (bnd (rng (ρ := Bool) (fun (k18 : Nat) (a19 : U64) (s16 : Unit) => bnd (x1[k18]?) fun a36 => if (a19.toNat : Int) ≠ (a36.toNat : Int) then (some (.ret false)) else (some (.next ()))) x0 0 ()) fun res14 => fin res14 fun (s50 : Unit) => some true)
theorem le_slices_Equal_Luint64_uint64 (x0 : List U64) (x1 : List U64) : Le (e_slices_Equal_Luint64_uint64 x0 x1) (m_slices_Equal_Luint64_uint64 x0 x1) := by
  unfold e_slices_Equal_Luint64_uint64 m_slices_Equal_Luint64_uint64
  repeat' (first | apply Le.ite | apply Le.bnd | apply Le.fin | apply Le.rng | apply Le.rngN | apply Le.lop | exact Le.rf | intro _)
noncomputable def e_registry_New (x0 : List Int) : Option ((Option Reg) × Err) :=
  bnd (e_pack_New x0) fun q4 => if q4.2.n ≠ 0 then (some (none, (⟨q4.2.n⟩ : Err))) else (bnd q4.1 fun o22 => some ((some (⟨o22, ([] : List REn), (⟨[]⟩ : MapR 3 Int Int)⟩ : Reg)), (⟨0⟩ : Err)))
theorem le_registry_New (x0 : List Int) : Le (e_registry_New x0) (m_registry_New x0) := by
  unfold e_registry_New m_registry_New
  repeat' (first | apply le_pack_New | apply Le.ite | apply Le.bnd | apply Le.fin | apply Le.rng | apply Le.rngN | apply Le.lop | exact Le.rf | intro _)
noncomputable def e_registry_Registry_find (x0 : Reg) (x1 : List Int) : Option ((List U64) × Int × Int × Err) :=
  bnd (e_pack_Packer_Pack x0.packer x1) fun q20 => if q20.2.n ≠ 0 then (some (([] : List U64), 0, (-1), (⟨2⟩ : Err))) else (bnd (e_pack_Packer_Hash x0.packer q20.1) fun q41 => bnd (rng (ρ := (List U64) × Int × Int × Err) (fun (k66 : Nat) (a67 : Int) (s64 : Unit) => bnd (atI x0.entries a67) fun a100 => bnd (e_slices_Equal_Luint64_uint64 a100.words q20.1) fun q118 => if q118 = true then some (.ret (q20.1, q41, a67, (⟨0⟩ : Err))) else some (.next ())) (mget ([] : List Int) x0.table.l q41) 0 ()) fun res62 => fin res62 fun (s139 : Unit) => some (q20.1, q41, (-1), (⟨0⟩ : Err)))
theorem le_registry_Registry_find (x0 : Reg) (x1 : List Int) : Le (e_registry_Registry_find x0 x1) (m_registry_Registry_find x0 x1) := by
  unfold e_registry_Registry_find m_registry_Registry_find
  repeat' (first | apply le_pack_Packer_Hash | apply le_pack_Packer_Pack | apply le_slices_Equal_Luint64_uint64 | apply Le.ite | apply Le.bnd | apply Le.fin | apply Le.rng | apply Le.rngN | apply Le.lop | exact Le.rf | intro _)
noncomputable def e_registry_Registry_Add (x0 : Reg) (x1 : List Int) : Option (Int × Bool × Err × Reg) :=
  bnd (e_registry_Registry_find x0 x1) fun q5 => if q5.2.2.2.n ≠ 0 then (some (0, false, (⟨q5.2.2.2.n⟩ : Err), x0)) else (if 0 ≤ q5.2.2.1 then (some (q5.2.2.1, false, (⟨0⟩ : Err), x0)) else (if 65536 ≤ (x0.entries.length : Int) then (some (0, false, (⟨10⟩ : Err), x0)) else (bnd (appI 48 x0.entries [(⟨q5.1, (⟨(-1), (-1), 0⟩ : RLk)⟩ : REn)]) fun u53 => bnd (appI 8 (mget ([] : List Int) x0.table.l q5.2.1) [(x0.entries.length : Int)]) fun u82 => some ((x0.entries.length : Int), true, (⟨0⟩ : Err), (⟨x0.packer, u53, (⟨mput x0.table.l q5.2.1 u82⟩ : MapR 3 Int Int)⟩ : Reg)))))
theorem le_registry_Registry_Add (x0 : Reg) (x1 : List Int) : Le (e_registry_Registry_Add x0 x1) (m_registry_Registry_Add x0 x1) := by
  unfold e_registry_Registry_Add m_registry_Registry_Add
  repeat' (first | apply le_registry_Registry_find | apply Le.ite | apply Le.bnd | apply Le.fin | apply Le.rng | apply Le.rngN | apply Le.lop | exact Le.rf | intro _)
noncomputable def e_registry_Registry_has (x0 : Reg) (x1 : Int) : Option Bool :=
  bnd (if 0 ≤ x1 then (if x1 < (x0.entries.length : Int) then (some true) else (some false)) else (some false) : Option Bool) fun y3 => some y3
theorem le_registry_Registry_has (x0 : Reg) (x1 : Int) : Le (e_registry_Registry_has x0 x1) (m_registry_Registry_has x0 x1) := by
  unfold e_registry_Registry_has m_registry_Registry_has
  repeat' (first | apply Le.ite | apply Le.bnd | apply Le.fin | apply Le.rng | apply Le.rngN | apply Le.lop | exact Le.rf | intro _)
noncomputable def e_registry_Registry_State (x0 : Reg) (x1 : Int) : Option ((List Int) × Err) :=
  bnd (e_registry_Registry_has x0 x1) fun q3 => if q3 = true then bnd (atI x0.entries x1) fun a27 => bnd (e_pack_Packer_Unpack x0.packer a27.words) fun q45 => some (q45.1, (⟨q45.2.n⟩ : Err)) else some (([] : List Int), (⟨1⟩ : Err))
theorem le_registry_Registry_State (x0 : Reg) (x1 : Int) : Le (e_registry_Registry_State x0 x1) (m_registry_Registry_State x0 x1) := by
  unfold e_registry_Registry_State m_registry_Registry_State
  repeat' (first | apply le_pack_Packer_Unpack | apply le_registry_Registry_has | apply Le.ite | apply Le.bnd | apply Le.fin | apply Le.rng | apply Le.rngN | apply Le.lop | exact Le.rf | intro _)
noncomputable def e_registry_Registry_SetLink (x0 : Reg) (x1 : Int) (x2 : Int) (x3 : Int) (x4 : Int) : Option (Err × Reg) :=
  bnd (bnd (e_registry_Registry_has x0 x1) fun q10 => if q10 = true then if x2 ≠ (-1) then (bnd (e_registry_Registry_has x0 x2) fun q20 => if q20 = true then some false else some true) else (some false) else some true : Option Bool) fun y6 => if y6 = true then (some ((⟨1⟩ : Err), x0)) else (bnd (atI x0.entries x1) fun a49 => some ((⟨0⟩ : Err), (⟨x0.packer, (x0.entries.set (x1 : Int).toNat ({ a49 with link := (⟨x2, x3, x4⟩ : RLk) } : REn)), x0.table⟩ : Reg)))
theorem le_registry_Registry_SetLink (x0 : Reg) (x1 : Int) (x2 : Int) (x3 : Int) (x4 : Int) : Le (e_registry_Registry_SetLink x0 x1 x2 x3 x4) (m_registry_Registry_SetLink x0 x1 x2 x3 x4) := by
  unfold e_registry_Registry_SetLink m_registry_Registry_SetLink
  repeat' (first | apply le_registry_Registry_has | apply Le.ite | apply Le.bnd | apply Le.fin | apply Le.rng | apply Le.rngN | apply Le.lop | exact Le.rf | intro _)
noncomputable def e_slices_Reverse_Lint_int (x0 : List Int) : Option (List Int) :=
  bnd (chkI ((x0.length : Int) - 1)) fun n4 => bnd (lopE (ρ := (List Int)) (fun (s9 : (List Int) × Int × Int) => if s9.2.1 < s9.2.2 then (bnd (atI s9.1 s9.2.2) fun a31 => bnd (atI s9.1 s9.2.1) fun a43 => bnd (atI s9.1 s9.2.1) fun a55 => bnd (atI (s9.1.set (s9.2.1 : Int).toNat a31) s9.2.2) fun a69 => bnd (chkI (s9.2.1 + 1)) fun n83 => bnd (chkI (s9.2.2 - 1)) fun n86 => some (.next (((s9.1.set (s9.2.1 : Int).toNat a31).set (s9.2.2 : Int).toNat a43), n83, n86))) else (some (.brk (s9.1, s9.2.1, s9.2.2)))) (x0, 0, n4)) fun res7 => fin res7 fun (s93 : (List Int) × Int × Int) => some s93.1
theorem le_slices_Reverse_Lint_int (x0 : List Int) : Le (e_slices_Reverse_Lint_int x0) (m_slices_Reverse_Lint_int x0) := by
  unfold e_slices_Reverse_Lint_int m_slices_Reverse_Lint_int
  repeat' (first | apply Le.ite | apply Le.bnd | apply Le.fin | apply Le.rng | apply Le.rngN | apply Le.lop | exact Le.rf | intro _)
noncomputable def e_registry_Registry_Path (x0 : Reg) (x1 : Int) : Option ((List Int) × Err) :=
  bnd (e_registry_Registry_has x0 x1) fun q3 => if q3 = true then bnd (lopE (ρ := (List Int) × Err) (fun (s14 : Int × (List Int)) => bnd (atI x0.entries s14.1) fun a48 => if a48.link.parent < 0 then (bnd (e_slices_Reverse_Lint_int s14.2) fun q74 => some (.ret (q74, (⟨0⟩ : Err)))) else (bnd (appI 8 s14.2 [a48.link.op]) fun u89 => if (x0.entries.length : Int) < (u89.length : Int) then (some (.ret (([] : List Int), (⟨21⟩ : Err)))) else (some (.next (a48.link.parent, u89))))) (x1, ([] : List Int))) fun res12 => fin res12 fun (_ : Int × (List Int)) => none else some (([] : List Int), (⟨1⟩ : Err))
theorem le_registry_Registry_Path (x0 : Reg) (x1 : Int) : Le (e_registry_Registry_Path x0 x1) (m_registry_Registry_Path x0 x1) := by
  unfold e_registry_Registry_Path m_registry_Registry_Path
  repeat' (first | apply le_registry_Registry_has | apply le_slices_Reverse_Lint_int | apply Le.ite | apply Le.bnd | apply Le.fin | apply Le.rng | apply Le.rngN | apply Le.lop | exact Le.rf | intro _)
noncomputable def e_stubborn_on (x0 : List Fct) (x1 : Int) : Option (Int × Bool) :=
  bnd (rng (ρ := Int × Bool) (fun (k11 : Nat) (a12 : Fct) (s9 : Unit) => if a12.var = x1 then (some (.ret (a12.val, true))) else (some (.next ()))) x0 0 ()) fun res7 => fin res7 fun (s43 : Unit) => some (0, false)
theorem le_stubborn_on (x0 : List Fct) (x1 : Int) : Le (e_stubborn_on x0 x1) (m_stubborn_on x0 x1) := by
  unfold e_stubborn_on m_stubborn_on
  repeat' (first | apply Le.ite | apply Le.bnd | apply Le.fin | apply Le.rng | apply Le.rngN | apply Le.lop | exact Le.rf | intro _)
noncomputable def e_stubborn_hinders (x0 : Opr) (x1 : Opr) : Option Bool :=
  bnd (rng (ρ := Bool) (fun (k41 : Nat) (a42 : Eff) (s39 : Unit) => bnd (e_stubborn_on x1.pre a42.var) fun q72 => bnd (if q72.2 = true then (if q72.1 ≠ a42.val then (some true) else (some false)) else (some false) : Option Bool) fun y84 => if y84 = true then (some (.ret true)) else (bnd (rng (ρ := Ctl Unit Bool) (fun (k101 : Nat) (a102 : Eff) (s99 : Unit) => bnd (e_stubborn_on a102.cond a42.var) fun q132 => bnd (if q132.2 = true then (some true) else (if a102.var = a42.var then (if a102.val ≠ a42.val then (some true) else (some false)) else (some false)) : Option Bool) fun y144 => if y144 = true then (some (.ret (.ret true))) else (some (.next ()))) x1.effs 0 ()) fun res97 => fin res97 fun (s160 : Unit) => some (.next ()))) x0.effs 0 ()) fun res37 => fin res37 fun (s166 : Unit) => some false
theorem le_stubborn_hinders (x0 : Opr) (x1 : Opr) : Le (e_stubborn_hinders x0 x1) (m_stubborn_hinders x0 x1) := by
  unfold e_stubborn_hinders m_stubborn_hinders
  repeat' (first | apply le_stubborn_on | apply Le.ite | apply Le.bnd | apply Le.fin | apply Le.rng | apply Le.rngN | apply Le.lop | exact Le.rf | intro _)
noncomputable def e_stubborn_interfere (x0 : Tsk) (x1 : Int) (x2 : Int) : Option Bool :=
  bnd (if x1 ≠ x2 then (bnd (atI x0.ops x1) fun a31 => bnd (atI x0.ops x2) fun a52 => bnd (e_stubborn_hinders a31 a52) fun q73 => if q73 = true then some true else bnd (atI x0.ops x2) fun a80 => bnd (atI x0.ops x1) fun a101 => bnd (e_stubborn_hinders a80 a101) fun q122 => if q122 = true then some true else some false) else (some false) : Option Bool) fun y26 => some y26
theorem le_stubborn_interfere (x0 : Tsk) (x1 : Int) (x2 : Int) : Le (e_stubborn_interfere x0 x1 x2) (m_stubborn_interfere x0 x1 x2) := by
  unfold e_stubborn_interfere m_stubborn_interfere
  repeat' (first | apply le_stubborn_hinders | apply Le.ite | apply Le.bnd | apply Le.fin | apply Le.rng | apply Le.rngN | apply Le.lop | exact Le.rf | intro _)
noncomputable def e_stubborn_missing (x0 : List Fct) (x1 : List Int) : Option (Fct × Bool) :=
  bnd (rng (ρ := Fct × Bool) (fun (k18 : Nat) (a19 : Fct) (s16 : Unit) => bnd (atI x1 a19.var) fun a45 => if a45 ≠ a19.val then (some (.ret (a19, true))) else (some (.next ()))) x0 0 ()) fun res14 => fin res14 fun (s64 : Unit) => some ((⟨0, 0⟩ : Fct), false)
theorem le_stubborn_missing (x0 : List Fct) (x1 : List Int) : Le (e_stubborn_missing x0 x1) (m_stubborn_missing x0 x1) := by
  unfold e_stubborn_missing m_stubborn_missing
  repeat' (first | apply Le.ite | apply Le.bnd | apply Le.fin | apply Le.rng | apply Le.rngN | apply Le.lop | exact Le.rf | intro _)
noncomputable def e_stubborn_writers_l1 (x0 : Eff) (y0 : Fct) : Option Bool :=
  bnd (if x0.var = y0.var then (if x0.val = y0.val then (some true) else (some false)) else (some false) : Option Bool) fun y16 => some y16
theorem le_stubborn_writers_l1 (x0 : Eff) (y0 : Fct) : Le (e_stubborn_writers_l1 x0 y0) (m_stubborn_writers_l1 x0 y0) := by
  unfold e_stubborn_writers_l1 m_stubborn_writers_l1
  repeat' (first | apply Le.ite | apply Le.bnd | apply Le.fin | apply Le.rng | apply Le.rngN | apply Le.lop | exact Le.rf | intro _)
noncomputable def e_slices_IndexFunc_Lapi_Effect_api_Effect__stubborn_writers_l1 (x0 : List Eff) (y0 : Fct) : Option Int :=
  bnd (rng (ρ := Int) (fun (k13 : Nat) (a14 : Eff) (s11 : Unit) => bnd (e_stubborn_writers_l1 a14 y0) fun q37 => if q37 = true then some (.ret (k13 : Int)) else some (.next ())) x0 0 ()) fun res9 => fin res9 fun (s48 : Unit) => some (-1)
theorem le_slices_IndexFunc_Lapi_Effect_api_Effect__stubborn_writers_l1 (x0 : List Eff) (y0 : Fct) : Le (e_slices_IndexFunc_Lapi_Effect_api_Effect__stubborn_writers_l1 x0 y0) (m_slices_IndexFunc_Lapi_Effect_api_Effect__stubborn_writers_l1 x0 y0) := by
  unfold e_slices_IndexFunc_Lapi_Effect_api_Effect__stubborn_writers_l1 m_slices_IndexFunc_Lapi_Effect_api_Effect__stubborn_writers_l1
  repeat' (first | apply le_stubborn_writers_l1 | apply Le.ite | apply Le.bnd | apply Le.fin | apply Le.rng | apply Le.rngN | apply Le.lop | exact Le.rf | intro _)
noncomputable def e_slices_ContainsFunc_Lapi_Effect_api_Effect__stubborn_writers_l1 (x0 : List Eff) (y0 : Fct) : Option Bool :=
  bnd (bnd (e_slices_IndexFunc_Lapi_Effect_api_Effect__stubborn_writers_l1 x0 y0) fun q11 => if 0 ≤ q11 then (some true) else (some false) : Option Bool) fun y7 => some y7
theorem le_slices_ContainsFunc_Lapi_Effect_api_Effect__stubborn_writers_l1 (x0 : List Eff) (y0 : Fct) : Le (e_slices_ContainsFunc_Lapi_Effect_api_Effect__stubborn_writers_l1 x0 y0) (m_slices_ContainsFunc_Lapi_Effect_api_Effect__stubborn_writers_l1 x0 y0) := by
  unfold e_slices_ContainsFunc_Lapi_Effect_api_Effect__stubborn_writers_l1 m_slices_ContainsFunc_Lapi_Effect_api_Effect__stubborn_writers_l1
  repeat' (first | apply le_slices_IndexFunc_Lapi_Effect_api_Effect__stubborn_writers_l1 | apply Le.ite | apply Le.bnd | apply Le.fin | apply Le.rng | apply Le.rngN | apply Le.lop | exact Le.rf | intro _)
noncomputable def e_stubborn_writers (x0 : Tsk) (x1 : Fct) : Option (List Int) :=
  bnd (rng (ρ := (List Int)) (fun (k39 : Nat) (a40 : Opr) (s37 : (List Int)) => bnd (e_slices_ContainsFunc_Lapi_Effect_api_Effect__stubborn_writers_l1 a40.effs x1) fun q78 => if q78 = true then bnd (appI 8 s37 [(k39 : Int)]) fun u85 => some (.next u85) else some (.next s37)) x0.ops 0 ([] : List Int)) fun res35 => fin res35 fun (s101 : (List Int)) => some s101
theorem le_stubborn_writers (x0 : Tsk) (x1 : Fct) : Le (e_stubborn_writers x0 x1) (m_stubborn_writers x0 x1) := by
  unfold e_stubborn_writers m_stubborn_writers
  repeat' (first | apply le_slices_ContainsFunc_Lapi_Effect_api_Effect__stubborn_writers_l1 | apply Le.ite | apply Le.bnd | apply Le.fin | apply Le.rng | apply Le.rngN | apply Le.lop | exact Le.rf | intro _)
noncomputable def e_stubborn_meets (x0 : Tsk) (x1 : Int) : Option (List Int) :=
  bnd (rng (ρ := (List Int)) (fun (k31 : Nat) (a32 : Opr) (s29 : (List Int)) => bnd (e_stubborn_interfere x0 x1 (k31 : Int)) fun q46 => if q46 = true then bnd (appI 8 s29 [(k31 : Int)]) fun u53 => some (.next u53) else some (.next s29)) x0.ops 0 ([] : List Int)) fun res27 => fin res27 fun (s69 : (List Int)) => some s69
theorem le_stubborn_meets (x0 : Tsk) (x1 : Int) : Le (e_stubborn_meets x0 x1) (m_stubborn_meets x0 x1) := by
  unfold e_stubborn_meets m_stubborn_meets
  repeat' (first | apply le_stubborn_interfere | apply Le.ite | apply Le.bnd | apply Le.fin | apply Le.rng | apply Le.rngN | apply Le.lop | exact Le.rf | intro _)
noncomputable def e_stubborn_set_l1 (x0 : List Int) (x1 : BxR 55 4 Bool) (x2 : BxR 22 3 Int) : Option ((BxR 55 4 Bool) × (BxR 22 3 Int)) :=
  bnd (rng (ρ := (BxR 55 4 Bool) × (BxR 22 3 Int)) (fun (k10 : Nat) (a11 : Int) (s8 : (BxR 55 4 Bool) × (BxR 22 3 Int)) => bnd (atI s8.1.l a11) fun a42 => if (!a42) = true then (bnd (atI s8.1.l a11) fun a54 => bnd (appI 8 s8.2.l [a11]) fun u76 => some (.next ((⟨(s8.1.l.set (a11 : Int).toNat true)⟩ : BxR 55 4 Bool), (⟨u76⟩ : BxR 22 3 Int)))) else (some (.next (s8.1, s8.2)))) x0 0 (x1, x2)) fun res6 => fin res6 fun (s109 : (BxR 55 4 Bool) × (BxR 22 3 Int)) => some (s109.1, s109.2)
theorem le_stubborn_set_l1 (x0 : List Int) (x1 : BxR 55 4 Bool) (x2 : BxR 22 3 Int) : Le (e_stubborn_set_l1 x0 x1 x2) (m_stubborn_set_l1 x0 x1 x2) := by
  unfold e_stubborn_set_l1 m_stubborn_set_l1
  repeat' (first | apply Le.ite | apply Le.bnd | apply Le.fin | apply Le.rng | apply Le.rngN | apply Le.lop | exact Le.rf | intro _)
noncomputable def e_stubborn_set (x0 : Tsk) (x1 : List Int) : Option (List Int) :=
  bnd (mkI 1 (false : Bool) (x0.ops.length : Int)) fun u29 => bnd (e_stubborn_missing x0.goal x1) fun q54 => bnd (if (!q54.2) = true then (bnd (rng (ρ := (BxR 22 3 Int) × (BxR 55 4 Bool)) (fun (k100 : Nat) (a101 : Opr) (s98 : (BxR 22 3 Int) × (BxR 55 4 Bool)) => bnd (e_stubborn_set_l1 [(k100 : Int)] s98.2 s98.1) fun q123 => some (.next (q123.2, q123.1))) x0.ops 0 ((⟨([] : List Int)⟩ : BxR 22 3 Int), (⟨u29⟩ : BxR 55 4 Bool))) fun res96 => fin res96 fun (s136 : (BxR 22 3 Int) × (BxR 55 4 Bool)) => some (s136.1, s136.2)) else (bnd (e_stubborn_writers x0 q54.1) fun q138 => bnd (e_stubborn_set_l1 q138 (⟨u29⟩ : BxR 55 4 Bool) (⟨([] : List Int)⟩ : BxR 22 3 Int)) fun q159 => some (q159.2, q159.1)) : Option ((BxR 22 3 Int) × (BxR 55 4 Bool))) fun y75 => bnd (lopE (ρ := (List Int)) (fun (s174 : (List Int) × Int × (BxR 22 3 Int) × (BxR 55 4 Bool)) => if s174.2.1 < (s174.2.2.1.l.length : Int) then (bnd (bnd (atI s174.2.2.1.l s174.2.1) fun a217 => bnd (atI x0.ops a217) fun a219 => bnd (e_stubborn_missing a219.pre x1) fun q221 => bnd (some () : Option Unit) fun y223 => if q221.2 = true then (bnd (e_stubborn_writers x0 q221.1) fun q312 => bnd (e_stubborn_set_l1 q312 s174.2.2.2 s174.2.2.1) fun q321 => some (s174.1, q321.2, q321.1)) else (bnd (atI s174.2.2.1.l s174.2.1) fun a339 => bnd (appI 8 s174.1 [a339]) fun u351 => bnd (atI s174.2.2.1.l s174.2.1) fun a363 => bnd (e_stubborn_meets x0 a363) fun q375 => bnd (e_stubborn_set_l1 q375 s174.2.2.2 s174.2.2.1) fun q389 => some (u351, q389.2, q389.1)) : Option ((List Int) × (BxR 22 3 Int) × (BxR 55 4 Bool))) fun y209 => bnd (chkI (s174.2.1 + 1)) fun n402 => some (.next (y209.1, n402, y209.2.1, y209.2.2))) else (some (.brk (s174.1, s174.2.1, s174.2.2.1, s174.2.2.2)))) (([] : List Int), 0, y75.1, y75.2)) fun res172 => fin res172 fun (s414 : (List Int) × Int × (BxR 22 3 Int) × (BxR 55 4 Bool)) => bnd (e_slices_Sort_Lint_int s414.1) fun q416 => some q416
theorem le_stubborn_set (x0 : Tsk) (x1 : List Int) : Le (e_stubborn_set x0 x1) (m_stubborn_set x0 x1) := by
  unfold e_stubborn_set m_stubborn_set
  repeat' (first | apply le_slices_Sort_Lint_int | apply le_stubborn_meets | apply le_stubborn_missing | apply le_stubborn_set_l1 | apply le_stubborn_writers | apply Le.ite | apply Le.bnd | apply Le.fin | apply Le.rng | apply Le.rngN | apply Le.lop | exact Le.rf | intro _)
noncomputable def e_stubborn_Set (x0 : Tsk) (x1 : List Int) : Option ((List Int) × Err) :=
  bnd (e_task_Check x0) fun q27 => if q27.n ≠ 0 then (some (([] : List Int), (⟨q27.n⟩ : Err))) else (bnd (e_task_Proper x0.vars x1) fun q36 => if q36 = true then bnd (e_stubborn_set x0 x1) fun q43 => some (q43, (⟨0⟩ : Err)) else some (([] : List Int), (⟨2⟩ : Err)))
theorem le_stubborn_Set (x0 : Tsk) (x1 : List Int) : Le (e_stubborn_Set x0 x1) (m_stubborn_Set x0 x1) := by
  unfold e_stubborn_Set m_stubborn_Set
  repeat' (first | apply le_stubborn_set | apply le_task_Check | apply le_task_Proper | apply Le.ite | apply Le.bnd | apply Le.fin | apply Le.rng | apply Le.rngN | apply Le.lop | exact Le.rf | intro _)
noncomputable def e_task_apply (x0 : Tsk) (x1 : List Int) (x2 : Int) : Option ((List Int) × Err) :=
  bnd (if x2 < 0 then (some true) else (if (x0.ops.length : Int) ≤ x2 then (some true) else (some false)) : Option Bool) fun y28 => if y28 = true then (some (([] : List Int), (⟨1⟩ : Err))) else (bnd (e_task_Proper x0.vars x1) fun q41 => if q41 = true then bnd (atI x0.ops x2) fun a48 => bnd (e_task_Holds a48.pre x1) fun q69 => if q69 = true then bnd (e_slices_Clone_Lint_int x1) fun q76 => bnd (atI x0.ops x2) fun a86 => bnd (rng (ρ := (List Int) × Err) (fun (k113 : Nat) (a114 : Eff) (s111 : (List Int)) => bnd (e_task_Holds a114.cond x1) fun q148 => if q148 = true then bnd (atI s111 a114.var) fun a155 => some (.next (s111.set (a114.var : Int).toNat a114.val)) else some (.next s111)) a86.effs 0 q76) fun res109 => fin res109 fun (s173 : (List Int)) => some (s173, (⟨0⟩ : Err)) else some (([] : List Int), (⟨12⟩ : Err)) else some (([] : List Int), (⟨2⟩ : Err)))
theorem le_task_apply (x0 : Tsk) (x1 : List Int) (x2 : Int) : Le (e_task_apply x0 x1 x2) (m_task_apply x0 x1 x2) := by
  unfold e_task_apply m_task_apply
  repeat' (first | apply le_slices_Clone_Lint_int | apply le_task_Holds | apply le_task_Proper | apply Le.ite | apply Le.bnd | apply Le.fin | apply Le.rng | apply Le.rngN | apply Le.lop | exact Le.rf | intro _)
noncomputable def e_task_Apply (x0 : Tsk) (x1 : List Int) (x2 : Int) : Option ((List Int) × Err) :=
  bnd (e_task_Check x0) fun q28 => if q28.n ≠ 0 then (some (([] : List Int), (⟨q28.n⟩ : Err))) else (bnd (e_task_apply x0 x1 x2) fun q37 => some (q37.1, (⟨q37.2.n⟩ : Err)))
theorem le_task_Apply (x0 : Tsk) (x1 : List Int) (x2 : Int) : Le (e_task_Apply x0 x1 x2) (m_task_Apply x0 x1 x2) := by
  unfold e_task_Apply m_task_Apply
  repeat' (first | apply le_task_Check | apply le_task_apply | apply Le.ite | apply Le.bnd | apply Le.fin | apply Le.rng | apply Le.rngN | apply Le.lop | exact Le.rf | intro _)
noncomputable def e_stubborn_search_reach (x0 : Sch) (x1 : List Int) (x2 : Int) (x3 : Int) (x4 : Int) : Option (Err × Sch) :=
  bnd (e_registry_Registry_Add x0.states x1) fun q45 => if q45.2.2.1.n ≠ 0 then (some ((⟨q45.2.2.1.n⟩ : Err), (⟨(⟨x0.t.vars, x0.t.init, x0.t.goal, x0.t.ops⟩ : Tsk), q45.2.2.2, x0.que, x0.costs, x0.fin, x0.exp⟩ : Sch))) else (bnd (if q45.2.1 = true then (bnd (appI 8 x0.costs [1125899906842624]) fun u73 => bnd (appI 1 x0.fin [false]) fun u75 => some (⟨(⟨x0.t.vars, x0.t.init, x0.t.goal, x0.t.ops⟩ : Tsk), q45.2.2.2, x0.que, u73, u75, x0.exp⟩ : Sch)) else (some (⟨(⟨x0.t.vars, x0.t.init, x0.t.goal, x0.t.ops⟩ : Tsk), q45.2.2.2, x0.que, x0.costs, x0.fin, x0.exp⟩ : Sch)) : Option Sch) fun y67 => bnd (atI y67.costs q45.1) fun a234 => if a234 ≤ x4 then (some ((⟨0⟩ : Err), y67)) else (bnd (atI y67.costs q45.1) fun a252 => bnd (e_registry_Registry_SetLink y67.states q45.1 x2 x3 x4) fun q266 => if q266.1.n ≠ 0 then (some ((⟨q266.1.n⟩ : Err), (⟨(⟨y67.t.vars, y67.t.init, y67.t.goal, y67.t.ops⟩ : Tsk), q266.2, y67.que, (y67.costs.set (q45.1 : Int).toNat x4), y67.fin, y67.exp⟩ : Sch))) else (bnd (e_pqueue_Queue_Push y67.que x4 0 q45.1) fun q282 => some ((⟨q282.1.n⟩ : Err), (⟨(⟨y67.t.vars, y67.t.init, y67.t.goal, y67.t.ops⟩ : Tsk), q266.2, q282.2, (y67.costs.set (q45.1 : Int).toNat x4), y67.fin, y67.exp⟩ : Sch)))))
theorem le_stubborn_search_reach (x0 : Sch) (x1 : List Int) (x2 : Int) (x3 : Int) (x4 : Int) : Le (e_stubborn_search_reach x0 x1 x2 x3 x4) (m_stubborn_search_reach x0 x1 x2 x3 x4) := by
  unfold e_stubborn_search_reach m_stubborn_search_reach
  repeat' (first | apply le_pqueue_Queue_Push | apply le_registry_Registry_Add | apply le_registry_Registry_SetLink | apply Le.ite | apply Le.bnd | apply Le.fin | apply Le.rng | apply Le.rngN | apply Le.lop | exact Le.rf | intro _)
noncomputable def e_stubborn_search_expand (x0 : Sch) (x1 : Int) (x2 : List Int) : Option (Err × Sch) :=
  bnd (atI x0.fin x1) fun a43 => bnd (chkI (x0.exp + 1)) fun n56 => bnd (e_stubborn_set (⟨x0.t.vars, x0.t.init, x0.t.goal, x0.t.ops⟩ : Tsk) x2) fun q61 => bnd (rng (ρ := Err × Sch) (fun (k81 : Nat) (a82 : Int) (s79 : Sch) => bnd (e_task_Apply (⟨s79.t.vars, s79.t.init, s79.t.goal, s79.t.ops⟩ : Tsk) x2 a82) fun q139 => if q139.2.n ≠ 0 then (some (.ret ((⟨q139.2.n⟩ : Err), s79))) else (bnd (atI s79.costs x1) fun a159 => bnd (atI s79.t.ops a82) fun a171 => bnd (chkI (a159 + a171.cost)) fun n192 => bnd (e_stubborn_search_reach s79 q139.1 x1 a82 n192) fun q200 => if q200.1.n ≠ 0 then (some (.ret ((⟨q200.1.n⟩ : Err), q200.2))) else (some (.next q200.2)))) q61 0 (⟨(⟨x0.t.vars, x0.t.init, x0.t.goal, x0.t.ops⟩ : Tsk), x0.states, x0.que, x0.costs, (x0.fin.set (x1 : Int).toNat true), n56⟩ : Sch)) fun res77 => fin res77 fun (s215 : Sch) => some ((⟨0⟩ : Err), s215)
theorem le_stubborn_search_expand (x0 : Sch) (x1 : Int) (x2 : List Int) : Le (e_stubborn_search_expand x0 x1 x2) (m_stubborn_search_expand x0 x1 x2) := by
  unfold e_stubborn_search_expand m_stubborn_search_expand
  repeat' (first | apply le_stubborn_search_reach | apply le_stubborn_set | apply le_task_Apply | apply Le.ite | apply Le.bnd | apply Le.fin | apply Le.rng | apply Le.rngN | apply Le.lop | exact Le.rf | intro _)
noncomputable def e_stubborn_search_run (x0 : Sch) (x1 : Int) : Option (Rsl × Sch) :=
  bnd (lopE (ρ := Rsl × Sch) (fun (s17 : Int × Sch) => bnd (e_pqueue_Queue_Len s17.2.que) fun q71 => if 0 < q71 then (bnd (e_pqueue_Queue_Pop s17.2.que) fun q82 => bnd (if q82.2.2.2.1.n ≠ 0 then (some true) else (bnd (atI s17.2.fin q82.2.2.1) fun a112 => if a112 = true then (some true) else (bnd (atI s17.2.costs q82.2.2.1) fun a129 => if q82.1 ≠ a129 then (some true) else (some false))) : Option Bool) fun y102 => if y102 = true then (some (.next (s17.1, (⟨(⟨s17.2.t.vars, s17.2.t.init, s17.2.t.goal, s17.2.t.ops⟩ : Tsk), s17.2.states, q82.2.2.2.2, s17.2.costs, s17.2.fin, s17.2.exp⟩ : Sch)))) else (bnd (e_registry_Registry_State ((⟨(⟨s17.2.t.vars, s17.2.t.init, s17.2.t.goal, s17.2.t.ops⟩ : Tsk), s17.2.states, q82.2.2.2.2, s17.2.costs, s17.2.fin, s17.2.exp⟩ : Sch).states) q82.2.2.1) fun q194 => if q194.2.n ≠ 0 then (some (.brk (s17.1, (⟨(⟨s17.2.t.vars, s17.2.t.init, s17.2.t.goal, s17.2.t.ops⟩ : Tsk), s17.2.states, q82.2.2.2.2, s17.2.costs, s17.2.fin, s17.2.exp⟩ : Sch)))) else (bnd (e_task_Holds ((⟨(⟨s17.2.t.vars, s17.2.t.init, s17.2.t.goal, s17.2.t.ops⟩ : Tsk), s17.2.states, q82.2.2.2.2, s17.2.costs, s17.2.fin, s17.2.exp⟩ : Sch).t.goal) q194.1) fun q215 => if q215 = true then bnd (e_registry_Registry_Path ((⟨(⟨s17.2.t.vars, s17.2.t.init, s17.2.t.goal, s17.2.t.ops⟩ : Tsk), s17.2.states, q82.2.2.2.2, s17.2.costs, s17.2.fin, s17.2.exp⟩ : Sch).states) q82.2.2.1) fun q294 => if q294.2.n ≠ 0 then (some (.brk (s17.1, (⟨(⟨s17.2.t.vars, s17.2.t.init, s17.2.t.goal, s17.2.t.ops⟩ : Tsk), s17.2.states, q82.2.2.2.2, s17.2.costs, s17.2.fin, s17.2.exp⟩ : Sch)))) else (some (.ret ((⟨1, q294.1, q82.1, (⟨(⟨s17.2.t.vars, s17.2.t.init, s17.2.t.goal, s17.2.t.ops⟩ : Tsk), s17.2.states, q82.2.2.2.2, s17.2.costs, s17.2.fin, s17.2.exp⟩ : Sch).exp⟩ : Rsl), (⟨(⟨s17.2.t.vars, s17.2.t.init, s17.2.t.goal, s17.2.t.ops⟩ : Tsk), s17.2.states, q82.2.2.2.2, s17.2.costs, s17.2.fin, s17.2.exp⟩ : Sch)))) else if x1 ≤ ((⟨(⟨s17.2.t.vars, s17.2.t.init, s17.2.t.goal, s17.2.t.ops⟩ : Tsk), s17.2.states, q82.2.2.2.2, s17.2.costs, s17.2.fin, s17.2.exp⟩ : Sch).exp) then (some (.ret ((⟨3, ([] : List Int), 0, (⟨(⟨s17.2.t.vars, s17.2.t.init, s17.2.t.goal, s17.2.t.ops⟩ : Tsk), s17.2.states, q82.2.2.2.2, s17.2.costs, s17.2.fin, s17.2.exp⟩ : Sch).exp⟩ : Rsl), (⟨(⟨s17.2.t.vars, s17.2.t.init, s17.2.t.goal, s17.2.t.ops⟩ : Tsk), s17.2.states, q82.2.2.2.2, s17.2.costs, s17.2.fin, s17.2.exp⟩ : Sch)))) else (bnd (e_stubborn_search_expand (⟨(⟨s17.2.t.vars, s17.2.t.init, s17.2.t.goal, s17.2.t.ops⟩ : Tsk), s17.2.states, q82.2.2.2.2, s17.2.costs, s17.2.fin, s17.2.exp⟩ : Sch) q82.2.2.1 q194.1) fun q237 => if q237.1.n ≠ 0 then (some (.ret ((⟨3, ([] : List Int), 0, q237.2.exp⟩ : Rsl), q237.2))) else (some (.next ((⟨(⟨s17.2.t.vars, s17.2.t.init, s17.2.t.goal, s17.2.t.ops⟩ : Tsk), s17.2.states, q82.2.2.2.2, s17.2.costs, s17.2.fin, s17.2.exp⟩ : Sch).exp, q237.2))))))) else (some (.brk (s17.1, s17.2)))) (0, x0)) fun res15 => fin res15 fun (s331 : Int × Sch) => some ((⟨2, ([] : List Int), 0, s331.2.exp⟩ : Rsl), s331.2)
theorem le_stubborn_search_run (x0 : Sch) (x1 : Int) : Le (e_stubborn_search_run x0 x1) (m_stubborn_search_run x0 x1) := by
  unfold e_stubborn_search_run m_stubborn_search_run
  repeat' (first | apply le_pqueue_Queue_Len | apply le_pqueue_Queue_Pop | apply le_registry_Registry_Path | apply le_registry_Registry_State | apply le_stubborn_search_expand | apply le_task_Holds | apply Le.ite | apply Le.bnd | apply Le.fin | apply Le.rng | apply Le.rngN | apply Le.lop | exact Le.rf | intro _)
noncomputable def e_stubborn_Search (x0 : Tsk) (x1 : Int) : Option (Rsl × Err) :=
  bnd (e_task_Check x0) fun q30 => if q30.n ≠ 0 then (some ((⟨0, ([] : List Int), 0, 0⟩ : Rsl), (⟨q30.n⟩ : Err))) else (bnd (e_registry_New x0.vars) fun q41 => if q41.2.n ≠ 0 then (some ((⟨0, ([] : List Int), 0, 0⟩ : Rsl), (⟨q41.2.n⟩ : Err))) else (bnd (e_pqueue_New) fun q56 => bnd q41.1 fun o64 => bnd q56 fun o67 => bnd (e_stubborn_search_reach (⟨(⟨x0.vars, x0.init, x0.goal, x0.ops⟩ : Tsk), o64, o67, ([] : List Int), ([] : List Bool), 0⟩ : Sch) x0.init (-1) (-1) 0) fun q84 => if q84.1.n ≠ 0 then (some ((⟨0, ([] : List Int), 0, 0⟩ : Rsl), (⟨q84.1.n⟩ : Err))) else (bnd (e_stubborn_search_run q84.2 (max x1 0)) fun q97 => some (q97.1, (⟨0⟩ : Err)))))
theorem le_stubborn_Search (x0 : Tsk) (x1 : Int) : Le (e_stubborn_Search x0 x1) (m_stubborn_Search x0 x1) := by
  unfold e_stubborn_Search m_stubborn_Search
  repeat' (first | apply le_pqueue_New | apply le_registry_New | apply le_stubborn_search_reach | apply le_stubborn_search_run | apply le_task_Check | apply Le.ite | apply Le.bnd | apply Le.fin | apply Le.rng | apply Le.rngN | apply Le.lop | exact Le.rf | intro _)
noncomputable def e_law53_switches  : Option Tsk :=
  some (⟨[2, 2], [0, 0], [(⟨0, 1⟩ : Fct), (⟨1, 1⟩ : Fct)], [(⟨(⟨#[]⟩ : ByteArray), 1, [(⟨0, 0⟩ : Fct)], [(⟨([] : List Fct), 0, 1⟩ : Eff)]⟩ : Opr), (⟨(⟨#[]⟩ : ByteArray), 1, [(⟨1, 0⟩ : Fct)], [(⟨([] : List Fct), 1, 1⟩ : Eff)]⟩ : Opr)]⟩ : Tsk)
theorem le_law53_switches  : Le (e_law53_switches ) (m_law53_switches ) := by
  unfold e_law53_switches m_law53_switches
  repeat' (first | apply Le.ite | apply Le.bnd | apply Le.fin | apply Le.rng | apply Le.rngN | apply Le.lop | exact Le.rf | intro _)
noncomputable def e_law53_awake  : Option Bool :=
  bnd (e_law53_switches) fun q1 => bnd (e_stubborn_Set q1 [0, 0]) fun q33 => bnd (e_law53_switches) fun q47 => bnd (e_stubborn_Search q47 10) fun q71 => bnd (if q33.2.n = 0 then (if q71.2.n = 0 then (bnd (e_base_Ints q33.1 [0]) fun q110 => if q110 = true then if q71.1.verdict = 1 then (if q71.1.cost = 2 then (if q71.1.expanded = 2 then (some true) else (some false)) else (some false)) else (some false) else some false) else (some false)) else (some false) : Option Bool) fun y98 => some y98
theorem le_law53_awake  : Le (e_law53_awake ) (m_law53_awake ) := by
  unfold e_law53_awake m_law53_awake
  repeat' (first | apply le_base_Ints | apply le_law53_switches | apply le_stubborn_Search | apply le_stubborn_Set | apply Le.ite | apply Le.bnd | apply Le.fin | apply Le.rng | apply Le.rngN | apply Le.lop | exact Le.rf | intro _)
set_option maxRecDepth 100000 in
theorem awake53 : m_law53_awake = some true := le_law53_awake true (by kernel_rfl)
end
section
open Go Go.RowKit
theorem small_t {t : Tsk} (h : SmallOk t) : m_base_Small t = some true := by unfold m_base_Small; rw [bof_t h]
theorem small_f {t : Tsk} (h : ¬ SmallOk t) : m_base_Small t = some false := by unfold m_base_Small; rw [bof_f h]
end
section
open Go Go.RowKit
theorem Set_ok {t : Tsk} (h : TaskOk t) {s : List Int} (hs : StateOk t.vars s) : m_stubborn_Set t s = some (stubL t s, ⟨0⟩) := by
  unfold m_stubborn_Set m_task_Proper
  rw [check_t h, bnd_some, if_neg (by simp), bof_t hs, bnd_some, if_t, set_eq h hs, bnd_some]
end
section
open Go Go.RowKit
attribute [local irreducible] ewp owp hwp hwq Ev Evg Fn retPost Res1
attribute [local irreducible] hwx loudX
noncomputable def m_law53_least (x0 : Tsk) : Option ((List Int) × (List Int)) :=
  bnd (m_base_Distances x0) fun q24 => bnd (mkI 8 (0 : Int) (q24.length : Int)) fun u35 => bnd (m_base_States x0.vars) fun q48 => bnd (rng (ρ := (List Int) × (List Int)) (fun (k63 : Nat) (a64 : List Int) (s61 : (List Int)) => bnd (s61[k63]?) fun a89 => bnd (m_base_Holds x0.goal a64) fun q101 => if q101 = true then bnd ((s61.set k63 1125899906842624)[k63]?) fun a108 => some (.next ((s61.set k63 1125899906842624).set k63 0)) else some (.next (s61.set k63 1125899906842624))) q48 0 u35) fun res59 => fin res59 fun (s124 : (List Int)) => bnd (m_base_Edges x0) fun q126 => bnd (lop (ρ := (List Int) × (List Int)) (fun (s137 : (List Int) × Bool) => if s137.2 = true then (bnd (rng (ρ := Ctl ((List Int) × Bool) ((List Int) × (List Int))) (fun (k161 : Nat) (a162 : Edg) (s159 : (List Int) × Bool) => bnd (bnd (atI q24 a162.dst) fun a197 => if a197 < 1125899906842624 then (bnd (atI q24 a162.src) fun a210 => bnd (atI q24 a162.dst) fun a222 => bnd (atI x0.ops a162.op) fun a234 => bnd (chkI (a222 + a234.cost)) fun n255 => if a210 = n255 then (bnd (atI s159.1 a162.dst) fun a259 => bnd (chkI (a259 + 1)) fun n271 => bnd (atI s159.1 a162.src) fun a274 => if n271 < a274 then (some true) else (some false)) else (some false)) else (some false) : Option Bool) fun y193 => if y193 = true then (bnd (atI s159.1 a162.dst) fun a292 => bnd (chkI (a292 + 1)) fun n304 => bnd (atI s159.1 a162.src) fun a307 => some (.next ((s159.1.set (a162.src : Int).toNat n304), true))) else (some (.next (s159.1, s159.2)))) q126 0 (s137.1, false)) fun res157 => fin res157 fun (s325 : (List Int) × Bool) => some (.next (s325.1, s325.2))) else (some (.brk (s137.1, s137.2)))) (s124, true)) fun res135 => fin res135 fun (s331 : (List Int) × Bool) => some (q24, s331.1)
theorem c_law53_least {w : World} {A : Nat → Prop} (hA : ∀ k, A k → k < w.heap.size) {vx0 : Value} {x0 : Tsk} (hx0 : Vb w A vx0 x0) {r : (List Int) × (List Int)} (hm : m_law53_least x0 = some r) :
    Fn Try.prog 17 [vx0] w fun v w' => Ext w w' ∧ T2 w' (upA A w w') v r := by
 obtain ⟨O, hB, hA0⟩ := enter hA
 replace hx0 := hx0.mono hA0
 obtain ⟨cs2, rfl, v3, v4, v5, v6, rfl, h7, h10, h13, h16⟩ := hx0
 obtain ⟨A8, c9, rfl⟩ := h7.form
 obtain ⟨A11, c12, rfl⟩ := h10.form
 obtain ⟨A14, c15, rfl⟩ := h13.form
 obtain ⟨A17, c18, rfl⟩ := h16.form
 refine fn_enter Try.func17 rfl Try.ntmps17 rfl ?_
 unfold m_law53_least at hm
 refine ewp_seq (ewp_region (l_box 2 O rfl rfl fun g19 w20 O21 S22 h23 => ?_))
 replace h23 : Lc 2 w20 O21 g19 26 [(.slice A8 x0.vars.length c9), (.slice A11 x0.init.length c12), (.slice A14 x0.goal.length c15), (.slice A17 x0.ops.length c18)] := h23
 refine o_as rfl rfl (o_as rfl rfl (o_z ?_))
 refine ewp_seq (ewp_region (o_la (hl := rfl) (hc := (h23.1).cellsAt) rfl rfl ?_))
 obtain ⟨q24, e25, hm⟩ := bs hm
 replace h7 := h7.st S22
 replace h10 := h10.st S22
 replace h13 := h13.st S22
 replace h16 := h16.st S22
 refine l_call (O := O21) (R := fun w' F v => Vb w' F v q24) (c_base_Distances Fr.lt (Vb.ofAgg (cs := [(.slice A8 x0.vars.length c9), (.slice A11 x0.init.length c12), (.slice A14 x0.goal.length c15), (.slice A17 x0.ops.length c18)]) (x := x0) rfl ⟨_, _, _, _, rfl, h7, h10, h13, h16⟩) e25) rfl rfl fun v30 w26 O27 S28 h29 => ?_
 obtain ⟨A31, c32, rfl⟩ := h29.form
 refine o_as rfl rfl (o_z ?_)
 refine ewp_seq (ewp_region (o_mv rfl rfl (o_ln rfl rfl ?_)))
 have l34 : q24.length ≤ 9223372036854775807 := Nat.le_trans h29.len.2.1 h29.len.2.2
 have r33 : inI64 (q24.length : Int) := rngNat l34
 obtain ⟨u35, e36, hm⟩ := bs hm
 obtain ⟨m37, e38, e39, e40, e41⟩ := mkI_some e36
 refine l_make 3 (by decide) O27 (z0 := (0 : Int)) rfl rfl rfl rfl rfl e38 (vInt (show inI64 0 from by decide)) e39 e40 rfl fun g42 w43 O44 S45 h46 => ?_
 rw [← e41] at h46 ⊢
 refine o_as rfl rfl (o_z ?_)
 refine ewp_seq (ewp_seq (ewp_region (o_fa rfl rfl ?_)))
 replace h23 := (h23.st S28).st S45
 refine o_ld (hc := Blk.cell (i := 0) (h23.1) rfl) rfl rfl ?_
 obtain ⟨q48, e49, hm⟩ := bs hm
 replace h7 := (h7.st S28).st S45
 refine l_call (O := O44) (R := fun w' F v => Vb w' F v q48) (c_base_States Fr.lt h7 e49) rfl rfl fun v54 w50 O51 S52 h53 => ?_
 obtain ⟨A55, c56, rfl⟩ := h53.form
 refine o_ln rfl rfl ?_
 have l58 : q48.length ≤ 9223372036854775807 := Nat.le_trans h53.len.2.1 h53.len.2.2
 have r57 : inI64 (q48.length : Int) := rngNat l58
 refine o_mv rfl rfl (o_z ?_)
 obtain ⟨res59, hL60, hm⟩ := bs hm
 refine ewp_join (aft res59 (fun (s61 : (List Int)) (x62 : Unit) => [(1, (.pointer (some ⟨g19, 0, none⟩))), (4, (.slice A31 q24.length c32)), (5, (.slice (some ⟨g42, 0, none⟩) u35.length m37))]) (fun s61 x62 w' => ∃ O' : Lab, Bs w A w' O' ∧ Lc 2 w' O' g19 26 [(.slice A8 x0.vars.length c9), (.slice A11 x0.init.length c12), (.slice A14 x0.goal.length c15), (.slice A17 x0.ops.length c18)] ∧ Vb w' (Fr 0 w' O') (.slice A8 x0.vars.length c9) x0.vars ∧ Vb w' (Fr 0 w' O') (.slice A11 x0.init.length c12) x0.init ∧ Vb w' (Fr 0 w' O') (.slice A14 x0.goal.length c15) x0.goal ∧ Vb w' (Fr 0 w' O') (.slice A17 x0.ops.length c18) x0.ops ∧ Vb w' (Fr 0 w' O') (.slice A31 q24.length c32) q24 ∧ Rw 3 w' O' 3 (.slice (some ⟨g42, 0, none⟩) u35.length m37) s61)) ?_ ?_
 ·
  refine ewp_block ?_
  replace hB := (((hB.st S22).st S28).st S45).st S52
  replace h7 := h7.st S52
  replace h10 := ((h10.st S28).st S45).st S52
  replace h13 := ((h13.st S28).st S45).st S52
  replace h16 := ((h16.st S28).st S45).st S52
  replace h23 := h23.st S52
  replace h29 := (h29.st S45).st S52
  replace h46 := h46.st S52
  refine ewp_rng (σ := (List Int)) (X := Unit) (q48.length) hL60 rfl l58 (fun (s61 : (List Int)) (x62 : Unit) => [(1, (.pointer (some ⟨g19, 0, none⟩))), (4, (.slice A31 q24.length c32)), (5, (.slice (some ⟨g42, 0, none⟩) u35.length m37)), (19, (.slice A55 q48.length c56))]) _ (fun s61 x62 w' => ∃ O' : Lab, Bs w A w' O' ∧ Lc 2 w' O' g19 26 [(.slice A8 x0.vars.length c9), (.slice A11 x0.init.length c12), (.slice A14 x0.goal.length c15), (.slice A17 x0.ops.length c18)] ∧ Vb w' (Fr 0 w' O') (.slice A8 x0.vars.length c9) x0.vars ∧ Vb w' (Fr 0 w' O') (.slice A11 x0.init.length c12) x0.init ∧ Vb w' (Fr 0 w' O') (.slice A14 x0.goal.length c15) x0.goal ∧ Vb w' (Fr 0 w' O') (.slice A17 x0.ops.length c18) x0.ops ∧ Vb w' (Fr 0 w' O') (.slice A31 q24.length c32) q24 ∧ Rw 3 w' O' 3 (.slice (some ⟨g42, 0, none⟩) u35.length m37) s61 ∧ Vb w' (Fr 0 w' O') (.slice A55 q48.length c56) q48) _ () ⟨O51, hB, h23, h7, h10, h13, h16, h29, h46, h53⟩ ⟨rfl, rfl, rfl, rfl, rfl, rfl, trivial⟩ (fun _ _ => ⟨rfl, rfl⟩) (fun _ _ => ⟨rfl, rfl, rfl, trivial⟩) (fun _ _ _ ⟨O', hB, h23, h7, h10, h13, h16, h29, h76, h53⟩ => ⟨O', hB, h23, h7, h10, h13, h16, h29, h76⟩) ⟨rfl, rfl, rfl⟩ ⟨rfl, rfl⟩ ?_
  rintro k63 a64 s61 x62 w65 cc67 hx68 ⟨O66, hB, h23, h7, h10, h13, h16, h29, h76, h53⟩ hf69 hret70 hbrk71
  have rk63 : inI64 (k63 : Int) := rngK hx68 l58
  refine ewp_seq (ewp_region (o_mv rfl rfl ?_))
  obtain ⟨b78, o79, ce80, hA81, hl82, hd83, v85, rfl, h86⟩ := h53.elem' hx68
  replace h86 := Vb.of_slice h86
  obtain ⟨A87, c88, rfl⟩ := h86.form
  refine o_iaE (hA := hA81) (hj := rfl) (hlt := hl82) rfl rfl rfl ?_
  refine o_ld (hc := cat0 hd83) rfl rfl ?_
  refine o_as rfl rfl (o_as rfl rfl (o_z ?_))
  refine ewp_seq (ewp_region (o_mv rfl rfl (o_mv rfl rfl ?_)))
  obtain ⟨a89, e90, hf69⟩ := bs hf69
  obtain ⟨b91, o92, ce93, hA94, hl95, hd96, rfl, r98⟩ := h76.elem e90
  refine o_iaE (hA := hA94) (hj := rfl) (hlt := hl95) rfl rfl rfl ?_
  refine l_setE rfl h76 (a := 1125899906842624) (vInt (show inI64 (1125899906842624) from by decide)) hA94 rfl rfl (lt_of_get e90) fun w99 S100 h76 => ?_
  refine o_z ?_
  refine ewp_seq (ewp_region (o_fa rfl rfl ?_))
  replace h23 := h23.st S100
  refine o_ld (hc := Blk.cell (i := 2) (h23.1) rfl) rfl rfl ?_
  refine o_mv rfl rfl ?_
  obtain ⟨q101, e102, hf69⟩ := bs hf69
  replace h13 := h13.st S100
  replace h86 := h86.st S100
  refine l_callA (O := O66) (A := All w99) (R := fun w' F v => Vb w' F v q101) (c_base_Holds (fun _ h => h) (Vb.mono (F := Fr 0 w99 O66) h13 Fr.lt) (Vb.mono (F := Fr 0 w99 O66) h86 Fr.lt) e102) rfl rfl fun v107 w103 O104 S105 h106 => ?_
  obtain rfl := h106.bool
  cases q101
  case false =>
   replace hf69 := iF hf69
   refine o_z ?_
   refine ewp_false rfl (ewp_skip ?_)
   obtain rfl := sm hf69
   refine (?_ : Exists _)
   replace hB := (hB.st S100).st S105
   replace h7 := (h7.st S100).st S105
   replace h10 := (h10.st S100).st S105
   replace h13 := h13.st S105
   replace h16 := (h16.st S100).st S105
   replace h23 := h23.st S105
   replace h29 := (h29.st S100).st S105
   replace h53 := (h53.st S100).st S105
   replace h76 := h76.st S105
   exact ⟨_, (), rfl, ⟨rfl, rfl, rfl, rfl, rfl, rfl, trivial⟩, _, hB, h23, h7, h10, h13, h16, h29, h76, h53⟩
  replace hf69 := iT hf69
  refine o_z ?_
  refine ewp_true rfl (ewp_region (o_mv rfl rfl (o_mv rfl rfl ?_)))
  obtain ⟨a108, e109, hf69⟩ := bs hf69
  replace h76 := h76.st S105
  obtain ⟨b110, o111, ce112, hA113, hl114, hd115, rfl, r117⟩ := h76.elem e109
  refine o_iaE (hA := hA113) (hj := rfl) (hlt := hl114) rfl rfl rfl ?_
  refine l_setE rfl h76 (a := 0) (vInt (show inI64 (0) from by decide)) hA113 rfl rfl (lt_of_get e109) fun w118 S119 h76 => ?_
  refine o_z ?_
  obtain rfl := sm hf69
  refine (?_ : Exists _)
  replace hB := ((hB.st S100).st S105).st S119
  replace h7 := ((h7.st S100).st S105).st S119
  replace h10 := ((h10.st S100).st S105).st S119
  replace h13 := (h13.st S105).st S119
  replace h16 := ((h16.st S100).st S105).st S119
  replace h23 := (h23.st S105).st S119
  replace h29 := ((h29.st S100).st S105).st S119
  replace h53 := ((h53.st S100).st S105).st S119
  exact ⟨_, (), rfl, ⟨rfl, rfl, rfl, rfl, rfl, rfl, trivial⟩, _, hB, h23, h7, h10, h13, h16, h29, h76, h53⟩
 replace hB := (((hB.st S22).st S28).st S45).st S52
 replace h7 := h7.st S52
 replace h10 := ((h10.st S28).st S45).st S52
 replace h13 := ((h13.st S28).st S45).st S52
 replace h16 := ((h16.st S28).st S45).st S52
 replace h23 := h23.st S52
 replace h29 := (h29.st S45).st S52
 rintro l120 w121 ⟨s124, x125, rfl, hs123, O122, hB, h23, h7, h10, h13, h16, h29, h76⟩
 replace hm := fin_done hm
 refine ewp_sub _ hs123 ?_
 refine ewp_seq (ewp_region (o_la (hl := rfl) (hc := (h23.1).cellsAt) rfl rfl ?_))
 obtain ⟨q126, e127, hm⟩ := bs hm
 refine l_call (O := O122) (R := fun w' F v => Vb w' F v q126) (c_base_Edges Fr.lt (Vb.ofAgg (cs := [(.slice A8 x0.vars.length c9), (.slice A11 x0.init.length c12), (.slice A14 x0.goal.length c15), (.slice A17 x0.ops.length c18)]) (x := x0) rfl ⟨_, _, _, _, rfl, h7, h10, h13, h16⟩) e127) rfl rfl fun v132 w128 O129 S130 h131 => ?_
 obtain ⟨A133, c134, rfl⟩ := h131.form
 refine o_as rfl rfl (o_z ?_)
 refine ewp_seq (ewp_seq (ewp_region (o_as rfl rfl (o_z ?_))))
 obtain ⟨res135, hL136, hm⟩ := bs hm
 refine ewp_join (aft res135 (fun (s137 : (List Int) × Bool) (x138 : Unit) => [(4, (.slice A31 q24.length c32)), (5, (.slice (some ⟨g42, 0, none⟩) u35.length m37))]) (fun s137 x138 w' => ∃ O' : Lab, Bs w A w' O' ∧ Vb w' (Fr 0 w' O') (.slice A31 q24.length c32) q24 ∧ Rw 3 w' O' 3 (.slice (some ⟨g42, 0, none⟩) u35.length m37) s137.1)) ?_ ?_
 ·
  refine ewp_block ?_
  replace hB := hB.st S130
  replace h7 := h7.st S130
  replace h10 := h10.st S130
  replace h13 := h13.st S130
  replace h16 := h16.st S130
  replace h23 := h23.st S130
  replace h29 := h29.st S130
  replace h76 := h76.st S130
  refine ewp_lop (σ := (List Int) × Bool) (X := Unit) hL136 (fun (s137 : (List Int) × Bool) (x138 : Unit) => [(1, (.pointer (some ⟨g19, 0, none⟩))), (4, (.slice A31 q24.length c32)), (5, (.slice (some ⟨g42, 0, none⟩) u35.length m37)), (8, (.slice A133 q126.length c134)), (9, (.bool s137.2))]) _ (fun s137 x138 w' => ∃ O' : Lab, Bs w A w' O' ∧ Lc 2 w' O' g19 26 [(.slice A8 x0.vars.length c9), (.slice A11 x0.init.length c12), (.slice A14 x0.goal.length c15), (.slice A17 x0.ops.length c18)] ∧ Vb w' (Fr 0 w' O') (.slice A8 x0.vars.length c9) x0.vars ∧ Vb w' (Fr 0 w' O') (.slice A11 x0.init.length c12) x0.init ∧ Vb w' (Fr 0 w' O') (.slice A14 x0.goal.length c15) x0.goal ∧ Vb w' (Fr 0 w' O') (.slice A17 x0.ops.length c18) x0.ops ∧ Vb w' (Fr 0 w' O') (.slice A31 q24.length c32) q24 ∧ Rw 3 w' O' 3 (.slice (some ⟨g42, 0, none⟩) u35.length m37) s137.1 ∧ Vb w' (Fr 0 w' O') (.slice A133 q126.length c134) q126) _ () ⟨O129, hB, h23, h7, h10, h13, h16, h29, h76, h131⟩ ⟨rfl, rfl, rfl, rfl, rfl, trivial⟩ ?_
  rintro s137 x138 w141 cc143 ⟨O142, hB, h23, h7, h10, h13, h16, h29, h152, h131⟩ hf145 hret146 hbrk147
  refine ewp_seq (ewp_seq (ewp_region (o_mv rfl rfl (o_z ?_))))
  refine ewp_cond rfl (fun c154 => ?_) (fun c154 => ?_)
  ·
   replace hf145 := ip hf145 c154
   refine ewp_skip (ewp_block (ewp_seq (ewp_region (o_as rfl rfl (o_z ?_)))))
   refine ewp_seq (ewp_region (o_mv rfl rfl (o_ln rfl rfl ?_)))
   have l156 : q126.length ≤ 9223372036854775807 := Nat.le_trans h131.len.2.1 h131.len.2.2
   have r155 : inI64 (q126.length : Int) := rngNat l156
   refine o_mv rfl rfl (o_z ?_)
   obtain ⟨res157, hL158, hf145⟩ := bs hf145
   refine ewp_join (aft res157 (fun (s159 : (List Int) × Bool) (x160 : Unit) => [(1, (.pointer (some ⟨g19, 0, none⟩))), (4, (.slice A31 q24.length c32)), (5, (.slice (some ⟨g42, 0, none⟩) u35.length m37)), (8, (.slice A133 q126.length c134)), (9, (.bool s159.2))]) (fun s159 x160 w' => ∃ O' : Lab, Bs w A w' O' ∧ Lc 2 w' O' g19 26 [(.slice A8 x0.vars.length c9), (.slice A11 x0.init.length c12), (.slice A14 x0.goal.length c15), (.slice A17 x0.ops.length c18)] ∧ Vb w' (Fr 0 w' O') (.slice A8 x0.vars.length c9) x0.vars ∧ Vb w' (Fr 0 w' O') (.slice A11 x0.init.length c12) x0.init ∧ Vb w' (Fr 0 w' O') (.slice A14 x0.goal.length c15) x0.goal ∧ Vb w' (Fr 0 w' O') (.slice A17 x0.ops.length c18) x0.ops ∧ Vb w' (Fr 0 w' O') (.slice A31 q24.length c32) q24 ∧ Rw 3 w' O' 3 (.slice (some ⟨g42, 0, none⟩) u35.length m37) s159.1 ∧ Vb w' (Fr 0 w' O') (.slice A133 q126.length c134) q126)) ?_ ?_
   ·
    refine ewp_block (ewp_rng (σ := (List Int) × Bool) (X := Unit) (q126.length) hL158 rfl l156 (fun (s159 : (List Int) × Bool) (x160 : Unit) => [(1, (.pointer (some ⟨g19, 0, none⟩))), (4, (.slice A31 q24.length c32)), (5, (.slice (some ⟨g42, 0, none⟩) u35.length m37)), (8, (.slice A133 q126.length c134)), (9, (.bool s159.2)), (40, (.slice A133 q126.length c134))]) _ (fun s159 x160 w' => ∃ O' : Lab, Bs w A w' O' ∧ Lc 2 w' O' g19 26 [(.slice A8 x0.vars.length c9), (.slice A11 x0.init.length c12), (.slice A14 x0.goal.length c15), (.slice A17 x0.ops.length c18)] ∧ Vb w' (Fr 0 w' O') (.slice A8 x0.vars.length c9) x0.vars ∧ Vb w' (Fr 0 w' O') (.slice A11 x0.init.length c12) x0.init ∧ Vb w' (Fr 0 w' O') (.slice A14 x0.goal.length c15) x0.goal ∧ Vb w' (Fr 0 w' O') (.slice A17 x0.ops.length c18) x0.ops ∧ Vb w' (Fr 0 w' O') (.slice A31 q24.length c32) q24 ∧ Rw 3 w' O' 3 (.slice (some ⟨g42, 0, none⟩) u35.length m37) s159.1 ∧ Vb w' (Fr 0 w' O') (.slice A133 q126.length c134) q126) _ () ⟨O142, hB, h23, h7, h10, h13, h16, h29, h152, h131⟩ ⟨rfl, rfl, rfl, rfl, rfl, rfl, rfl, rfl, trivial⟩ (fun _ _ => ⟨rfl, rfl⟩) (fun _ _ => ⟨rfl, rfl, rfl, rfl, rfl, trivial⟩) (fun _ _ _ ⟨O', hB, h23, h7, h10, h13, h16, h29, h174, h131⟩ => ⟨O', hB, h23, h7, h10, h13, h16, h29, h174, h131⟩) ⟨rfl, rfl, rfl⟩ ⟨rfl, rfl⟩ ?_)
    rintro k161 a162 s159 x160 w163 cc165 hx166 ⟨O164, hB, h23, h7, h10, h13, h16, h29, h174, h131⟩ hf167 hret168 hbrk169
    have rk161 : inI64 (k161 : Int) := rngK hx166 l156
    refine ewp_seq (ewp_region ?_)
    obtain ⟨b176, o177, ce178, hA179, hl180, hd181, rfl, r183, r184, r185⟩ := h131.elem' hx166
    refine o_iaE (hA := hA179) (hj := rfl) (hlt := hl180) rfl rfl rfl ?_
    refine o_la (hl := rfl) (hc := hd181) rfl rfl ?_
    refine l_alloc 4 O164 rfl fun g186 w187 O188 S189 h190 => ?_
    refine l_store h190 rfl rfl rfl (Nat.le_of_ble_eq_true rfl) (by first | exact allOne rfl | simp [Value.cells, Value.oneCell', errV_one]) fun w191 S192 h190 => ?_
    replace h190 : Lc 4 w191 O188 g186 75 [(.int .i64 a162.src), (.int .i64 a162.op), (.int .i64 a162.dst)] := h190
    refine o_z ?_
    refine ewp_seq ?_
    obtain ⟨y193, hy194, hf167⟩ := bs hf167
    refine ewp_join (fun l' w' => ∃ (x196 : Unit) (O' : Lab), subs l' [(1, (.pointer (some ⟨g19, 0, none⟩))), (4, (.slice A31 q24.length c32)), (5, (.slice (some ⟨g42, 0, none⟩) u35.length m37)), (8, (.slice A133 q126.length c134)), (9, (.bool s159.2)), (11, (.pointer (some ⟨g186, 0, none⟩))), (40, (.slice A133 q126.length c134)), (41, (.int .i64 (q126.length : Int))), (42, (.int .i64 (k161 : Int))), (86, (.bool y193))] ∧ Bs w A w' O' ∧ Lc 2 w' O' g19 26 [(.slice A8 x0.vars.length c9), (.slice A11 x0.init.length c12), (.slice A14 x0.goal.length c15), (.slice A17 x0.ops.length c18)] ∧ Vb w' (Fr 0 w' O') (.slice A8 x0.vars.length c9) x0.vars ∧ Vb w' (Fr 0 w' O') (.slice A11 x0.init.length c12) x0.init ∧ Vb w' (Fr 0 w' O') (.slice A14 x0.goal.length c15) x0.goal ∧ Vb w' (Fr 0 w' O') (.slice A17 x0.ops.length c18) x0.ops ∧ Vb w' (Fr 0 w' O') (.slice A31 q24.length c32) q24 ∧ Rw 3 w' O' 3 (.slice (some ⟨g42, 0, none⟩) u35.length m37) s159.1 ∧ Vb w' (Fr 0 w' O') (.slice A133 q126.length c134) q126 ∧ Lc 4 w' O' g186 75 [(.int .i64 a162.src), (.int .i64 a162.op), (.int .i64 a162.dst)]) ?_ ?_
    ·
     refine ewp_draw (· = w191) [(0, true), (1, true), (2, true), (3, true), (4, true), (5, true), (6, true), (7, true), (8, true), (9, true), (10, true), (11, true), (12, true), (13, true), (14, true), (15, true), (16, true), (17, true), (18, true), (19, true), (20, true), (21, true), (22, true), (23, true), (24, true), (25, true), (26, true), (27, true), (28, true), (29, true), (30, true), (31, true), (32, true), (33, true), (34, true), (35, true), (36, true), (37, true), (38, true), (39, true), (40, true)] (by kernel_rfl) rfl (by kernel_rfl) rfl ?_
     refine h_mv rfl rfl rfl (h_fa rfl rfl rfl (h_ldA (hc := Blk.cell (i := 2) (h190.1) rfl) rfl rfl rfl ?_))
     obtain ⟨a197, e198, hy194⟩ := bs hy194
     obtain ⟨p200, x199⟩ := atI_some' e198
     replace h29 := (h29.st S189).st S192
     obtain ⟨b201, o202, ce203, hA204, hl205, hd206, rfl, r208⟩ := h29.elem' x199
     refine h_iaE (hA := hA204) (hj := (Int.toNat_of_nonneg p200).symm) (hlt := hl205) rfl rfl rfl rfl ?_
     refine h_ldA (hc := cat0 hd206) rfl rfl rfl ?_
     refine h_ltS rfl rfl rfl rfl (fun c209 => ?_) fun c209 => ?_
     ·
      replace hy194 := ip hy194 c209
      refine h_mv rfl rfl rfl (hwp_o rfl (hwq_yes rfl rfl (g_mv rfl rfl (hwp_o rfl (hwq_yes rfl rfl (g_fa rfl rfl (hwp_o rfl (hwq_yes rfl rfl (g_ldA (hc := Blk.cell (i := 0) (h190.1) rfl) rfl rfl ?_)))))))))
      refine hwp_o rfl (hwq_yes rfl rfl ?_)
      obtain ⟨a210, e211, hy194⟩ := bs hy194
      obtain ⟨p213, x212⟩ := atI_some' e211
      obtain ⟨b214, o215, ce216, hA217, hl218, hd219, rfl, r221⟩ := h29.elem' x212
      refine g_iaE (hA := hA217) (hj := (Int.toNat_of_nonneg p213).symm) (hlt := hl218) rfl rfl rfl ?_
      refine hwp_o rfl (hwq_yes rfl rfl (g_ldA (hc := cat0 hd219) rfl rfl ?_))
      refine hwp_o rfl (hwq_yes rfl rfl (g_mv rfl rfl (hwp_o rfl (hwq_yes rfl rfl (g_fa rfl rfl (hwp_o rfl (hwq_yes rfl rfl (g_ldA (hc := Blk.cell (i := 2) (h190.1) rfl) rfl rfl ?_))))))))
      refine hwp_o rfl (hwq_yes rfl rfl ?_)
      obtain ⟨a222, e223, hy194⟩ := bs hy194
      obtain ⟨p225, x224⟩ := atI_some' e223
      obtain ⟨b226, o227, ce228, hA229, hl230, hd231, rfl, r233⟩ := h29.elem' x224
      refine g_iaE (hA := hA229) (hj := (Int.toNat_of_nonneg p225).symm) (hlt := hl230) rfl rfl rfl ?_
      refine hwp_o rfl (hwq_yes rfl rfl (g_ldA (hc := cat0 hd231) rfl rfl ?_))
      refine hwp_o rfl (hwq_yes rfl rfl (g_fa rfl rfl (hwp_o rfl (hwq_yes rfl rfl ?_))))
      replace h23 := (h23.st S189).st S192
      refine g_ldA (hc := Blk.cell (i := 3) (h23.1) rfl) rfl rfl ?_
      refine hwp_o rfl (hwq_yes rfl rfl (g_fa rfl rfl (hwp_o rfl (hwq_yes rfl rfl (g_ldA (hc := Blk.cell (i := 1) (h190.1) rfl) rfl rfl ?_)))))
      refine hwp_o rfl (hwq_yes rfl rfl ?_)
      obtain ⟨a234, e235, hy194⟩ := bs hy194
      obtain ⟨p237, x236⟩ := atI_some' e235
      replace h16 := (h16.st S189).st S192
      obtain ⟨b238, o239, ce240, hA241, hl242, hd243, v245, v246, rfl, h247, h250, r253, z254⟩ := h16.elem' x236
      obtain ⟨A248, c249, rfl⟩ := h247.form
      obtain ⟨A251, c252, rfl⟩ := h250.form
      refine g_iaE (hA := hA241) (hj := (Int.toNat_of_nonneg p237).symm) (hlt := hl242) rfl rfl rfl ?_
      refine hwp_o rfl (hwq_yes rfl rfl (g_fa rfl rfl (hwp_o rfl (hwq_yes rfl rfl (g_ldA (hc := cat1 hd243) rfl rfl ?_)))))
      refine hwp_o rfl (hwq_yes rfl rfl ?_)
      obtain ⟨n255, e256, hy194⟩ := bs hy194
      have r257 := (chkI_rng e256)
      refine g_adE (he := e256) rfl rfl rfl ?_
      refine hwp_o rfl (hwq_yes rfl rfl (hwq_split (fun _ _ => ev_eql rfl rfl) rfl (fun c258 => ?_) (fun c258 => ?_)))
      ·
       replace hy194 := ip hy194 c258
       refine h_pt rfl rfl rfl rfl (h_mv rfl rfl rfl (hwp_o rfl (hwq_yes rfl rfl (g_mv rfl rfl (hwp_o rfl (hwq_yes rfl rfl (g_fa rfl rfl (hwp_o rfl (hwq_yes rfl rfl (g_ldA (hc := Blk.cell (i := 2) (h190.1) rfl) rfl rfl ?_))))))))))
       refine hwp_o rfl (hwq_yes rfl rfl ?_)
       obtain ⟨a259, e260, hy194⟩ := bs hy194
       obtain ⟨p262, x261⟩ := atI_some' e260
       replace h174 := (h174.st S189).st S192
       obtain ⟨b263, o264, ce265, hA266, hl267, hd268, rfl, r270⟩ := h174.elem x261
       refine g_iaE (hA := hA266) (hj := (Int.toNat_of_nonneg p262).symm) (hlt := hl267) rfl rfl rfl ?_
       refine hwp_o rfl (hwq_yes rfl rfl (g_ldA (hc := cat0 hd268) rfl rfl ?_))
       refine hwp_o rfl (hwq_yes rfl rfl ?_)
       obtain ⟨n271, e272, hy194⟩ := bs hy194
       have r273 := (chkI_rng e272)
       refine g_adE (he := e272) rfl rfl rfl ?_
       refine hwp_o rfl (hwq_yes rfl rfl (g_mv rfl rfl (hwp_o rfl (hwq_yes rfl rfl (g_fa rfl rfl (hwp_o rfl (hwq_yes rfl rfl (g_ldA (hc := Blk.cell (i := 0) (h190.1) rfl) rfl rfl ?_))))))))
       refine hwp_o rfl (hwq_yes rfl rfl ?_)
       obtain ⟨a274, e275, hy194⟩ := bs hy194
       obtain ⟨p277, x276⟩ := atI_some' e275
       obtain ⟨b278, o279, ce280, hA281, hl282, hd283, rfl, r285⟩ := h174.elem x276
       refine g_iaE (hA := hA281) (hj := (Int.toNat_of_nonneg p277).symm) (hlt := hl282) rfl rfl rfl ?_
       refine hwp_o rfl (hwq_yes rfl rfl (g_ldA (hc := cat0 hd283) rfl rfl ?_))
       refine hwp_o rfl (hwq_yes rfl rfl (hwq_split (fun _ _ => ev_lss rfl rfl) rfl (fun c286 => ?_) (fun c286 => ?_)))
       ·
        replace hy194 := ip hy194 c286
        refine h_pt rfl rfl rfl rfl (h_z ?_)
        obtain rfl := sm hy194
        replace hB := (hB.st S189).st S192
        replace h7 := (h7.st S189).st S192
        replace h10 := (h10.st S189).st S192
        replace h13 := (h13.st S189).st S192
        replace h131 := (h131.st S189).st S192
        exact ⟨(), _, ⟨rfl, rfl, rfl, rfl, rfl, rfl, rfl, rfl, rfl, rfl, trivial⟩, hB, h23, h7, h10, h13, h16, h29, h174, h131, h190⟩
       ·
        replace hy194 := im hy194 c286
        refine h_pt rfl rfl rfl rfl (h_z ?_)
        obtain rfl := sm hy194
        replace hB := (hB.st S189).st S192
        replace h7 := (h7.st S189).st S192
        replace h10 := (h10.st S189).st S192
        replace h13 := (h13.st S189).st S192
        replace h131 := (h131.st S189).st S192
        exact ⟨(), _, ⟨rfl, rfl, rfl, rfl, rfl, rfl, rfl, rfl, rfl, rfl, trivial⟩, hB, h23, h7, h10, h13, h16, h29, h174, h131, h190⟩
      ·
       replace hy194 := im hy194 c258
       refine h_pt rfl rfl rfl rfl (h_mv rfl rfl rfl (h_no rfl rfl rfl rfl rfl (h_no rfl rfl rfl rfl rfl (h_no rfl rfl rfl rfl rfl (h_no rfl rfl rfl rfl rfl (h_no rfl rfl rfl rfl rfl (h_no rfl rfl rfl rfl rfl (h_no rfl rfl rfl rfl rfl (h_no rfl rfl rfl rfl rfl (h_no rfl rfl rfl rfl rfl (h_no rfl rfl rfl rfl rfl (h_no rfl rfl rfl rfl rfl (h_no rfl rfl rfl rfl rfl (h_pf rfl rfl rfl rfl ?_))))))))))))))
       refine h_z ?_
       obtain rfl := sm hy194
       replace hB := (hB.st S189).st S192
       replace h7 := (h7.st S189).st S192
       replace h10 := (h10.st S189).st S192
       replace h13 := (h13.st S189).st S192
       replace h131 := (h131.st S189).st S192
       replace h174 := (h174.st S189).st S192
       exact ⟨(), _, ⟨rfl, rfl, rfl, rfl, rfl, rfl, rfl, rfl, rfl, rfl, trivial⟩, hB, h23, h7, h10, h13, h16, h29, h174, h131, h190⟩
     ·
      replace hy194 := im hy194 c209
      refine h_mv rfl rfl rfl (h_no rfl rfl rfl rfl rfl (h_no rfl rfl rfl rfl rfl (h_no rfl rfl rfl rfl rfl (h_no rfl rfl rfl rfl rfl (h_no rfl rfl rfl rfl rfl (h_no rfl rfl rfl rfl rfl (h_no rfl rfl rfl rfl rfl (h_no rfl rfl rfl rfl rfl (h_no rfl rfl rfl rfl rfl (h_no rfl rfl rfl rfl rfl (h_no rfl rfl rfl rfl rfl (h_no rfl rfl rfl rfl rfl (h_no rfl rfl rfl rfl rfl (h_no rfl rfl rfl rfl rfl ?_))))))))))))))
      refine h_no rfl rfl rfl rfl rfl (h_no rfl rfl rfl rfl rfl (h_no rfl rfl rfl rfl rfl (h_no rfl rfl rfl rfl rfl (h_no rfl rfl rfl rfl rfl (h_pf rfl rfl rfl rfl (h_mv rfl rfl rfl (h_no rfl rfl rfl rfl rfl (h_no rfl rfl rfl rfl rfl (h_no rfl rfl rfl rfl rfl (h_no rfl rfl rfl rfl rfl (h_no rfl rfl rfl rfl rfl (h_no rfl rfl rfl rfl rfl (h_no rfl rfl rfl rfl rfl (h_no rfl rfl rfl rfl rfl ?_))))))))))))))
      refine h_no rfl rfl rfl rfl rfl (h_no rfl rfl rfl rfl rfl (h_no rfl rfl rfl rfl rfl (h_no rfl rfl rfl rfl rfl (h_pf rfl rfl rfl rfl (h_z ?_)))))
      obtain rfl := sm hy194
      replace hB := (hB.st S189).st S192
      replace h7 := (h7.st S189).st S192
      replace h10 := (h10.st S189).st S192
      replace h13 := (h13.st S189).st S192
      replace h16 := (h16.st S189).st S192
      replace h23 := (h23.st S189).st S192
      replace h131 := (h131.st S189).st S192
      replace h174 := (h174.st S189).st S192
      exact ⟨(), _, ⟨rfl, rfl, rfl, rfl, rfl, rfl, rfl, rfl, rfl, rfl, trivial⟩, hB, h23, h7, h10, h13, h16, h29, h174, h131, h190⟩
    replace hB := (hB.st S189).st S192
    replace h7 := (h7.st S189).st S192
    replace h10 := (h10.st S189).st S192
    replace h13 := (h13.st S189).st S192
    replace h16 := (h16.st S189).st S192
    replace h23 := (h23.st S189).st S192
    replace h29 := (h29.st S189).st S192
    replace h131 := (h131.st S189).st S192
    replace h174 := (h174.st S189).st S192
    rintro l287 w288 ⟨x196, O289, hs290, hB, h23, h7, h10, h13, h16, h29, h174, h131, h190⟩
    refine ewp_sub _ hs290 ?_
    refine ewp_cond rfl (fun c291 => ?_) (fun c291 => ?_)
    ·
     replace hf167 := ip hf167 c291
     refine ewp_drawX [(10, [3])] O289 ?_
     refine x_pre (fuel := 2) [] [(0, true), (1, true), (2, true), (3, true), (4, true), (5, true), (6, true), (7, true), (8, true), (9, true)] (by kernel_rfl) rfl ?_
     refine h_mv rfl rfl rfl (h_fa rfl rfl rfl (h_ldC (hc := fun w' ⟨O', hq⟩ => Blk.cell (i := 0) ((h190.st hq (by decide)).1) rfl) rfl rfl rfl ?_))
     refine h_mv rfl rfl rfl (h_fa rfl rfl rfl (h_ldC (hc := fun w' ⟨O', hq⟩ => Blk.cell (i := 2) ((h190.st hq (by decide)).1) rfl) rfl rfl rfl ?_))
     obtain ⟨a292, e293, hf167⟩ := bs hf167
     obtain ⟨p295, x294⟩ := atI_some' e293
     obtain ⟨b296, o297, ce298, hA299, hF302, hl300, hd301, rfl, r303⟩ := h174.elemF x294
     refine h_iaE (hA := hA299) (hj := (Int.toNat_of_nonneg p295).symm) (hlt := hl300) rfl rfl rfl rfl ?_
     refine h_ldC (hc := fun w' ⟨O', hq⟩ => cat0 (cellsAt_agree (hq.agree (i := 3) (by decide)) hF302 hd301)) rfl rfl rfl ?_
     obtain ⟨n304, e305, hf167⟩ := bs hf167
     have r306 := (chkI_rng e305)
     refine h_adE (he := e305) rfl rfl rfl rfl ?_
     obtain ⟨a307, e308, hf167⟩ := bs hf167
     obtain ⟨p310, x309⟩ := atI_some' e308
     obtain ⟨b311, o312, ce313, hA314, hF317, hl315, hd316, rfl, r318⟩ := h174.elemF x309
     refine h_iaE (hA := hA314) (hj := (Int.toNat_of_nonneg p310).symm) (hlt := hl315) rfl rfl rfl rfl ?_
     refine hwp_nilT ?_
     refine x_one (i := 10) (by kernel_rfl) rfl ?_
     refine l_setE rfl h174 (a := n304) (vInt r306) hA314 rfl rfl (lt_of_get x309) fun w319 S320 h174 => ?_
     have hZ := S320.lst [3] (fun _ h => by cases h; decide)
     refine x_go [] hZ (by kernel_rfl) ?_
     refine x_pre (fuel := 0) [] [(11, true)] (by kernel_rfl) rfl ?_
     refine h_as rfl rfl rfl (hwp_nilT ?_)
     refine x_nil (by kernel_rfl) ?_
     obtain rfl := sm hf167
     refine (?_ : Exists _)
     replace hB := hB.st S320
     replace h7 := h7.st S320
     replace h10 := h10.st S320
     replace h13 := h13.st S320
     replace h16 := h16.st S320
     replace h23 := h23.st S320
     replace h29 := h29.st S320
     replace h131 := h131.st S320
     exact ⟨_, (), rfl, ⟨rfl, rfl, rfl, rfl, rfl, rfl, rfl, rfl, trivial⟩, _, hB, h23, h7, h10, h13, h16, h29, h174, h131⟩
    ·
     replace hf167 := im' hf167 c291
     refine ewp_skip ?_
     obtain rfl := sm hf167
     refine (?_ : Exists _)
     exact ⟨_, (), rfl, ⟨rfl, rfl, rfl, rfl, rfl, rfl, rfl, rfl, trivial⟩, _, hB, h23, h7, h10, h13, h16, h29, h174, h131⟩
   rintro l321 w322 ⟨s325, x326, rfl, hs324, O323, hB, h23, h7, h10, h13, h16, h29, h174, h131⟩
   replace hf145 := fin_done hf145
   obtain rfl := sm hf145
   refine (?_ : Exists _)
   exact ⟨_, (), rfl, ⟨(subs_lk hs324 _ _ rfl), (subs_lk hs324 _ _ rfl), (subs_lk hs324 _ _ rfl), (subs_lk hs324 _ _ rfl), (subs_lk hs324 _ _ rfl), trivial⟩, _, hB, h23, h7, h10, h13, h16, h29, h174, h131⟩
  ·
   replace hf145 := im' hf145 c154
   refine ewp_exit ?_
   obtain rfl := sm hf145
   refine (?_ : Exists _)
   exact ⟨_, (), hbrk147 _ rfl, ⟨rfl, rfl, trivial⟩, _, hB, h29, h152⟩
 replace hB := hB.st S130
 replace h29 := h29.st S130
 rintro l327 w328 ⟨s331, x332, rfl, hs330, O329, hB, h29, h152⟩
 replace hm := fin_done hm
 refine ewp_sub _ hs330 ?_
 refine ewp_seq (ewp_region (o_mv rfl rfl (o_mv rfl rfl (o_as rfl rfl (o_as rfl rfl (o_z ?_))))))
 refine ewp_ret ?_
 obtain ⟨O333, S334, h152⟩ := h152.freeze
 obtain rfl := sm hm
 replace hB := hB.st S334
 replace h29 := h29.st S334
 exact ret2 rfl (res_tmp rfl) (res_tmp rfl) ⟨hB.ext, _, _, rfl, (Vb.mono (F := Fr 0 w328 O333) h29 hB.out), (Vb.mono (F := Fr 0 w328 O333) h152 hB.out)⟩
noncomputable def m_law53_StubbornSafe (x0 : Tsk) : Option Bool :=
  bnd (bnd (m_law53_awake) fun q28 => if q28 = true then bnd (m_base_Small x0) fun q35 => if q35 = true then some false else some true else some true : Option Bool) fun y24 => if y24 = true then (bnd (bnd (m_law53_awake) fun q51 => if q51 = true then some true else some false : Option Bool) fun y47 => some y47) else (bnd (m_law53_least x0) fun q62 => bnd (m_base_States x0.vars) fun q77 => bnd (rng (ρ := Bool) (fun (k92 : Nat) (a93 : List Int) (s90 : Unit) => bnd (bnd (q62.1[k92]?) fun a118 => if 1125899906842624 ≤ a118 then (some true) else (bnd (m_base_Holds x0.goal a93) fun q129 => if q129 = true then some true else some false) : Option Bool) fun y114 => if y114 = true then (some (.next ())) else (bnd (m_stubborn_Set x0 a93) fun q141 => if q141.2.n ≠ 0 then (some (.ret false)) else (bnd (rng (ρ := Ctl Unit Bool) (fun (k162 : Nat) (a163 : Int) (s160 : Bool) => bnd (m_base_Apply x0 a93 a163) fun q181 => if (!q181.2) = true then (some (.ret (.ret false))) else (bnd (m_base_Rank x0.vars q181.1) fun q195 => if s160 = true then (some (.next true)) else (bnd (q62.1[k92]?) fun a204 => bnd (atI q62.1 q195) fun a214 => bnd (atI x0.ops a163) fun a226 => bnd (chkI (a214 + a226.cost)) fun n247 => if a204 = n247 then (bnd (q62.2[k92]?) fun a251 => bnd (atI q62.2 q195) fun a261 => bnd (chkI (a261 + 1)) fun n273 => if a251 = n273 then (some (.next true)) else (some (.next false))) else (some (.next false))))) q141.1 0 false) fun res158 => fin res158 fun (s281 : Bool) => if (!s281) = true then (some (.ret false)) else (some (.next ()))))) q77 0 ()) fun res88 => fin res88 fun (s288 : Unit) => some true)
theorem c_law53_StubbornSafe {w : World} {A : Nat → Prop} (hA : ∀ k, A k → k < w.heap.size) {vx0 : Value} {x0 : Tsk} (hx0 : Vb w A vx0 x0) {r : Bool} (hm : m_law53_StubbornSafe x0 = some r) :
    Fn Try.prog 4 [vx0] w fun v w' => Ext w w' ∧ Vb w' (upA A w w') v r := by
 obtain ⟨O, hB, hA0⟩ := enter hA
 replace hx0 := hx0.mono hA0
 obtain ⟨cs2, rfl, v3, v4, v5, v6, rfl, h7, h10, h13, h16⟩ := hx0
 obtain ⟨A8, c9, rfl⟩ := h7.form
 obtain ⟨A11, c12, rfl⟩ := h10.form
 obtain ⟨A14, c15, rfl⟩ := h13.form
 obtain ⟨A17, c18, rfl⟩ := h16.form
 refine fn_enter Try.func4 rfl Try.ntmps4 rfl ?_
 unfold m_law53_StubbornSafe at hm
 refine ewp_seq (ewp_region (l_box 2 O rfl rfl fun g19 w20 O21 S22 h23 => ?_))
 replace h23 : Lc 2 w20 O21 g19 26 [(.slice A8 x0.vars.length c9), (.slice A11 x0.init.length c12), (.slice A14 x0.goal.length c15), (.slice A17 x0.ops.length c18)] := h23
 refine o_as rfl rfl (o_z ?_)
 refine ewp_seq (ewp_seq ?_)
 obtain ⟨y24, hy25, hm⟩ := bs hm
 refine ewp_join (fun l' w' => ∃ (x27 : Unit) (O' : Lab), subs l' [(1, (.pointer (some ⟨g19, 0, none⟩))), (21, (.bool y24))] ∧ Bs w A w' O' ∧ Lc 2 w' O' g19 26 [(.slice A8 x0.vars.length c9), (.slice A11 x0.init.length c12), (.slice A14 x0.goal.length c15), (.slice A17 x0.ops.length c18)] ∧ Vb w' (Fr 0 w' O') (.slice A8 x0.vars.length c9) x0.vars ∧ Vb w' (Fr 0 w' O') (.slice A11 x0.init.length c12) x0.init ∧ Vb w' (Fr 0 w' O') (.slice A14 x0.goal.length c15) x0.goal ∧ Vb w' (Fr 0 w' O') (.slice A17 x0.ops.length c18) x0.ops) ?_ ?_
 ·
  refine ewp_region ?_
  obtain ⟨q28, e29, hy25⟩ := bs hy25
  refine l_callA (O := O21) (A := All w20) (R := fun w' F v => Vb w' F v q28) (c_law53_awake (fun _ h => h)  e29) rfl rfl fun v34 w30 O31 S32 h33 => ?_
  obtain rfl := h33.bool
  cases q28
  case false =>
   replace hy25 := iF hy25
   refine o_nf rfl rfl (o_mv rfl rfl (owp_no rfl rfl rfl rfl (owp_no rfl rfl rfl rfl (owp_no rfl rfl rfl rfl (o_pt rfl rfl rfl (o_z ?_))))))
   obtain rfl := sm hy25
   replace hB := (hB.st S22).st S32
   replace h7 := (h7.st S22).st S32
   replace h10 := (h10.st S22).st S32
   replace h13 := (h13.st S22).st S32
   replace h16 := (h16.st S22).st S32
   replace h23 := h23.st S32
   exact ⟨(), _, ⟨rfl, rfl, trivial⟩, hB, h23, h7, h10, h13, h16⟩
  replace hy25 := iT hy25
  refine o_nt rfl rfl (o_mv rfl rfl (owp_yes rfl rfl ?_))
  replace h23 := h23.st S32
  refine o_la (hl := rfl) (hc := (h23.1).cellsAt) rfl rfl ?_
  refine owp_yes rfl rfl ?_
  obtain ⟨q35, e36, hy25⟩ := bs hy25
  replace h7 := (h7.st S22).st S32
  replace h10 := (h10.st S22).st S32
  replace h13 := (h13.st S22).st S32
  replace h16 := (h16.st S22).st S32
  refine l_callA (O := O31) (A := All w30) (R := fun w' F v => Vb w' F v q35) (c_base_Small (fun _ h => h) (Vb.mono (F := Fr 0 w30 O31) (Vb.ofAgg (cs := [(.slice A8 x0.vars.length c9), (.slice A11 x0.init.length c12), (.slice A14 x0.goal.length c15), (.slice A17 x0.ops.length c18)]) (x := x0) rfl ⟨_, _, _, _, rfl, h7, h10, h13, h16⟩) Fr.lt) e36) rfl rfl fun v41 w37 O38 S39 h40 => ?_
  obtain rfl := h40.bool
  cases q35
  case false =>
   replace hy25 := iF hy25
   refine owp_yes rfl rfl (o_nf rfl rfl (o_pf rfl rfl rfl (o_z ?_)))
   obtain rfl := sm hy25
   replace hB := ((hB.st S22).st S32).st S39
   replace h7 := h7.st S39
   replace h10 := h10.st S39
   replace h13 := h13.st S39
   replace h16 := h16.st S39
   replace h23 := h23.st S39
   exact ⟨(), _, ⟨rfl, rfl, trivial⟩, hB, h23, h7, h10, h13, h16⟩
  replace hy25 := iT hy25
  refine owp_yes rfl rfl (o_nt rfl rfl (o_pf rfl rfl rfl (o_z ?_)))
  obtain rfl := sm hy25
  replace hB := ((hB.st S22).st S32).st S39
  replace h7 := h7.st S39
  replace h10 := h10.st S39
  replace h13 := h13.st S39
  replace h16 := h16.st S39
  replace h23 := h23.st S39
  exact ⟨(), _, ⟨rfl, rfl, trivial⟩, hB, h23, h7, h10, h13, h16⟩
 replace hB := hB.st S22
 replace h7 := h7.st S22
 replace h10 := h10.st S22
 replace h13 := h13.st S22
 replace h16 := h16.st S22
 rintro l42 w43 ⟨x27, O44, hs45, hB, h23, h7, h10, h13, h16⟩
 refine ewp_sub _ hs45 ?_
 refine ewp_cond rfl (fun c46 => ?_) (fun c46 => ?_)
 ·
  replace hm := ip hm c46
  refine ewp_seq ?_
  obtain ⟨y47, hy48, hm⟩ := bs hm
  refine ewp_join (fun l' w' => ∃ (x50 : Unit) (O' : Lab), subs l' [(2, (.bool y47))] ∧ Bs w A w' O') ?_ ?_
  ·
   refine ewp_region ?_
   obtain ⟨q51, e52, hy48⟩ := bs hy48
   refine l_callA (O := O44) (A := All w43) (R := fun w' F v => Vb w' F v q51) (c_law53_awake (fun _ h => h)  e52) rfl rfl fun v57 w53 O54 S55 h56 => ?_
   obtain rfl := h56.bool
   cases q51
   case false =>
    replace hy48 := iF hy48
    refine o_as rfl rfl (o_z ?_)
    obtain rfl := sm hy48
    replace hB := hB.st S55
    exact ⟨(), _, ⟨rfl, trivial⟩, hB⟩
   replace hy48 := iT hy48
   refine o_as rfl rfl (o_z ?_)
   obtain rfl := sm hy48
   replace hB := hB.st S55
   exact ⟨(), _, ⟨rfl, trivial⟩, hB⟩
  rintro l58 w59 ⟨x50, O60, hs61, hB⟩
  refine ewp_sub _ hs61 ?_
  refine ewp_ret ?_
  obtain rfl := sm hm
  exact ret1v rfl (res_tmp rfl) ⟨hB.ext, vBool⟩
 ·
  replace hm := im' hm c46
  refine ewp_skip (ewp_seq (ewp_region (o_la (hl := rfl) (hc := (h23.1).cellsAt) rfl rfl ?_)))
  obtain ⟨q62, e63, hm⟩ := bs hm
  refine l_call (O := O44) (R := fun w' F v => T2 w' F v q62) (c_law53_least Fr.lt (Vb.ofAgg (cs := [(.slice A8 x0.vars.length c9), (.slice A11 x0.init.length c12), (.slice A14 x0.goal.length c15), (.slice A17 x0.ops.length c18)]) (x := x0) rfl ⟨_, _, _, _, rfl, h7, h10, h13, h16⟩) e63) rfl rfl fun v68 w64 O65 S66 h67 => ?_
  obtain ⟨v69, v70, rfl, h71, h72⟩ := h67
  obtain ⟨A73, c74, rfl⟩ := h71.form
  obtain ⟨A75, c76, rfl⟩ := h72.form
  refine o_mv rfl rfl (o_ex rfl rfl rfl (o_ex rfl rfl rfl (o_as rfl rfl (o_as rfl rfl (o_z ?_)))))
  refine ewp_seq (ewp_seq (ewp_region (o_fa rfl rfl ?_)))
  replace h23 := h23.st S66
  refine o_ld (hc := Blk.cell (i := 0) (h23.1) rfl) rfl rfl ?_
  obtain ⟨q77, e78, hm⟩ := bs hm
  replace h7 := h7.st S66
  refine l_call (O := O65) (R := fun w' F v => Vb w' F v q77) (c_base_States Fr.lt h7 e78) rfl rfl fun v83 w79 O80 S81 h82 => ?_
  obtain ⟨A84, c85, rfl⟩ := h82.form
  refine o_ln rfl rfl ?_
  have l87 : q77.length ≤ 9223372036854775807 := Nat.le_trans h82.len.2.1 h82.len.2.2
  have r86 : inI64 (q77.length : Int) := rngNat l87
  refine o_mv rfl rfl (o_z ?_)
  obtain ⟨res88, hL89, hm⟩ := bs hm
  refine ewp_join (aft res88 (fun (s90 : Unit) (x91 : Unit) => []) (fun s90 x91 w' => ∃ O' : Lab, Bs w A w' O')) ?_ ?_
  ·
   refine ewp_block ?_
   replace hB := (hB.st S66).st S81
   replace h7 := h7.st S81
   replace h10 := (h10.st S66).st S81
   replace h13 := (h13.st S66).st S81
   replace h16 := (h16.st S66).st S81
   replace h23 := h23.st S81
   replace h71 := h71.st S81
   replace h72 := h72.st S81
   refine ewp_rng (σ := Unit) (X := Unit) (q77.length) hL89 rfl l87 (fun (s90 : Unit) (x91 : Unit) => [(1, (.pointer (some ⟨g19, 0, none⟩))), (3, (.slice A73 q62.1.length c74)), (4, (.slice A75 q62.2.length c76)), (30, (.slice A84 q77.length c85))]) _ (fun s90 x91 w' => ∃ O' : Lab, Bs w A w' O' ∧ Lc 2 w' O' g19 26 [(.slice A8 x0.vars.length c9), (.slice A11 x0.init.length c12), (.slice A14 x0.goal.length c15), (.slice A17 x0.ops.length c18)] ∧ Vb w' (Fr 0 w' O') (.slice A8 x0.vars.length c9) x0.vars ∧ Vb w' (Fr 0 w' O') (.slice A11 x0.init.length c12) x0.init ∧ Vb w' (Fr 0 w' O') (.slice A14 x0.goal.length c15) x0.goal ∧ Vb w' (Fr 0 w' O') (.slice A17 x0.ops.length c18) x0.ops ∧ Vb w' (Fr 0 w' O') (.slice A73 q62.1.length c74) q62.1 ∧ Vb w' (Fr 0 w' O') (.slice A75 q62.2.length c76) q62.2 ∧ Vb w' (Fr 0 w' O') (.slice A84 q77.length c85) q77) _ () ⟨O80, hB, h23, h7, h10, h13, h16, h71, h72, h82⟩ ⟨rfl, rfl, rfl, rfl, rfl, rfl, trivial⟩ (fun _ _ => ⟨rfl, rfl⟩) (fun _ _ => trivial) (fun _ _ _ ⟨O', hB, h23, h7, h10, h13, h16, h71, h72, h82⟩ => ⟨O', hB⟩) ⟨rfl, rfl, rfl⟩ ⟨rfl, rfl⟩ ?_
   rintro k92 a93 s90 x91 w94 cc96 hx97 ⟨O95, hB, h23, h7, h10, h13, h16, h71, h72, h82⟩ hf98 hret99 hbrk100
   have rk92 : inI64 (k92 : Int) := rngK hx97 l87
   refine ewp_seq (ewp_region (o_mv rfl rfl ?_))
   obtain ⟨b103, o104, ce105, hA106, hl107, hd108, v110, rfl, h111⟩ := h82.elem' hx97
   replace h111 := Vb.of_slice h111
   obtain ⟨A112, c113, rfl⟩ := h111.form
   refine o_iaE (hA := hA106) (hj := rfl) (hlt := hl107) rfl rfl rfl ?_
   refine o_ld (hc := cat0 hd108) rfl rfl ?_
   refine o_as rfl rfl (o_as rfl rfl (o_z ?_))
   refine ewp_seq (ewp_seq ?_)
   obtain ⟨y114, hy115, hf98⟩ := bs hf98
   refine ewp_join (fun l' w' => ∃ (x117 : Unit) (O' : Lab), subs l' [(1, (.pointer (some ⟨g19, 0, none⟩))), (3, (.slice A73 q62.1.length c74)), (4, (.slice A75 q62.2.length c76)), (5, (.int .i64 (k92 : Int))), (6, (.slice A112 a93.length c113)), (30, (.slice A84 q77.length c85)), (31, (.int .i64 (q77.length : Int))), (32, (.int .i64 (k92 : Int))), (47, (.bool y114))] ∧ Bs w A w' O' ∧ Lc 2 w' O' g19 26 [(.slice A8 x0.vars.length c9), (.slice A11 x0.init.length c12), (.slice A14 x0.goal.length c15), (.slice A17 x0.ops.length c18)] ∧ Vb w' (Fr 0 w' O') (.slice A8 x0.vars.length c9) x0.vars ∧ Vb w' (Fr 0 w' O') (.slice A11 x0.init.length c12) x0.init ∧ Vb w' (Fr 0 w' O') (.slice A14 x0.goal.length c15) x0.goal ∧ Vb w' (Fr 0 w' O') (.slice A17 x0.ops.length c18) x0.ops ∧ Vb w' (Fr 0 w' O') (.slice A73 q62.1.length c74) q62.1 ∧ Vb w' (Fr 0 w' O') (.slice A75 q62.2.length c76) q62.2 ∧ Vb w' (Fr 0 w' O') (.slice A112 a93.length c113) a93 ∧ Vb w' (Fr 0 w' O') (.slice A84 q77.length c85) q77) ?_ ?_
   ·
    refine ewp_region (o_mv rfl rfl (o_mv rfl rfl ?_))
    obtain ⟨a118, e119, hy115⟩ := bs hy115
    obtain ⟨b120, o121, ce122, hA123, hl124, hd125, rfl, r127⟩ := h71.elem' e119
    refine o_iaE (hA := hA123) (hj := rfl) (hlt := hl124) rfl rfl rfl ?_
    refine o_ld (hc := cat0 hd125) rfl rfl ?_
    refine o_geS rfl rfl rfl (fun c128 => ?_) fun c128 => ?_
    ·
     replace hy115 := ip hy115 c128
     refine o_mv rfl rfl (owp_no rfl rfl rfl rfl (owp_no rfl rfl rfl rfl (owp_no rfl rfl rfl rfl (owp_no rfl rfl rfl rfl (o_pt rfl rfl rfl (o_z ?_))))))
     obtain rfl := sm hy115
     exact ⟨(), _, ⟨rfl, rfl, rfl, rfl, rfl, rfl, rfl, rfl, rfl, trivial⟩, hB, h23, h7, h10, h13, h16, h71, h72, h111, h82⟩
    ·
     replace hy115 := im hy115 c128
     refine o_mv rfl rfl (owp_yes rfl rfl (o_fa rfl rfl (owp_yes rfl rfl (o_ld (hc := Blk.cell (i := 2) (h23.1) rfl) rfl rfl ?_))))
     refine owp_yes rfl rfl (o_mv rfl rfl (owp_yes rfl rfl ?_))
     obtain ⟨q129, e130, hy115⟩ := bs hy115
     refine l_callA (O := O95) (A := All w94) (R := fun w' F v => Vb w' F v q129) (c_base_Holds (fun _ h => h) (Vb.mono (F := Fr 0 w94 O95) h13 Fr.lt) (Vb.mono (F := Fr 0 w94 O95) h111 Fr.lt) e130) rfl rfl fun v135 w131 O132 S133 h134 => ?_
     obtain rfl := h134.bool
     cases q129
     case false =>
      replace hy115 := iF hy115
      refine o_pf rfl rfl rfl (o_z ?_)
      obtain rfl := sm hy115
      replace hB := hB.st S133
      replace h7 := h7.st S133
      replace h10 := h10.st S133
      replace h13 := h13.st S133
      replace h16 := h16.st S133
      replace h23 := h23.st S133
      replace h71 := h71.st S133
      replace h72 := h72.st S133
      replace h82 := h82.st S133
      replace h111 := h111.st S133
      exact ⟨(), _, ⟨rfl, rfl, rfl, rfl, rfl, rfl, rfl, rfl, rfl, trivial⟩, hB, h23, h7, h10, h13, h16, h71, h72, h111, h82⟩
     replace hy115 := iT hy115
     refine o_pf rfl rfl rfl (o_z ?_)
     obtain rfl := sm hy115
     replace hB := hB.st S133
     replace h7 := h7.st S133
     replace h10 := h10.st S133
     replace h13 := h13.st S133
     replace h16 := h16.st S133
     replace h23 := h23.st S133
     replace h71 := h71.st S133
     replace h72 := h72.st S133
     replace h82 := h82.st S133
     replace h111 := h111.st S133
     exact ⟨(), _, ⟨rfl, rfl, rfl, rfl, rfl, rfl, rfl, rfl, rfl, trivial⟩, hB, h23, h7, h10, h13, h16, h71, h72, h111, h82⟩
   rintro l136 w137 ⟨x117, O138, hs139, hB, h23, h7, h10, h13, h16, h71, h72, h111, h82⟩
   refine ewp_sub _ hs139 ?_
   refine ewp_cond rfl (fun c140 => ?_) (fun c140 => ?_)
   ·
    replace hf98 := ip hf98 c140
    refine ewp_exit ?_
    obtain rfl := sm hf98
    refine (?_ : Exists _)
    exact ⟨_, (), rfl, ⟨rfl, rfl, rfl, rfl, rfl, rfl, trivial⟩, _, hB, h23, h7, h10, h13, h16, h71, h72, h82⟩
   ·
    replace hf98 := im' hf98 c140
    refine ewp_skip (ewp_seq (ewp_region (o_la (hl := rfl) (hc := (h23.1).cellsAt) rfl rfl ?_)))
    refine o_mv rfl rfl ?_
    obtain ⟨q141, e142, hf98⟩ := bs hf98
    refine l_call (O := O138) (R := fun w' F v => T2 w' F v q141) (c_stubborn_Set Fr.lt (Vb.ofAgg (cs := [(.slice A8 x0.vars.length c9), (.slice A11 x0.init.length c12), (.slice A14 x0.goal.length c15), (.slice A17 x0.ops.length c18)]) (x := x0) rfl ⟨_, _, _, _, rfl, h7, h10, h13, h16⟩) h111 e142) rfl rfl fun v147 w143 O144 S145 h146 => ?_
    obtain ⟨v148, v149, rfl, h150, h151⟩ := h146
    obtain ⟨A152, c153, rfl⟩ := h150.form
    obtain ⟨rfl, r154⟩ := h151.err
    refine o_mv rfl rfl (o_ex rfl rfl rfl (o_ex rfl rfl rfl (o_as rfl rfl (o_as rfl rfl (o_z ?_)))))
    refine ewp_seq (ewp_seq (ewp_region (o_mv rfl rfl (o_rnS rfl rfl (fun c155 => ?_) fun c155 => ?_))))
    ·
     replace hf98 := ip hf98 c155
     refine o_z ?_
     refine ewp_true rfl (ewp_seq (ewp_region (o_as rfl rfl (o_z ?_))))
     refine ewp_ret ?_
     obtain rfl := sm hf98
     obtain rfl := hret99 _ rfl
     obtain rfl := sm (fin_ret hm)
     replace hB := hB.st S145
     exact ret1v rfl (res_tmp rfl) ⟨hB.ext, vBool⟩
    ·
     replace hf98 := im hf98 c155
     refine o_z ?_
     refine ewp_false rfl (ewp_skip (ewp_seq (ewp_region (o_as rfl rfl (o_z ?_)))))
     refine ewp_seq (ewp_seq (ewp_region (o_mv rfl rfl (o_ln rfl rfl ?_))))
     have l157 : q141.1.length ≤ 9223372036854775807 := Nat.le_trans h150.len.2.1 h150.len.2.2
     have r156 : inI64 (q141.1.length : Int) := rngNat l157
     refine o_mv rfl rfl (o_z ?_)
     obtain ⟨res158, hL159, hf98⟩ := bs hf98
     refine ewp_join (aft res158 (fun (s160 : Bool) (x161 : Unit) => [(1, (.pointer (some ⟨g19, 0, none⟩))), (3, (.slice A73 q62.1.length c74)), (4, (.slice A75 q62.2.length c76)), (9, (.bool s160)), (30, (.slice A84 q77.length c85)), (31, (.int .i64 (q77.length : Int))), (32, (.int .i64 (k92 : Int)))]) (fun s160 x161 w' => ∃ O' : Lab, Bs w A w' O' ∧ Lc 2 w' O' g19 26 [(.slice A8 x0.vars.length c9), (.slice A11 x0.init.length c12), (.slice A14 x0.goal.length c15), (.slice A17 x0.ops.length c18)] ∧ Vb w' (Fr 0 w' O') (.slice A8 x0.vars.length c9) x0.vars ∧ Vb w' (Fr 0 w' O') (.slice A11 x0.init.length c12) x0.init ∧ Vb w' (Fr 0 w' O') (.slice A14 x0.goal.length c15) x0.goal ∧ Vb w' (Fr 0 w' O') (.slice A17 x0.ops.length c18) x0.ops ∧ Vb w' (Fr 0 w' O') (.slice A73 q62.1.length c74) q62.1 ∧ Vb w' (Fr 0 w' O') (.slice A75 q62.2.length c76) q62.2 ∧ Vb w' (Fr 0 w' O') (.slice A84 q77.length c85) q77)) ?_ ?_
     ·
      refine ewp_block ?_
      replace hB := hB.st S145
      replace h7 := h7.st S145
      replace h10 := h10.st S145
      replace h13 := h13.st S145
      replace h16 := h16.st S145
      replace h23 := h23.st S145
      replace h71 := h71.st S145
      replace h72 := h72.st S145
      replace h82 := h82.st S145
      replace h111 := h111.st S145
      refine ewp_rng (σ := Bool) (X := Unit) (q141.1.length) hL159 rfl l157 (fun (s160 : Bool) (x161 : Unit) => [(1, (.pointer (some ⟨g19, 0, none⟩))), (3, (.slice A73 q62.1.length c74)), (4, (.slice A75 q62.2.length c76)), (5, (.int .i64 (k92 : Int))), (6, (.slice A112 a93.length c113)), (9, (.bool s160)), (30, (.slice A84 q77.length c85)), (31, (.int .i64 (q77.length : Int))), (32, (.int .i64 (k92 : Int))), (56, (.slice A152 q141.1.length c153))]) _ (fun s160 x161 w' => ∃ O' : Lab, Bs w A w' O' ∧ Lc 2 w' O' g19 26 [(.slice A8 x0.vars.length c9), (.slice A11 x0.init.length c12), (.slice A14 x0.goal.length c15), (.slice A17 x0.ops.length c18)] ∧ Vb w' (Fr 0 w' O') (.slice A8 x0.vars.length c9) x0.vars ∧ Vb w' (Fr 0 w' O') (.slice A11 x0.init.length c12) x0.init ∧ Vb w' (Fr 0 w' O') (.slice A14 x0.goal.length c15) x0.goal ∧ Vb w' (Fr 0 w' O') (.slice A17 x0.ops.length c18) x0.ops ∧ Vb w' (Fr 0 w' O') (.slice A73 q62.1.length c74) q62.1 ∧ Vb w' (Fr 0 w' O') (.slice A75 q62.2.length c76) q62.2 ∧ Vb w' (Fr 0 w' O') (.slice A112 a93.length c113) a93 ∧ Vb w' (Fr 0 w' O') (.slice A84 q77.length c85) q77 ∧ Vb w' (Fr 0 w' O') (.slice A152 q141.1.length c153) q141.1) _ () ⟨O144, hB, h23, h7, h10, h13, h16, h71, h72, h111, h82, h150⟩ ⟨rfl, rfl, rfl, rfl, rfl, rfl, rfl, rfl, rfl, rfl, rfl, rfl, trivial⟩ (fun _ _ => ⟨rfl, rfl⟩) (fun _ _ => ⟨rfl, rfl, rfl, rfl, rfl, rfl, rfl, trivial⟩) (fun _ _ _ ⟨O', hB, h23, h7, h10, h13, h16, h71, h72, h111, h82, h150⟩ => ⟨O', hB, h23, h7, h10, h13, h16, h71, h72, h82⟩) ⟨rfl, rfl, rfl⟩ ⟨rfl, rfl⟩ ?_
      rintro k162 a163 s160 x161 w164 cc166 hx167 ⟨O165, hB, h23, h7, h10, h13, h16, h71, h72, h111, h82, h150⟩ hf168 hret169 hbrk170
      have rk162 : inI64 (k162 : Int) := rngK hx167 l157
      refine ewp_seq (ewp_region ?_)
      obtain ⟨b173, o174, ce175, hA176, hl177, hd178, rfl, r180⟩ := h150.elem' hx167
      refine o_iaE (hA := hA176) (hj := rfl) (hlt := hl177) rfl rfl rfl ?_
      refine o_ld (hc := cat0 hd178) rfl rfl ?_
      refine o_as rfl rfl (o_z ?_)
      refine ewp_seq (ewp_region (o_la (hl := rfl) (hc := (h23.1).cellsAt) rfl rfl ?_))
      refine o_mv rfl rfl (o_mv rfl rfl ?_)
      obtain ⟨q181, e182, hf168⟩ := bs hf168
      refine l_call (O := O165) (R := fun w' F v => T2 w' F v q181) (c_base_Apply Fr.lt (Vb.ofAgg (cs := [(.slice A8 x0.vars.length c9), (.slice A11 x0.init.length c12), (.slice A14 x0.goal.length c15), (.slice A17 x0.ops.length c18)]) (x := x0) rfl ⟨_, _, _, _, rfl, h7, h10, h13, h16⟩) h111 r180 e182) rfl rfl fun v187 w183 O184 S185 h186 => ?_
      obtain ⟨v188, v189, rfl, h190, h191⟩ := h186
      obtain ⟨A192, c193, rfl⟩ := h190.form
      obtain rfl := h191.bool
      refine o_mv rfl rfl (o_ex rfl rfl rfl (o_ex rfl rfl rfl (o_as rfl rfl (o_as rfl rfl (o_z ?_)))))
      refine ewp_seq (ewp_seq (ewp_region (o_mv rfl rfl (o_nn rfl rfl (o_z ?_)))))
      refine ewp_cond rfl (fun c194 => ?_) (fun c194 => ?_)
      ·
       replace hf168 := ip hf168 c194
       refine ewp_seq (ewp_region (o_as rfl rfl (o_z ?_)))
       refine ewp_ret ?_
       obtain rfl := sm hf168
       obtain rfl := hret169 _ rfl
       obtain rfl := sm (fin_ret hf98)
       obtain rfl := hret99 _ rfl
       obtain rfl := sm (fin_ret hm)
       replace hB := hB.st S185
       exact ret1v rfl (res_tmp rfl) ⟨hB.ext, vBool⟩
      ·
       replace hf168 := im' hf168 c194
       refine ewp_skip (ewp_seq (ewp_region (o_fa rfl rfl ?_)))
       replace h23 := h23.st S185
       refine o_ld (hc := Blk.cell (i := 0) (h23.1) rfl) rfl rfl ?_
       refine o_mv rfl rfl ?_
       obtain ⟨q195, e196, hf168⟩ := bs hf168
       replace h7 := h7.st S185
       refine l_callA (O := O184) (A := All w183) (R := fun w' F v => Vb w' F v q195) (c_base_Rank (fun _ h => h) (Vb.mono (F := Fr 0 w183 O184) h7 Fr.lt) (Vb.mono (F := Fr 0 w183 O184) h190 Fr.lt) e196) rfl rfl fun v201 w197 O198 S199 h200 => ?_
       obtain ⟨rfl, r202⟩ := h200.int
       refine o_as rfl rfl (o_z ?_)
       refine ewp_draw (· = w197) [(0, true), (1, true), (2, true), (3, true), (4, true), (5, true), (6, true), (7, true), (8, true), (9, true), (10, true), (11, true), (12, true), (13, true), (14, true), (15, true), (16, true), (17, true), (18, true), (19, true), (20, true), (21, true), (22, true), (23, true), (24, true), (25, true), (26, true), (27, true), (28, true), (29, true), (30, true), (31, true)] (by kernel_rfl) rfl (by kernel_rfl) rfl ?_
       refine h_mv rfl rfl rfl (h_mv rfl rfl rfl ?_)
       rcases Bool.eq_false_or_eq_true s160 with c203 | c203
       ·
        try rw [c203]
        replace hf168 := ip hf168 c203
        refine h_no rfl rfl rfl rfl rfl (h_no rfl rfl rfl rfl rfl (h_no rfl rfl rfl rfl rfl (h_no rfl rfl rfl rfl rfl (h_no rfl rfl rfl rfl rfl (h_no rfl rfl rfl rfl rfl (h_no rfl rfl rfl rfl rfl (h_no rfl rfl rfl rfl rfl (h_no rfl rfl rfl rfl rfl (h_no rfl rfl rfl rfl rfl (h_no rfl rfl rfl rfl rfl (h_no rfl rfl rfl rfl rfl (h_no rfl rfl rfl rfl rfl (h_no rfl rfl rfl rfl rfl (h_no rfl rfl rfl rfl rfl ?_))))))))))))))
        refine h_no rfl rfl rfl rfl rfl (h_no rfl rfl rfl rfl rfl (h_no rfl rfl rfl rfl rfl (h_no rfl rfl rfl rfl rfl (h_no rfl rfl rfl rfl rfl (h_no rfl rfl rfl rfl rfl (h_no rfl rfl rfl rfl rfl (h_no rfl rfl rfl rfl rfl (h_no rfl rfl rfl rfl rfl (h_no rfl rfl rfl rfl rfl (h_no rfl rfl rfl rfl rfl (h_no rfl rfl rfl rfl rfl (h_no rfl rfl rfl rfl rfl (h_pt rfl rfl rfl rfl (h_as rfl rfl rfl ?_))))))))))))))
        refine h_z ?_
        obtain rfl := sm hf168
        refine (?_ : Exists _)
        replace hB := (hB.st S185).st S199
        replace h7 := h7.st S199
        replace h10 := (h10.st S185).st S199
        replace h13 := (h13.st S185).st S199
        replace h16 := (h16.st S185).st S199
        replace h23 := h23.st S199
        replace h71 := (h71.st S185).st S199
        replace h72 := (h72.st S185).st S199
        replace h82 := (h82.st S185).st S199
        replace h111 := (h111.st S185).st S199
        replace h150 := (h150.st S185).st S199
        exact ⟨_, (), rfl, ⟨rfl, rfl, rfl, rfl, rfl, rfl, rfl, rfl, rfl, rfl, rfl, rfl, trivial⟩, _, hB, h23, h7, h10, h13, h16, h71, h72, h111, h82, h150⟩
       ·
        try rw [c203]
        replace hf168 := im' hf168 c203
        refine hwp_o rfl (hwq_yes rfl rfl (g_mv rfl rfl (hwp_o rfl (hwq_yes rfl rfl (g_mv rfl rfl (hwp_o rfl (hwq_yes rfl rfl ?_)))))))
        obtain ⟨a204, e205, hf168⟩ := bs hf168
        replace h71 := (h71.st S185).st S199
        obtain ⟨b206, o207, ce208, hA209, hl210, hd211, rfl, r213⟩ := h71.elem' e205
        refine g_iaE (hA := hA209) (hj := rfl) (hlt := hl210) rfl rfl rfl ?_
        refine hwp_o rfl (hwq_yes rfl rfl (g_ldA (hc := cat0 hd211) rfl rfl ?_))
        refine hwp_o rfl (hwq_yes rfl rfl (g_mv rfl rfl (hwp_o rfl (hwq_yes rfl rfl (g_mv rfl rfl (hwp_o rfl (hwq_yes rfl rfl ?_)))))))
        obtain ⟨a214, e215, hf168⟩ := bs hf168
        obtain ⟨p217, x216⟩ := atI_some' e215
        obtain ⟨b218, o219, ce220, hA221, hl222, hd223, rfl, r225⟩ := h71.elem' x216
        refine g_iaE (hA := hA221) (hj := (Int.toNat_of_nonneg p217).symm) (hlt := hl222) rfl rfl rfl ?_
        refine hwp_o rfl (hwq_yes rfl rfl (g_ldA (hc := cat0 hd223) rfl rfl ?_))
        refine hwp_o rfl (hwq_yes rfl rfl (g_fa rfl rfl (hwp_o rfl (hwq_yes rfl rfl ?_))))
        replace h23 := h23.st S199
        refine g_ldA (hc := Blk.cell (i := 3) (h23.1) rfl) rfl rfl ?_
        refine hwp_o rfl (hwq_yes rfl rfl (g_mv rfl rfl (hwp_o rfl (hwq_yes rfl rfl ?_))))
        obtain ⟨a226, e227, hf168⟩ := bs hf168
        obtain ⟨p229, x228⟩ := atI_some' e227
        replace h16 := (h16.st S185).st S199
        obtain ⟨b230, o231, ce232, hA233, hl234, hd235, v237, v238, rfl, h239, h242, r245, z246⟩ := h16.elem' x228
        obtain ⟨A240, c241, rfl⟩ := h239.form
        obtain ⟨A243, c244, rfl⟩ := h242.form
        refine g_iaE (hA := hA233) (hj := (Int.toNat_of_nonneg p229).symm) (hlt := hl234) rfl rfl rfl ?_
        refine hwp_o rfl (hwq_yes rfl rfl (g_fa rfl rfl (hwp_o rfl (hwq_yes rfl rfl (g_ldA (hc := cat1 hd235) rfl rfl ?_)))))
        refine hwp_o rfl (hwq_yes rfl rfl ?_)
        obtain ⟨n247, e248, hf168⟩ := bs hf168
        have r249 := (chkI_rng e248)
        refine g_adE (he := e248) rfl rfl rfl ?_
        refine hwp_o rfl (hwq_yes rfl rfl (hwq_split (fun _ _ => ev_eql rfl rfl) rfl (fun c250 => ?_) (fun c250 => ?_)))
        ·
         replace hf168 := ip hf168 c250
         refine hwp_o rfl (hwq_yes rfl rfl (g_mv rfl rfl (hwp_o rfl (hwq_yes rfl rfl (g_mv rfl rfl (hwp_o rfl (hwq_yes rfl rfl (g_mv rfl rfl (hwp_o rfl (hwq_yes rfl rfl ?_))))))))))
         obtain ⟨a251, e252, hf168⟩ := bs hf168
         replace h72 := (h72.st S185).st S199
         obtain ⟨b253, o254, ce255, hA256, hl257, hd258, rfl, r260⟩ := h72.elem' e252
         refine g_iaE (hA := hA256) (hj := rfl) (hlt := hl257) rfl rfl rfl ?_
         refine hwp_o rfl (hwq_yes rfl rfl (g_ldA (hc := cat0 hd258) rfl rfl ?_))
         refine hwp_o rfl (hwq_yes rfl rfl (g_mv rfl rfl (hwp_o rfl (hwq_yes rfl rfl (g_mv rfl rfl (hwp_o rfl (hwq_yes rfl rfl ?_)))))))
         obtain ⟨a261, e262, hf168⟩ := bs hf168
         obtain ⟨p264, x263⟩ := atI_some' e262
         obtain ⟨b265, o266, ce267, hA268, hl269, hd270, rfl, r272⟩ := h72.elem' x263
         refine g_iaE (hA := hA268) (hj := (Int.toNat_of_nonneg p264).symm) (hlt := hl269) rfl rfl rfl ?_
         refine hwp_o rfl (hwq_yes rfl rfl (g_ldA (hc := cat0 hd270) rfl rfl ?_))
         refine hwp_o rfl (hwq_yes rfl rfl ?_)
         obtain ⟨n273, e274, hf168⟩ := bs hf168
         have r275 := (chkI_rng e274)
         refine g_adE (he := e274) rfl rfl rfl ?_
         refine hwp_o rfl (hwq_yes rfl rfl (hwq_split (fun _ _ => ev_eql rfl rfl) rfl (fun c276 => ?_) (fun c276 => ?_)))
         ·
          replace hf168 := ip hf168 c276
          refine hwp_o rfl (hwq_yes rfl rfl (g_pt rfl rfl rfl (h_pf rfl rfl rfl rfl (h_as rfl rfl rfl (h_z ?_)))))
          obtain rfl := sm hf168
          refine (?_ : Exists _)
          replace hB := (hB.st S185).st S199
          replace h7 := h7.st S199
          replace h10 := (h10.st S185).st S199
          replace h13 := (h13.st S185).st S199
          replace h82 := (h82.st S185).st S199
          replace h111 := (h111.st S185).st S199
          replace h150 := (h150.st S185).st S199
          exact ⟨_, (), rfl, ⟨rfl, rfl, rfl, rfl, rfl, rfl, rfl, rfl, rfl, rfl, rfl, rfl, trivial⟩, _, hB, h23, h7, h10, h13, h16, h71, h72, h111, h82, h150⟩
         ·
          replace hf168 := im hf168 c276
          refine hwp_o rfl (hwq_yes rfl rfl (g_pt rfl rfl rfl (h_pf rfl rfl rfl rfl (h_as rfl rfl rfl (h_z ?_)))))
          obtain rfl := sm hf168
          refine (?_ : Exists _)
          replace hB := (hB.st S185).st S199
          replace h7 := h7.st S199
          replace h10 := (h10.st S185).st S199
          replace h13 := (h13.st S185).st S199
          replace h82 := (h82.st S185).st S199
          replace h111 := (h111.st S185).st S199
          replace h150 := (h150.st S185).st S199
          exact ⟨_, (), rfl, ⟨rfl, rfl, rfl, rfl, rfl, rfl, rfl, rfl, rfl, rfl, rfl, rfl, trivial⟩, _, hB, h23, h7, h10, h13, h16, h71, h72, h111, h82, h150⟩
        ·
         replace hf168 := im hf168 c250
         refine hwp_o rfl (hwq_yes rfl rfl (g_mv rfl rfl (h_no rfl rfl rfl rfl rfl (h_no rfl rfl rfl rfl rfl (h_no rfl rfl rfl rfl rfl (h_no rfl rfl rfl rfl rfl (h_no rfl rfl rfl rfl rfl (h_no rfl rfl rfl rfl rfl (h_no rfl rfl rfl rfl rfl (h_no rfl rfl rfl rfl rfl (h_no rfl rfl rfl rfl rfl (h_no rfl rfl rfl rfl rfl (hwp_o rfl (hwq_yes rfl rfl ?_))))))))))))))
         refine g_pf rfl rfl rfl (h_pf rfl rfl rfl rfl (h_as rfl rfl rfl (h_z ?_)))
         obtain rfl := sm hf168
         refine (?_ : Exists _)
         replace hB := (hB.st S185).st S199
         replace h7 := h7.st S199
         replace h10 := (h10.st S185).st S199
         replace h13 := (h13.st S185).st S199
         replace h72 := (h72.st S185).st S199
         replace h82 := (h82.st S185).st S199
         replace h111 := (h111.st S185).st S199
         replace h150 := (h150.st S185).st S199
         exact ⟨_, (), rfl, ⟨rfl, rfl, rfl, rfl, rfl, rfl, rfl, rfl, rfl, rfl, rfl, rfl, trivial⟩, _, hB, h23, h7, h10, h13, h16, h71, h72, h111, h82, h150⟩
     replace hB := hB.st S145
     replace h7 := h7.st S145
     replace h10 := h10.st S145
     replace h13 := h13.st S145
     replace h16 := h16.st S145
     replace h23 := h23.st S145
     replace h71 := h71.st S145
     replace h72 := h72.st S145
     replace h82 := h82.st S145
     rintro l277 w278 ⟨s281, x282, rfl, hs280, O279, hB, h23, h7, h10, h13, h16, h71, h72, h82⟩
     replace hf98 := fin_done hf98
     refine ewp_sub _ hs280 ?_
     refine ewp_seq (ewp_region (o_mv rfl rfl (o_nn rfl rfl (o_z ?_))))
     refine ewp_cond rfl (fun c283 => ?_) (fun c283 => ?_)
     ·
      replace hf98 := ip hf98 c283
      refine ewp_seq (ewp_region (o_as rfl rfl (o_z ?_)))
      refine ewp_ret ?_
      obtain rfl := sm hf98
      obtain rfl := hret99 _ rfl
      obtain rfl := sm (fin_ret hm)
      exact ret1v rfl (res_tmp rfl) ⟨hB.ext, vBool⟩
     ·
      replace hf98 := im' hf98 c283
      refine ewp_skip ?_
      obtain rfl := sm hf98
      refine (?_ : Exists _)
      exact ⟨_, (), rfl, ⟨rfl, rfl, rfl, rfl, rfl, rfl, trivial⟩, _, hB, h23, h7, h10, h13, h16, h71, h72, h82⟩
  replace hB := (hB.st S66).st S81
  rintro l284 w285 ⟨s288, x289, rfl, hs287, O286, hB⟩
  replace hm := fin_done hm
  refine ewp_sub _ hs287 ?_
  refine ewp_seq (ewp_region (o_as rfl rfl (o_z ?_)))
  refine ewp_ret ?_
  obtain rfl := sm hm
  exact ret1v rfl (res_tmp rfl) ⟨hB.ext, vBool⟩
end
section
open Go Go.RowKit
/-- A plan with a cost and a number of steps. -/
def Walk2 (t : Tsk) (s : List Int) (C : Int) (n : Nat) : Prop := ∃ ks s', Run t s ks s' ∧ holdsB t.goal s' = true ∧ costL t ks = C ∧ ks.length = n
theorem walk_of2 {t : Tsk} {s : List Int} {C : Int} {n : Nat} (h : Walk2 t s C n) : Walk t s C := by
  obtain ⟨ks, s', hr, hg, hc, _⟩ := h
  subst hc
  have key : ∀ {s ks s'}, Run t s ks s' → holdsB t.goal s' = true → Walk t s (costL t ks) := by
    intro s ks s' hr hg
    induction hr with
    | nil => exact .goal hg
    | cons ho hp _ ih =>
      have := Walk.step ho hp (ih hg)
      simp only [costL, ho, Option.map_some, Option.getD_some]
      rwa [Int.add_comm]
  exact key hr hg
theorem Walk2.cons {t : Tsk} {s : List Int} {k : Nat} {o : Opr} {C : Int} {n : Nat} (ho : t.ops[k]? = some o) (hp : holdsB o.pre s = true) (h : Walk2 t (succ o s) C n) : Walk2 t s (C + o.cost) (n + 1) := by
  obtain ⟨ks, s', h1, h2, h3, h4⟩ := h
  refine ⟨k :: ks, s', .cons ho hp h1, h2, ?_, by simp [h4]⟩
  simp only [costL, ho, Option.map_some, Option.getD_some, h3]
  omega
/-- What is true of the numbers of steps at all times. -/
def StepI (t : Tsk) (d st : List Int) : Prop := st.length = (statesL t.vars).length ∧ ∀ (i : Nat) s, (statesL t.vars)[i]? = some s → ∃ c n, d[i]? = some c ∧ st[i]? = some n ∧ 0 ≤ n ∧ n ≤ Inf ∧ (n < Inf → Walk2 t s c n.toNat) ∧ (holdsB t.goal s = true → n = 0)
/-- No edge of a cheapest plan can shorten it. -/
def EdgC (t : Tsk) (d : List Int) (es : List Edg) (st : List Int) : Prop := ∀ e ∈ es, ∀ (i k j : Nat) o x y n m, e = ⟨i, k, j⟩ → t.ops[k]? = some o → d[i]? = some x → d[j]? = some y → y < Inf → x = y + o.cost → st[i]? = some n → st[j]? = some m → n ≤ m + 1
/-- They are the fewest steps of plans of least cost. -/
def StepP (t : Tsk) (d st : List Int) : Prop := StepI t d st ∧ ∀ (i : Nat) s c n, (statesL t.vars)[i]? = some s → d[i]? = some c → c < Inf → st[i]? = some n → ∀ m : Nat, Walk2 t s c m → n ≤ (m : Int)
theorem least_tail {t : Tsk} (hok : TaskOk t) {d : List Int} (hd : DistP t d) {i j k : Nat} {s : List Int} {o : Opr} {c y C : Int} (hi : (statesL t.vars)[i]? = some s) (hj : (statesL t.vars)[j]? = some (succ o s)) (ho : t.ops[k]? = some o) (hp : holdsB o.pre s = true) (hc : d[i]? = some c) (hy : d[j]? = some y) (hlt : c < Inf) (hw : Walk t (succ o s) C) (he : c = C + o.cost) : y = C ∧ y < Inf := by
  have hco := (hok.2.2.2.2.2 k o ho).1
  have h1 := hd.2 j _ y C hj hy hw
  obtain ⟨y', y1, y2, y3, y4, _⟩ := hd.1.2 j _ hj
  rw [hy] at y1
  obtain rfl := Option.some.inj y1
  have hyl : y < Inf := by omega
  have h2 := hd.2 i s c _ hi hc (Walk.step ho hp (y4 hyl))
  omega
theorem steps_eq {t : Tsk} (h : SmallOk t) : ∃ r, m_law53_least t = some r ∧ DistP t r.1 ∧ StepP t r.1 r.2 := by
  have hlen : (statesL t.vars).length ≤ 512 := h.many
  have hok := h.ok
  obtain ⟨d, hd, hdP⟩ := dist_eq h
  obtain ⟨es, he, hes⟩ := edges_eq h
  unfold m_law53_least
  refine bnd_ex hd ?_
  have hdl : d.length = (statesL t.vars).length := hdP.1.1
  refine bnd_ex (mkI_eq (by omega) (by omega)) (bnd_ex (states_small h) ?_)
  refine rng_ex (fun n st => st.length = (statesL t.vars).length ∧ ∀ (i : Nat) s, i < n → (statesL t.vars)[i]? = some s → st[i]? = some (if holdsB t.goal s = true then 0 else Inf)) (fun _ => False) ⟨by simp [hdl], fun i s hi => by omega⟩ (fun n s st hn hI => .inl ?_) ?_ (fun q hq => hq.elim)
  · obtain ⟨i1, i2⟩ := hI
    have hlt := lt_of_get hn
    obtain ⟨u, hu⟩ := some_of_lt (l := st) (k := n) (by omega)
    rw [hu, bnd_some, holds_eq, bnd_some]
    by_cases hg : holdsB t.goal s = true
    · rw [if_pos hg, List.getElem?_set_self (by omega), bnd_some]
      refine ⟨_, rfl, by simpa using i1, fun i s' hi hs' => ?_⟩
      by_cases e : i = n
      · subst e
        obtain rfl : s' = s := by rw [hn] at hs'; exact (Option.some.inj hs').symm
        rw [List.getElem?_set_self (by simp; omega), if_pos hg]
      · rw [List.getElem?_set_ne (by omega), List.getElem?_set_ne (by omega)]
        exact i2 i s' (by omega) hs'
    · rw [if_neg hg]
      refine ⟨_, rfl, by simpa using i1, fun i s' hi hs' => ?_⟩
      by_cases e : i = n
      · subst e
        obtain rfl : s' = s := by rw [hn] at hs'; exact (Option.some.inj hs').symm
        rw [List.getElem?_set_self (by omega), if_neg hg]; rfl
      · rw [List.getElem?_set_ne (by omega)]
        exact i2 i s' (by omega) hs'
  rintro st0 ⟨h2, h3⟩
  rw [fin_d]
  refine bnd_ex he ?_
  have hst0 : StepI t d st0 := ⟨h2, fun i s hi => by
    obtain ⟨c, c1, c2, c3, c4, c5⟩ := hdP.1.2 i s hi
    refine ⟨c, _, c1, h3 i s (lt_of_get hi) hi, ?_⟩
    by_cases hg : holdsB t.goal s = true
    · rw [if_pos hg]
      have hc0 := c5 hg
      subst hc0
      exact ⟨by omega, by unfold Inf; omega, fun _ => ⟨[], s, .nil, hg, rfl, rfl⟩, fun _ => rfl⟩
    · rw [if_neg hg]; exact ⟨by unfold Inf; omega, by omega, fun hh => absurd hh (by omega), fun hh => absurd hh hg⟩⟩
  refine lop_ex (fun r => StepI t d r.1 ∧ (r.2 = false → EdgC t d es r.1)) (fun r => StepI t d r.1 ∧ EdgC t d es r.1) (fun _ => False) (fun r => 2 * sumN r.1 + (if r.2 = true then 1 else 0)) ⟨hst0, fun hh => by cases hh⟩ ?_ ?_ (fun q hq => hq.elim)
  · rintro ⟨st, ch⟩ ⟨hS, hC⟩
    cases ch with
    | false => exact .inr (.inl ⟨(st, false), by simp, hS, hC rfl⟩)
    | true =>
      refine .inl ?_
      dsimp only at hS ⊢
      rw [if_t]
      obtain ⟨⟨st', b⟩, g1, g2, g3, g4⟩ := rng_all (ρ := Ctl ((List Int) × Bool) ((List Int) × (List Int))) (xs := es) (s₀ := (st, false)) (f := fun (k161 : Nat) (a162 : Edg) (s159 : (List Int) × Bool) => bnd (bnd (atI d a162.dst) fun a197 => if a197 < 1125899906842624 then (bnd (atI d a162.src) fun a210 => bnd (atI d a162.dst) fun a222 => bnd (atI t.ops a162.op) fun a234 => bnd (chkI (a222 + a234.cost)) fun n255 => if a210 = n255 then (bnd (atI s159.1 a162.dst) fun a259 => bnd (chkI (a259 + 1)) fun n271 => bnd (atI s159.1 a162.src) fun a274 => if n271 < a274 then (some true) else (some false)) else (some false)) else (some false) : Option Bool) fun y193 => if y193 = true then (bnd (atI s159.1 a162.dst) fun a292 => bnd (chkI (a292 + 1)) fun n304 => bnd (atI s159.1 a162.src) fun _ => some (.next ((s159.1.set (a162.src : Int).toNat n304), true))) else (some (.next (s159.1, s159.2)))) (fun m r => StepI t d r.1 ∧ (r.2 = true → sumN r.1 < sumN st) ∧ (r.2 = false → r.1 = st ∧ EdgC t d (es.take m) st)) ⟨hS, fun hh => (by cases hh), fun _ => ⟨rfl, fun e he => by simp at he⟩⟩ (by
          rintro m e ⟨r1, r2⟩ hm ⟨i1, i2, i3⟩
          simp only at i1 i2 i3
          obtain ⟨i, k, j, s, o, rfl, a1, a2, a3, a4⟩ := (hes e).1 (List.mem_of_getElem? hm)
          obtain ⟨x, n, x1, n1, n2, n3, n4, n5⟩ := i1.2 i s a1
          obtain ⟨y, q, y1, q1, q2, q3, q4, q5⟩ := i1.2 j _ a4
          obtain ⟨x', x1', b2, b3, b4, b5⟩ := hdP.1.2 i s a1
          obtain ⟨y', y1', e2, e3, e4, e5⟩ := hdP.1.2 j _ a4
          rw [x1] at x1'
          rw [y1] at y1'
          obtain rfl := Option.some.inj x1'
          obtain rfl := Option.some.inj y1'
          have hco := hok.2.2.2.2.2 k o a2
          have hc1 := hco.1
          have hc2 := hco.2.1
          simp only
          rw [atI_eq, y1, bnd_some]
          have keep : (y < Inf → x = y + o.cost → n ≤ q + 1) → ∃ s', (some (Ctl.next (r1, r2)) : Option (Ctl ((List Int) × Bool) (Ctl ((List Int) × Bool) ((List Int) × (List Int))))) = some (.next s') ∧ StepI t d s'.1 ∧ (s'.2 = true → sumN s'.1 < sumN st) ∧ (s'.2 = false → s'.1 = st ∧ EdgC t d (es.take (m + 1)) st) := fun hx => by
            refine ⟨(r1, r2), rfl, i1, i2, fun hf => ⟨(i3 hf).1, fun e' he' => ?_⟩⟩
            obtain ⟨g1, g2⟩ := i3 hf
            rcases (take_mem hm).1 he' with hh | rfl
            · exact g2 e' hh
            · intro i' k' j' o' x' y' n' m' hE ho' hx' hy' hlt hxy hn' hm'
              injection hE with h1 h2 h3
              obtain rfl : i = i' := by omega
              obtain rfl : k = k' := by omega
              obtain rfl : j = j' := by omega
              obtain rfl : o = o' := by rw [a2] at ho'; exact Option.some.inj ho'
              rw [x1] at hx'
              rw [y1] at hy'
              rw [← g1, n1] at hn'
              rw [← g1, q1] at hm'
              obtain rfl := Option.some.inj hx'
              obtain rfl := Option.some.inj hy'
              obtain rfl := Option.some.inj hn'
              obtain rfl := Option.some.inj hm'
              exact hx hlt hxy
          by_cases hy : y < 1125899906842624
          case neg =>
            rw [if_neg hy, bnd_some, if_f]
            exact keep fun hh => absurd hh hy
          rw [if_pos hy, atI_eq, x1, bnd_some, bnd_some, atI_eq, a2, bnd_some, chkI_eq (by unfold inI64; unfold Inf at *; omega), bnd_some]
          by_cases hxy : x = y + o.cost
          case neg =>
            rw [if_neg hxy, bnd_some, if_f]
            exact keep fun _ hh => absurd hh hxy
          rw [if_pos hxy, atI_eq, q1, bnd_some, chkI_eq (by unfold inI64; unfold Inf at *; omega), bnd_some, atI_eq, n1, bnd_some]
          by_cases hn : q + 1 < n
          case neg =>
            rw [if_neg hn, bnd_some, if_f]
            exact keep fun _ _ => by omega
          rw [if_pos hn, bnd_some, if_t, bnd_some, chkI_eq (by unfold inI64; unfold Inf at *; omega), bnd_some, bnd_some]
          refine ⟨_, rfl, ⟨by simpa using i1.1, fun i' s' hs' => ?_⟩, fun _ => ?_, fun hh => by simp at hh⟩
          · show ∃ c n, d[i']? = some c ∧ (r1.set ((i : Int)).toNat (q + 1))[i']? = some n ∧ _
            rw [show ((i : Int)).toNat = i from by omega]
            by_cases e : i = i'
            · subst e
              obtain rfl : s = s' := by rw [a1] at hs'; exact Option.some.inj hs'
              refine ⟨x, _, x1, by rw [List.getElem?_set_self (lt_of_get n1)], by omega, by omega, fun _ => ?_, fun hg => ?_⟩
              · have hq : q < Inf := by omega
                have hw := (q4 hq).cons a2 a3
                rw [hxy, show (q + 1).toNat = q.toNat + 1 from by omega]; exact hw
              · have := n5 hg; omega
            · rw [List.getElem?_set_ne e]; exact i1.2 i' s' hs'
          · show sumN (r1.set ((i : Int)).toNat (q + 1)) < _
            rw [show ((i : Int)).toNat = i from by omega]
            have hlt := sumN_set r1 i n (q + 1) n1 (by omega) hn
            cases hr : r2 with
            | true => have := i2 hr; omega
            | false => rw [(i3 hr).1] at hlt; rwa [(i3 hr).1])
      rw [g1, bnd_some, fin_d]
      refine ⟨_, rfl, ⟨g2, fun hf => ?_⟩, ?_⟩
      · obtain ⟨f1, f2⟩ := g4 hf
        rw [List.take_length] at f2
        dsimp only at f1 ⊢
        rw [f1]; exact f2
      · dsimp only
        cases hb : b with
        | true => have := g3 hb; dsimp only at this; simp; omega
        | false => have := (g4 hb).1; dsimp only at this; rw [this]; simp
  · rintro ⟨st, ch⟩ ⟨hS, hE⟩
    rw [fin_d]
    refine ⟨_, rfl, hdP, hS, ?_⟩
    dsimp only at hS hE ⊢
    intro i s c n hi hc hlt hn m hw
    obtain ⟨ks, s', hr, hg, hcs, rfl⟩ := hw
    induction hr generalizing i c n with
    | @nil s =>
      obtain ⟨_, n', _, n1, _, _, _, n5⟩ := hS.2 i s hi
      rw [hn] at n1
      have := n5 hg
      have := Option.some.inj n1
      simp; omega
    | @cons s s' k ks o ho hp hr ih =>
      have hs : StateOk t.vars s := mem_statesL.1 (List.mem_of_getElem? hi)
      obtain ⟨j, _, hj⟩ := rank_at h (succ_ok hok hs ho)
      obtain ⟨y, q, y1, q1, _⟩ := hS.2 j _ hj
      have hcc : c = costL t ks + o.cost := by
        rw [← hcs]; simp only [costL, ho, Option.map_some, Option.getD_some]; omega
      obtain ⟨t1, t2⟩ := least_tail hok hdP hi hj ho hp hc y1 hlt (walk_of2 ⟨ks, s', hr, hg, rfl, rfl⟩) hcc
      have h1 := ih j y q hj y1 t2 q1 hg t1.symm
      have h2 := hE ⟨i, k, j⟩ ((hes _).2 ⟨i, k, j, s, o, rfl, hi, ho, hp, hj⟩) i k j o c y n q rfl ho hc y1 t2 (by omega) hn q1
      simp only [List.length_cons]
      omega
theorem nodup_sub {α : Type} [DecidableEq α] : ∀ {a b : List α}, a.Nodup → (∀ x ∈ a, x ∈ b) → a.length ≤ b.length
  | [], _, _, _ => Nat.zero_le _
  | x :: a, b, hn, hs => by
    have hx := hs x List.mem_cons_self
    have h1 := nodup_sub (a := a) (b := b.erase x) (List.nodup_cons.1 hn).2 fun y hy => (List.mem_erase_of_ne (fun e => (List.nodup_cons.1 hn).1 (by rw [← e]; exact hy))).2 (hs y (List.mem_cons_of_mem _ hy))
    have h2 := List.length_erase_of_mem hx
    have h3 := List.length_pos_of_mem hx
    simp only [List.length_cons]
    omega
/-- All smaller numbers of steps are there, too: so there are few steps. -/
theorem steps_all {t : Tsk} (h : SmallOk t) {d st : List Int} (hd : DistP t d) (hS : StepP t d st) : ∀ (n i : Nat) s c, (statesL t.vars)[i]? = some s → d[i]? = some c → c < Inf → st[i]? = some (n : Int) → (n : Int) < Inf → ∀ m : Nat, m ≤ n → (m : Int) ∈ st := by
  intro n
  induction n with
  | zero =>
    intro i s c _ _ _ hn _ m hm
    obtain rfl : m = 0 := by omega
    exact List.mem_of_getElem? hn
  | succ n ih =>
    intro i s c hi hc hlt hn hl m hm
    by_cases e : m = n + 1
    · subst e; exact List.mem_of_getElem? hn
    obtain ⟨c', n', c1, n1, n2, n3, n4, n5⟩ := hS.1.2 i s hi
    rw [hc] at c1
    obtain rfl := Option.some.inj c1
    rw [hn] at n1
    obtain rfl := Option.some.inj n1
    obtain ⟨ks, s', hr, hg, hcs, hks⟩ := n4 hl
    cases hr with
    | nil => simp at hks
    | @cons _ _ k ks o ho hp hr =>
      have hs : StateOk t.vars s := mem_statesL.1 (List.mem_of_getElem? hi)
      obtain ⟨j, _, hj⟩ := rank_at h (succ_ok h.ok hs ho)
      obtain ⟨y, q, y1, q1, q2, q3, q4, q5⟩ := hS.1.2 j _ hj
      have hcc : c = costL t ks + o.cost := by
        rw [← hcs]; simp only [costL, ho, Option.map_some, Option.getD_some]; omega
      obtain ⟨t1, t2⟩ := least_tail h.ok hd hi hj ho hp hc y1 hlt (walk_of2 ⟨ks, s', hr, hg, rfl, rfl⟩) hcc
      have h1 := hS.2 j _ y q hj y1 t2 q1 ks.length ⟨ks, s', hr, hg, t1.symm, rfl⟩
      have hkl : ks.length = n := by simp at hks; omega
      have hql : q < Inf := by omega
      have hw := (q4 hql).cons ho hp
      have h2 := hS.2 i s c _ hi hc hlt hn (q.toNat + 1) (by rw [hcc, ← t1]; exact hw)
      have hq : q = (n : Int) := by omega
      subst hq
      exact ih j _ y hj y1 t2 q1 hql m (by omega)
theorem steps_few {t : Tsk} (h : SmallOk t) {d st : List Int} (hd : DistP t d) (hS : StepP t d st) {i : Nat} {s : List Int} {c n : Int} (hi : (statesL t.vars)[i]? = some s) (hc : d[i]? = some c) (hlt : c < Inf) (hn : st[i]? = some n) (hl : n < Inf) : n < 512 := by
  obtain ⟨_, n', _, n1, n2, _⟩ := hS.1.2 i s hi
  rw [hn] at n1
  obtain rfl := Option.some.inj n1
  have hcast : n = ((n.toNat : Nat) : Int) := by omega
  have hall := steps_all h hd hS n.toNat i s c hi hc hlt (by rw [← hcast]; exact hn) (by omega)
  have h1 := nodup_sub (a := (List.range (n.toNat + 1)).map fun x : Nat => (x : Int)) (b := st) (by
    rw [List.nodup_iff_pairwise_ne, List.pairwise_map]
    exact (List.nodup_iff_pairwise_ne.1 List.nodup_range).imp fun hab he => hab (by omega)) fun x hx => by
      obtain ⟨m, hm, rfl⟩ := List.mem_map.1 hx
      exact hall m (by have := List.mem_range.1 hm; omega)
  have h2 := h.many
  have h3 := hS.1.1
  simp at h1
  omega
theorem steps_fin {t : Tsk} (h : SmallOk t) {d st : List Int} (hd : DistP t d) (hS : StepP t d st) {s : List Int} {C : Int} (hw : Walk t s C) : ∀ (i : Nat) n, (statesL t.vars)[i]? = some s → d[i]? = some C → C < Inf → st[i]? = some n → n < 512 := by
  induction hw with
  | @goal s hg =>
    intro i n hi hc hlt hn
    obtain ⟨_, n', _, n1, _, _, _, n5⟩ := hS.1.2 i s hi
    rw [hn] at n1
    obtain rfl := Option.some.inj n1
    have := n5 hg
    omega
  | @step s k o C ho hp hw ih =>
    intro i n hi hc hlt hn
    have hs : StateOk t.vars s := mem_statesL.1 (List.mem_of_getElem? hi)
    obtain ⟨j, _, hj⟩ := rank_at h (succ_ok h.ok hs ho)
    obtain ⟨y, q, y1, q1, q2, q3, q4, q5⟩ := hS.1.2 j _ hj
    obtain ⟨t1, t2⟩ := least_tail h.ok hd hi hj ho hp hc y1 hlt hw rfl
    subst t1
    have hq := ih j q hj y1 t2 q1
    have h2 := hS.2 i s _ n hi hc hlt hn (q.toNat + 1) ((q4 (by unfold Inf; omega)).cons ho hp)
    exact steps_few h hd hS hi hc hlt hn (by unfold Inf; omega)
theorem safe_eq (t : Tsk) : m_law53_StubbornSafe t = some true := by
  unfold m_law53_StubbornSafe
  by_cases hs : SmallOk t
  case neg => rw [awake53, bnd_some, if_t, small_f hs]; rfl
  rw [awake53, bnd_some, if_t, small_t hs, bnd_some, if_t, bnd_some, if_f]
  have hok := hs.ok
  have hlen := hs.many
  obtain ⟨⟨d, st⟩, hr, hd, hS⟩ := steps_eq hs
  rw [hr, bnd_some, states_small hs, bnd_some]
  dsimp only at hd hS ⊢
  refine rng_bnd (fun _ _ => True) trivial (fun i s _ hi _ => ⟨(), ?_, trivial⟩) (fun _ _ => rfl)
  have hst : StateOk t.vars s := mem_statesL.1 (List.mem_of_getElem? hi)
  obtain ⟨c, n, c1, n1, n2, n3, n4, n5⟩ := hS.1.2 i s hi
  obtain ⟨c', c1', c2, c3, c4, c5⟩ := hd.1.2 i s hi
  rw [c1] at c1'
  obtain rfl := Option.some.inj c1'
  rw [c1, bnd_some]
  by_cases hinf : 1125899906842624 ≤ c
  · rw [if_pos hinf, bnd_some, if_t]
  rw [if_neg hinf, holds_eq, bnd_some]
  by_cases hg : holdsB t.goal s = true
  · rw [if_pos hg, bnd_some, if_t]
  rw [if_neg hg, bnd_some, if_f, Set_ok hok hst, bnd_some, if_neg (by simp)]
  have hgf : holdsB t.goal s = false := by simpa using hg
  have hlt : c < Inf := by unfold Inf; omega
  have hn := steps_fin hs hd hS (c4 hlt) i n hi c1 hlt n1
  obtain ⟨ks, s', r1, r2, r3, r4⟩ := n4 (by unfold Inf; omega)
  obtain ⟨k, o, ks', ho, hclo, hp, hrun, hperm⟩ := safe hok hst hgf r1 r2
  have hkin : (k : Int) ∈ stubL t s := by
    unfold stubL
    exact mem_pick.2 ⟨k, rfl, lt_of_get ho, by rw [bof_t hclo, ho]; simp [hp]⟩
  obtain ⟨kp, hkp⟩ := List.getElem?_of_mem hkin
  refine rng_bnd (fun m b => kp < m → b = true) (fun hh => by omega) (fun m x b hx hb => ?_) (fun b hb => by rw [fin_d, hb (lt_of_get hkp)]; rfl)
  have hxm := List.mem_of_getElem? hx
  unfold stubL at hxm
  obtain ⟨x, rfl, hxl, hxp⟩ := mem_pick.1 hxm
  simp only [Bool.and_eq_true] at hxp
  obtain ⟨ox, hox, hph⟩ := any_some hxp.2
  rw [apply_all hok hst hox, if_pos hph, bnd_some, not_t]
  obtain ⟨j, hj1, hj⟩ := rank_at hs (succ_ok hok hst hox)
  rw [hj1, bnd_some]
  cases b with
  | true => exact ⟨true, rfl, fun _ => rfl⟩
  | false =>
    rw [if_f, bnd_some, atI_eq]
    obtain ⟨y, q, y1, q1, q2, q3, q4, q5⟩ := hS.1.2 j _ hj
    obtain ⟨y', y1', e2, e3, e4, e5⟩ := hd.1.2 j _ hj
    rw [y1] at y1'
    obtain rfl := Option.some.inj y1'
    have hco := hok.2.2.2.2.2 x ox hox
    have hc1 := hco.1
    have hc2 := hco.2.1
    rw [y1, bnd_some, atI_eq, hox, bnd_some, chkI_eq (by unfold inI64; unfold Inf at *; omega), bnd_some]
    by_cases hmk : kp = m
    · subst hmk
      rw [hkp] at hx
      have hkx : k = x := by have := Option.some.inj hx; omega
      subst hkx
      rw [ho] at hox
      obtain rfl := Option.some.inj hox
      have hcl := costL_perm (t := t) hperm
      have hll := hperm.length_eq
      simp only [List.length_cons] at hll
      have hcc : c = costL t ks' + o.cost := by
        rw [← r3, ← hcl]; simp only [costL, ho, Option.map_some, Option.getD_some]; omega
      obtain ⟨t1, t2⟩ := least_tail hok hd hi hj ho hp c1 y1 hlt (walk_of2 ⟨ks', s', hrun, r2, rfl, rfl⟩) hcc
      have g1 := hS.2 j _ y q hj y1 t2 q1 ks'.length ⟨ks', s', hrun, r2, t1.symm, rfl⟩
      have hql : q < Inf := by unfold Inf; omega
      have g2 := hS.2 i s c n hi c1 hlt n1 (q.toNat + 1) (by rw [hcc, ← t1]; exact (q4 hql).cons ho hp)
      rw [if_pos (by omega), n1, bnd_some, atI_eq, q1, bnd_some, chkI_eq (by unfold inI64; unfold Inf at *; omega), bnd_some, if_pos (by omega)]
      exact ⟨true, rfl, fun _ => rfl⟩
    · have hkm : ¬ kp < m + 1 := fun hh => by have := hb (by omega); cases this
      by_cases hq : c = y + ox.cost
      · rw [if_pos hq, n1, bnd_some, atI_eq, q1, bnd_some, chkI_eq (by unfold inI64; unfold Inf at *; omega), bnd_some]
        split
        · exact ⟨true, rfl, fun _ => rfl⟩
        · exact ⟨false, rfl, fun hh => absurd hh hkm⟩
      · rw [if_neg hq]
        exact ⟨false, rfl, fun hh => absurd hh hkm⟩
end
section
open Go Go.RowKit Go.ChangeShapes Go.WideShapes Go.Deep
theorem lawSafe {w : World} {v0 : Value} {a0 : Tsk} (h0 : V w v0 a0) : Fn Try.prog 4 [v0] w fun v w' => v = .bool true ∧ Ext w w' :=
  (c_law53_StubbornSafe (fun _ h => h) h0 (safe_eq a0)).mono fun _ _ h => ⟨h.2.bool, h.1⟩
set_option maxRecDepth 100000 in
theorem stubbornSafe_lifted (os : Os) (started : os.Started) (H : Type) (enc : TypeId × Value → H) :
    ReturnsInHanded {} Try.checked os 4 .any (Rows.stubbornSafeSpec.pre6 enc Try.prog Try.f4 Rows.stubbornSafeRow.domain false) (Rows.stubbornSafeSpec.post enc Try.prog Try.f4 false true false false) := by
  refine returnsInHanded_of_change (C := Try.checked) ownTry started (by kernel_rfl) Try.func4 (ChangeSpec.witness6 (enc := enc) (C := Try.checked) false ⟨#[], #[(.agg #[.slice none 0 0, .slice none 0 0, .slice none 0 0, .slice none 0 0])], []⟩ 8 (by kernel_rfl) (by kernel_rfl) (by kernel_rfl) (by kernel_rfl)) ?_
  intro W base args ds gs before hval hW _ _
  have hopen : ∀ p, DataW.TrodAll enc Try.prog W 0 (fun _ => true) true Try.f4.params.toList args.toList ds p → ∃ v0 d0, args = #[v0] ∧ ds = [d0] ∧ (∃ a : Tsk, V W v0 a) := by
    intro p hA
    rw [Try.params4] at hA
    replace hval : ∀ (j : Nat) t v, (#[26] : Array TypeId)[j]? = some t → args[j]? = some v → Value.okWide Try.prog W .any base t v := by rw [← Try.params4]; exact hval
    obtain ⟨v0, vs0, d0, ds0, p0, q0, g0, e0, _, h0, r0⟩ := trodAll_cons hA
    obtain ⟨g, e, _⟩ := trodAll_nil r0
    rw [g] at g0; rw [e] at e0
    obtain rfl : args = #[v0] := by cases args; simp_all
    exact ⟨v0, d0, rfl, e0, (by first | exact openAgg rfl (hval 0 26 v0 rfl rfl) h0 | exact openOne rfl (hval 0 26 v0 rfl rfl) h0)⟩
  refine lawPost rfl (by kernel_rfl) (by rw [Try.params4]; exact of_decide_eq_true (by kernel_rfl)) hW ?_ ?_
  · intro p hA
    obtain ⟨v0, d0, _, rfl, _⟩ := hopen p hA
    rfl
  · intro p hA
    obtain ⟨v0, d0, rfl, _, ⟨a0, h0⟩⟩ := hopen p hA
    exact lawSafe h0
theorem stubbornSafe_holds : Rows.StubbornSafeSaid :=
  OpenClaim.holds_of_wide 4 Try.f4 rfl rfl rfl rfl rfl rfl rfl ⟨rfl, rfl, rfl, rfl, rfl⟩ rfl rfl rfl rfl rfl (by kernel_rfl) Try.func4 (by kernel_rfl)
    (of_decide_eq_true (by kernel_rfl)) (by unfold Func.isWrapper; first | (rw [if_pos (by decide +kernel)]; kernel_rfl) | (rw [if_neg (by decide +kernel)]; exact ⟨rfl, rfl⟩))
    (fun os started H enc _ => stubbornSafe_lifted os started H enc)
#print axioms stubbornSafe_holds
end
end Go.Proofs.Ytgnmjmcjadpmhaa

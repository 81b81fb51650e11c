/- Own text: models of task.Solves and of the law of keeping, and their proofs (written by gen2.py). -/
import Derived.Test.YtdhaelekmjgbmaaSym2
import Derived.Test.YtdhaelekmjgbmaaBase1
namespace Go.Proofs.Ytdhaelekmjgbmaa
open Go Go.RowKit
attribute [local irreducible] ewp owp hwp hwq hws Ev Evg Fn retPost loud loudS Res1
noncomputable def m_task_apply (x0 : Tsk) (x1 : List Int) (x2 : Int) : Option ((List Int) × Err) :=
  bnd (if x2 < 0 then (some true) else (if (x0.ops.length : Int) ≤ x2 then (some true) else (some false)) : Option Bool) fun y25 => if y25 = true then (some (([] : List Int), (⟨1⟩ : Err))) else (bnd (m_task_Proper x0.vars x1) fun q38 => if q38 = true then bnd (atI x0.ops x2) fun a45 => bnd (m_task_Holds a45.pre x1) fun q66 => if q66 = true then bnd (m_slices_Clone_Lint_int x1) fun q73 => bnd (atI x0.ops x2) fun a83 => bnd (rng (ρ := (List Int) × Err) (fun (k110 : Nat) (a111 : Eff) (s108 : (List Int)) => bnd (m_task_Holds a111.cond x1) fun q145 => if q145 = true then bnd (atI s108 a111.var) fun a152 => some (.next (s108.set (a111.var).toNat a111.val)) else some (.next s108)) a83.effs 0 q73) fun res106 => fin res106 fun (s170 : (List Int)) => some (s170, (⟨0⟩ : Err)) else some (([] : List Int), (⟨12⟩ : Err)) else some (([] : List Int), (⟨2⟩ : Err)))
theorem c_task_apply {w : World} {A : Nat → Prop} (hA : ∀ k, A k → k < w.heap.size) {vx0 : Value} {x0 : Tsk} (hx0 : Vb w A vx0 x0) {vx1 : Value} {x1 : List Int} (hx1 : Vb w A vx1 x1) {x2 : Int} (rx2 : inI64 x2) {r : (List Int) × Err} (hm : m_task_apply x0 x1 x2 = some r) :
    Fn Try.prog 83 [vx0, vx1, (.int .i64 x2)] w fun v w' => Ext w w' ∧ T2 w' (upA A w w') v r := by
  obtain ⟨O, hB, hA0⟩ := enter hA
  replace hx0 := hx0.mono hA0
  obtain ⟨cs1, rfl, v2, v3, v4, v5, rfl, h6, h9, h12, h15⟩ := hx0
  obtain ⟨A7, c8, rfl⟩ := h6.form
  obtain ⟨A10, c11, rfl⟩ := h9.form
  obtain ⟨A13, c14, rfl⟩ := h12.form
  obtain ⟨A16, c17, rfl⟩ := h15.form
  replace hx1 := hx1.mono hA0
  obtain ⟨A18, c19, rfl⟩ := hx1.form
  refine fn_enter Try.func83 rfl Try.ntmps83 rfl ?_
  unfold m_task_apply at hm
  refine ewp_seq ?_
  refine ewp_region ?_
  refine l_box 2 O rfl rfl fun g20 w21 O22 S23 h24 => ?_
  replace h24 : Lc 2 w21 O22 g20 26 [(.slice A7 x0.vars.length c8), (.slice A10 x0.init.length c11), (.slice A13 x0.goal.length c14), (.slice A16 x0.ops.length c17)] := h24
  replace hB := hB.st S23 (fun h => h) (fun h => h)
  replace hx1 := hx1.st S23 (fun h => h)
  replace h6 := h6.st S23 (fun h => h)
  replace h9 := h9.st S23 (fun h => h)
  replace h12 := h12.st S23 (fun h => h)
  replace h15 := h15.st S23 (fun h => h)
  refine o_as rfl rfl  ?_
  refine o_as rfl rfl  ?_
  (first | refine owp_nilT ?_ | refine owp_nilB ?_ | refine owp_nilBB ?_ | refine owp_nil ?_)
  refine ewp_seq ?_
  refine ewp_block ?_
  refine ewp_seq ?_
  obtain ⟨y25, hy26, hm⟩ := bs hm
  refine ewp_join (fun l' w' => ∃ (x28 : Unit) (O' : Lab), subs l' [(1, (.slice A18 x1.length c19)), (2, (.int .i64 x2)), (3, (.pointer (some ⟨g20, 0, none⟩))), (11, (.bool y25))] ∧ Bs w A w' O' ∧ Vb w' (Fr 0 w' O') (.slice A18 x1.length c19) x1 ∧ Lc 2 w' O' g20 26 [(.slice A7 x0.vars.length c8), (.slice A10 x0.init.length c11), (.slice A13 x0.goal.length c14), (.slice A16 x0.ops.length c17)] ∧ Vb w' (Fr 0 w' O') (.slice A7 x0.vars.length c8) x0.vars ∧ Vb w' (Fr 0 w' O') (.slice A10 x0.init.length c11) x0.init ∧ Vb w' (Fr 0 w' O') (.slice A13 x0.goal.length c14) x0.goal ∧ Vb w' (Fr 0 w' O') (.slice A16 x0.ops.length c17) x0.ops) ?_ ?_
  · skip
    refine ewp_region ?_
    refine o_mv rfl rfl  ?_
    refine o_ltS rfl rfl rfl (fun c29 => ?_) fun c29 => ?_
    · replace hy26 := ip hy26 c29
      refine o_mv rfl rfl  ?_
      refine owp_no rfl rfl rfl rfl ?_
      refine owp_no rfl rfl rfl rfl ?_
      refine owp_no rfl rfl rfl rfl ?_
      refine owp_no rfl rfl rfl rfl ?_
      refine owp_no rfl rfl rfl rfl ?_
      refine o_pt rfl rfl rfl  ?_
      refine o_as rfl rfl  ?_
      (first | refine owp_nilT ?_ | refine owp_nilB ?_ | refine owp_nilBB ?_ | refine owp_nil ?_)
      obtain rfl := sm hy26
      exact ⟨(), _, ⟨rfl, rfl, rfl, rfl, trivial⟩, hB, hx1, h24, h6, h9, h12, h15⟩
    · replace hy26 := im hy26 c29
      refine o_mv rfl rfl  ?_
      refine owp_yes rfl rfl ?_
      refine o_mv rfl rfl  ?_
      refine owp_yes rfl rfl ?_
      refine o_fa rfl rfl  ?_
      refine owp_yes rfl rfl ?_
      refine o_ld (hc := Blk.cell (i := 3) (h24.1) rfl) rfl rfl  ?_
      refine owp_yes rfl rfl ?_
      refine o_ln rfl rfl  ?_
      have l31 : x0.ops.length ≤ 9223372036854775807 := Nat.le_trans h15.len.2.1 h15.len.2.2
      have r30 : inI64 (x0.ops.length : Int) := rngNat l31
      refine owp_yes rfl rfl ?_
      refine o_geS rfl rfl rfl (fun c32 => ?_) fun c32 => ?_
      · replace hy26 := ip hy26 c32
        refine o_pf rfl rfl rfl  ?_
        refine o_as rfl rfl  ?_
        (first | refine owp_nilT ?_ | refine owp_nilB ?_ | refine owp_nilBB ?_ | refine owp_nil ?_)
        obtain rfl := sm hy26
        exact ⟨(), _, ⟨rfl, rfl, rfl, rfl, trivial⟩, hB, hx1, h24, h6, h9, h12, h15⟩
      · replace hy26 := im hy26 c32
        refine o_pf rfl rfl rfl  ?_
        refine o_as rfl rfl  ?_
        (first | refine owp_nilT ?_ | refine owp_nilB ?_ | refine owp_nilBB ?_ | refine owp_nil ?_)
        obtain rfl := sm hy26
        exact ⟨(), _, ⟨rfl, rfl, rfl, rfl, trivial⟩, hB, hx1, h24, h6, h9, h12, h15⟩
  rintro l33 w34 ⟨x28, O35, hs36, hB, hx1, h24, h6, h9, h12, h15⟩
  refine ewp_sub _ hs36 ?_
  refine ewp_cond rfl (fun c37 => ?_) (fun c37 => ?_)
  · replace hm := ip hm c37
    refine ewp_seq ?_
    refine ewp_region ?_
    refine o_miE rfl rfl  ?_
    refine o_as rfl rfl  ?_
    refine o_as rfl rfl  ?_
    (first | refine owp_nilT ?_ | refine owp_nilB ?_ | refine owp_nilBB ?_ | refine owp_nil ?_)
    refine ewp_ret ?_
    obtain rfl := sm hm
    exact ret2 rfl (res_tmp rfl) (res_tmp rfl) ⟨hB.ext, _, _, rfl, (Vb.mono (F := Fr 0 w34 O35) (Vb.nil _ _) hB.out), (vErr (by decide))⟩
  · replace hm := im' hm c37
    refine ewp_seq ?_
    refine ewp_region ?_
    refine o_fa rfl rfl  ?_
    refine o_ld (hc := Blk.cell (i := 0) (h24.1) rfl) rfl rfl  ?_
    refine o_mv rfl rfl  ?_
    obtain ⟨q38, e39, hm⟩ := bs hm
    refine l_callA (O := O35) (A := All w34) (R := fun w' F v => Vb w' F v q38) (c_task_Proper (fun _ h => h) (Vb.mono (F := Fr 0 w34 O35) h6 Fr.lt) (Vb.mono (F := Fr 0 w34 O35) hx1 Fr.lt) e39) rfl rfl fun v44 w40 O41 S42 h43 => ?_
    obtain rfl := h43.bool
    replace hB := hB.st S42 (fun h => h) (fun h => h)
    replace hx1 := hx1.st S42 (fun h => h)
    replace h24 := h24.st S42 (fun h => h)
    replace h6 := h6.st S42 (fun h => h)
    replace h9 := h9.st S42 (fun h => h)
    replace h12 := h12.st S42 (fun h => h)
    replace h15 := h15.st S42 (fun h => h)
    cases q38
    case false =>
      replace hm := iF hm
      refine o_nf rfl rfl  ?_
      refine o_as rfl rfl  ?_
      (first | refine owp_nilT ?_ | refine owp_nilB ?_ | refine owp_nilBB ?_ | refine owp_nil ?_)
      refine ewp_true rfl ?_
      refine ewp_seq ?_
      refine ewp_region ?_
      refine o_miE rfl rfl  ?_
      refine o_as rfl rfl  ?_
      refine o_as rfl rfl  ?_
      (first | refine owp_nilT ?_ | refine owp_nilB ?_ | refine owp_nilBB ?_ | refine owp_nil ?_)
      refine ewp_ret ?_
      obtain rfl := sm hm
      exact ret2 rfl (res_tmp rfl) (res_tmp rfl) ⟨hB.ext, _, _, rfl, (Vb.mono (F := Fr 0 w40 O41) (Vb.nil _ _) hB.out), (vErr (by decide))⟩
    replace hm := iT hm
    refine o_nt rfl rfl  ?_
    refine o_as rfl rfl  ?_
    (first | refine owp_nilT ?_ | refine owp_nilB ?_ | refine owp_nilBB ?_ | refine owp_nil ?_)
    refine ewp_false rfl ?_
    refine ewp_seq ?_
    refine ewp_region ?_
    refine o_fa rfl rfl  ?_
    refine o_ld (hc := Blk.cell (i := 3) (h24.1) rfl) rfl rfl  ?_
    refine o_mv rfl rfl  ?_
    obtain ⟨a45, e46, hm⟩ := bs hm
    obtain ⟨p48, x47⟩ := atI_some' e46
    obtain ⟨b49, o50, ce51, hA52, hl53, hd54, v56, v57, rfl, h58, h61, r64, z65⟩ := h15.elem' x47
    obtain ⟨A59, c60, rfl⟩ := h58.form
    obtain ⟨A62, c63, rfl⟩ := h61.form
    refine o_iaE (hA := hA52) (hj := (Int.toNat_of_nonneg p48).symm) (hlt := hl53) rfl rfl rfl  ?_
    refine o_fa rfl rfl  ?_
    refine o_ld (hc := cat2 hd54) rfl rfl  ?_
    refine o_mv rfl rfl  ?_
    obtain ⟨q66, e67, hm⟩ := bs hm
    refine l_callA (O := O41) (A := All w40) (R := fun w' F v => Vb w' F v q66) (c_task_Holds (fun _ h => h) (Vb.mono (F := Fr 0 w40 O41) h58 Fr.lt) (Vb.mono (F := Fr 0 w40 O41) hx1 Fr.lt) e67) rfl rfl fun v72 w68 O69 S70 h71 => ?_
    obtain rfl := h71.bool
    replace hB := hB.st S70 (fun h => h) (fun h => h)
    replace hx1 := hx1.st S70 (fun h => h)
    replace h24 := h24.st S70 (fun h => h)
    replace h6 := h6.st S70 (fun h => h)
    replace h9 := h9.st S70 (fun h => h)
    replace h12 := h12.st S70 (fun h => h)
    replace h15 := h15.st S70 (fun h => h)
    cases q66
    case false =>
      replace hm := iF hm
      refine o_nf rfl rfl  ?_
      refine o_as rfl rfl  ?_
      (first | refine owp_nilT ?_ | refine owp_nilB ?_ | refine owp_nilBB ?_ | refine owp_nil ?_)
      refine ewp_true rfl ?_
      refine ewp_seq ?_
      refine ewp_region ?_
      refine o_miE rfl rfl  ?_
      refine o_as rfl rfl  ?_
      refine o_as rfl rfl  ?_
      (first | refine owp_nilT ?_ | refine owp_nilB ?_ | refine owp_nilBB ?_ | refine owp_nil ?_)
      refine ewp_ret ?_
      obtain rfl := sm hm
      exact ret2 rfl (res_tmp rfl) (res_tmp rfl) ⟨hB.ext, _, _, rfl, (Vb.mono (F := Fr 0 w68 O69) (Vb.nil _ _) hB.out), (vErr (by decide))⟩
    replace hm := iT hm
    refine o_nt rfl rfl  ?_
    refine o_as rfl rfl  ?_
    (first | refine owp_nilT ?_ | refine owp_nilB ?_ | refine owp_nilBB ?_ | refine owp_nil ?_)
    refine ewp_false rfl ?_
    refine ewp_skip ?_
    refine ewp_seq ?_
    refine ewp_region ?_
    refine o_mv rfl rfl  ?_
    obtain ⟨q73, e74, hm⟩ := bs hm
    refine l_callRow 3 (by decide) (O := O69) (c_slices_Clone_Lint_int Fr.lt hx1 e74) rfl rfl fun A80 c81 w75 O76 S77 h78 => ?_
    replace hB := hB.st S77 (fun h => h) (fun h => h)
    replace hx1 := hx1.st S77 (fun h => h)
    replace h24 := h24.st S77 (fun h => h)
    replace h6 := h6.st S77 (fun h => h)
    replace h9 := h9.st S77 (fun h => h)
    replace h12 := h12.st S77 (fun h => h)
    replace h15 := h15.st S77 (fun h => h)
    refine o_as rfl rfl  ?_
    (first | refine owp_nilT ?_ | refine owp_nilB ?_ | refine owp_nilBB ?_ | refine owp_nil ?_)
    refine ewp_seq ?_
    refine ewp_seq ?_
    refine ewp_region ?_
    refine o_fa rfl rfl  ?_
    refine o_ld (hc := Blk.cell (i := 3) (h24.1) rfl) rfl rfl  ?_
    refine o_mv rfl rfl  ?_
    obtain ⟨a83, e84, hm⟩ := bs hm
    obtain ⟨p86, x85⟩ := atI_some' e84
    obtain ⟨b87, o88, ce89, hA90, hl91, hd92, v94, v95, rfl, h96, h99, r102, z103⟩ := h15.elem' x85
    obtain ⟨A97, c98, rfl⟩ := h96.form
    obtain ⟨A100, c101, rfl⟩ := h99.form
    refine o_iaE (hA := hA90) (hj := (Int.toNat_of_nonneg p86).symm) (hlt := hl91) rfl rfl rfl  ?_
    refine o_fa rfl rfl  ?_
    refine o_ld (hc := cat3 hd92) rfl rfl  ?_
    refine o_ln rfl rfl  ?_
    have l105 : a83.effs.length ≤ 9223372036854775807 := Nat.le_trans h99.len.2.1 h99.len.2.2
    have r104 : inI64 (a83.effs.length : Int) := rngNat l105
    refine o_mv rfl rfl  ?_
    (first | refine owp_nilT ?_ | refine owp_nilB ?_ | refine owp_nilBB ?_ | refine owp_nil ?_)
    obtain ⟨res106, hL107, hm⟩ := bs hm
    refine ewp_join (aft res106 (fun (s108 : (List Int)) (x109 : (Option Addr × Nat)) => [(8, (.slice x109.1 s108.length x109.2))]) (fun s108 x109 w' => ∃ O' : Lab, Bs w A w' O' ∧ Rw 3 w' O' 3 (.slice x109.1 s108.length x109.2) s108)) ?_ ?_
    · refine ewp_block ?_
      refine ewp_rng (σ := (List Int)) (X := (Option Addr × Nat)) (a83.effs.length) hL107 rfl l105 (fun (s108 : (List Int)) (x109 : (Option Addr × Nat)) => [(1, (.slice A18 x1.length c19)), (8, (.slice x109.1 s108.length x109.2)), (47, (.slice A100 a83.effs.length c101))]) _ (fun s108 x109 w' => ∃ O' : Lab, Bs w A w' O' ∧ Vb w' (Fr 0 w' O') (.slice A18 x1.length c19) x1 ∧ Rw 3 w' O' 3 (.slice x109.1 s108.length x109.2) s108 ∧ Vb w' (Fr 0 w' O') (.slice A100 a83.effs.length c101) a83.effs) _ (A80, c81) ⟨O76, hB, hx1, h78, h99⟩ ⟨rfl, rfl, rfl, rfl, rfl, trivial⟩ (fun _ _ => ⟨rfl, rfl⟩) (fun _ _ => ⟨rfl, trivial⟩) (fun _ _ _ ⟨O', hB, hx1, h123, h99⟩ => ⟨O', hB, h123⟩) ⟨rfl, rfl, rfl⟩ ⟨rfl, rfl⟩ ?_
      rintro k110 a111 s108 x109 w112 cc114 hx115 ⟨O113, hB, hx1, h123, h99⟩ hf116 hret117 hbrk118
      have rk110 : inI64 (k110 : Int) := rngK hx115 l105
      refine ewp_seq ?_
      refine ewp_region ?_
      obtain ⟨b125, o126, ce127, hA128, hl129, hd130, v132, rfl, h133, r136, r137⟩ := h99.elem' hx115
      obtain ⟨A134, c135, rfl⟩ := h133.form
      refine o_iaE (hA := hA128) (hj := rfl) (hlt := hl129) rfl rfl rfl  ?_
      refine o_la (hl := rfl) (hc := hd130) rfl rfl  ?_
      refine l_alloc 4 O113 rfl fun g138 w139 O140 S141 h142 => ?_
      replace hB := hB.st S141 (fun h => h) (fun h => h)
      replace hx1 := hx1.st S141 (fun h => h)
      replace h123 := h123.st S141 (fun h => h) (fun h => h)
      replace h99 := h99.st S141 (fun h => h)
      replace h133 := h133.st S141 (fun h => h)
      refine l_store h142 rfl rfl rfl (Nat.le_of_ble_eq_true rfl) (by first | exact allOne rfl | simp [Value.cells, Value.oneCell', errV_one]) fun w143 S144 h142 => ?_
      replace h142 : Lc 4 w143 O140 g138 74 [(.slice A134 a111.cond.length c135), (.int .i64 a111.var), (.int .i64 a111.val)] := h142
      replace hB := hB.st S144 (by decide) (by decide)
      replace hx1 := hx1.st S144 (by decide)
      replace h123 := h123.st S144 (by decide) (by decide)
      replace h133 := h133.st S144 (by decide)
      replace h99 := h99.st S144 (by decide)
      (first | refine owp_nilT ?_ | refine owp_nilB ?_ | refine owp_nilBB ?_ | refine owp_nil ?_)
      refine ewp_seq ?_
      refine ewp_region ?_
      refine o_fa rfl rfl  ?_
      refine o_ld (hc := Blk.cell (i := 0) (h142.1) rfl) rfl rfl  ?_
      refine o_mv rfl rfl  ?_
      obtain ⟨q145, e146, hf116⟩ := bs hf116
      refine l_callA (O := O140) (A := All w143) (R := fun w' F v => Vb w' F v q145) (c_task_Holds (fun _ h => h) (Vb.mono (F := Fr 0 w143 O140) h133 Fr.lt) (Vb.mono (F := Fr 0 w143 O140) hx1 Fr.lt) e146) rfl rfl fun v151 w147 O148 S149 h150 => ?_
      obtain rfl := h150.bool
      replace hB := hB.st S149 (fun h => h) (fun h => h)
      replace hx1 := hx1.st S149 (fun h => h)
      replace h123 := h123.st S149 (fun h => h) (fun h => h)
      replace h142 := h142.st S149 (fun h => h)
      replace h133 := h133.st S149 (fun h => h)
      replace h99 := h99.st S149 (fun h => h)
      cases q145
      case false =>
        replace hf116 := iF hf116
        (first | refine owp_nilT ?_ | refine owp_nilB ?_ | refine owp_nilBB ?_ | refine owp_nil ?_)
        refine ewp_false rfl ?_
        refine ewp_skip ?_
        obtain rfl := sm hf116
        refine (?_ : Exists _)
        exact ⟨_, (x109.1, x109.2), rfl, ⟨rfl, rfl, rfl, rfl, rfl, trivial⟩, _, hB, hx1, h123, h99⟩
      replace hf116 := iT hf116
      (first | refine owp_nilT ?_ | refine owp_nilB ?_ | refine owp_nilBB ?_ | refine owp_nil ?_)
      refine ewp_true rfl ?_
      refine ewp_region ?_
      refine o_mv rfl rfl  ?_
      refine o_fa rfl rfl  ?_
      refine o_ld (hc := Blk.cell (i := 1) (h142.1) rfl) rfl rfl  ?_
      refine o_fa rfl rfl  ?_
      refine o_ld (hc := Blk.cell (i := 2) (h142.1) rfl) rfl rfl  ?_
      obtain ⟨a152, e153, hf116⟩ := bs hf116
      obtain ⟨p155, x154⟩ := atI_some' e153
      obtain ⟨b156, o157, ce158, hA159, hl160, hd161, rfl, r163⟩ := h123.elem x154
      refine o_iaE (hA := hA159) (hj := (Int.toNat_of_nonneg p155).symm) (hlt := hl160) rfl rfl rfl  ?_
      refine l_setE rfl h123 (a := a111.val) (vInt r137) hA159 rfl rfl (lt_of_get x154) fun w164 S165 h123 => ?_
      replace hB := hB.st S165 (by decide) (by decide)
      replace hx1 := hx1.st S165 (by decide)
      replace h99 := h99.st S165 (by decide)
      (first | refine owp_nilT ?_ | refine owp_nilB ?_ | refine owp_nilBB ?_ | refine owp_nil ?_)
      obtain rfl := sm hf116
      refine (?_ : Exists _)
      exact ⟨_, (x109.1, x109.2), rfl, ⟨rfl, rfl, rfl, (congrArg (fun n => some (Value.slice _ n _)) ((by simp : (s108.set (a111.var).toNat a111.val).length = s108.length).trans rfl).symm), rfl, trivial⟩, _, hB, hx1, h123.relen, h99⟩
    rintro l166 w167 ⟨s170, x171, rfl, hs169, O168, hB, h123⟩
    replace hm := fin_done hm
    refine ewp_sub _ hs169 ?_
    refine ewp_seq ?_
    refine ewp_region ?_
    refine o_mv rfl rfl  ?_
    refine o_as rfl rfl  ?_
    refine o_as rfl rfl  ?_
    (first | refine owp_nilT ?_ | refine owp_nilB ?_ | refine owp_nilBB ?_ | refine owp_nil ?_)
    refine ewp_ret ?_
    obtain ⟨O172, S173, h123⟩ := h123.freeze
    replace hB := hB.st S173 (by decide) (by decide)
    obtain rfl := sm hm
    exact ret2 rfl (res_tmp rfl) (res_tmp rfl) ⟨hB.ext, _, _, rfl, (Vb.mono (F := Fr 0 w167 O172) h123 hB.out), (vErr (show inI64 0 from by decide))⟩
noncomputable def m_task_Run (x0 : Tsk) (x1 : List Int) (x2 : List Int) : Option ((List Int) × Int × Err) :=
  bnd (m_task_Check x0) fun q27 => if q27.n ≠ 0 then (some (([] : List Int), 0, (⟨q27.n⟩ : Err))) else (bnd (m_task_Proper x0.vars x1) fun q36 => if q36 = true then if 65536 < (x2.length : Int) then (some (([] : List Int), 0, (⟨5⟩ : Err))) else (bnd (m_slices_Clone_Lint_int x1) fun q46 => bnd (rng (ρ := (List Int) × Int × Err) (fun (k62 : Nat) (a63 : Int) (s60 : (List Int) × Int) => bnd (m_task_apply x0 s60.1 a63) fun q87 => if q87.2.n ≠ 0 then (some (.ret (([] : List Int), 0, (⟨q87.2.n⟩ : Err)))) else (bnd (atI x0.ops a63) fun a102 => bnd (chkI (s60.2 + a102.cost)) fun n123 => some (.next (q87.1, n123)))) x2 0 (q46, 0)) fun res58 => fin res58 fun (s130 : (List Int) × Int) => some (s130.1, s130.2, (⟨0⟩ : Err))) else some (([] : List Int), 0, (⟨2⟩ : Err)))
theorem c_task_Run {w : World} {A : Nat → Prop} (hA : ∀ k, A k → k < w.heap.size) {vx0 : Value} {x0 : Tsk} (hx0 : Vb w A vx0 x0) {vx1 : Value} {x1 : List Int} (hx1 : Vb w A vx1 x1) {vx2 : Value} {x2 : List Int} (hx2 : Vb w A vx2 x2) {r : (List Int) × Int × Err} (hm : m_task_Run x0 x1 x2 = some r) :
    Fn Try.prog 63 [vx0, vx1, vx2] w fun v w' => Ext w w' ∧ T3 w' (upA A w w') v r := by
  obtain ⟨O, hB, hA0⟩ := enter hA
  replace hx0 := hx0.mono hA0
  obtain ⟨cs1, rfl, v2, v3, v4, v5, rfl, h6, h9, h12, h15⟩ := hx0
  obtain ⟨A7, c8, rfl⟩ := h6.form
  obtain ⟨A10, c11, rfl⟩ := h9.form
  obtain ⟨A13, c14, rfl⟩ := h12.form
  obtain ⟨A16, c17, rfl⟩ := h15.form
  replace hx1 := hx1.mono hA0
  obtain ⟨A18, c19, rfl⟩ := hx1.form
  replace hx2 := hx2.mono hA0
  obtain ⟨A20, c21, rfl⟩ := hx2.form
  refine fn_enter Try.func63 rfl Try.ntmps63 rfl ?_
  unfold m_task_Run at hm
  refine ewp_seq ?_
  refine ewp_region ?_
  refine l_box 2 O rfl rfl fun g22 w23 O24 S25 h26 => ?_
  replace h26 : Lc 2 w23 O24 g22 26 [(.slice A7 x0.vars.length c8), (.slice A10 x0.init.length c11), (.slice A13 x0.goal.length c14), (.slice A16 x0.ops.length c17)] := h26
  replace hB := hB.st S25 (fun h => h) (fun h => h)
  replace hx1 := hx1.st S25 (fun h => h)
  replace hx2 := hx2.st S25 (fun h => h)
  replace h6 := h6.st S25 (fun h => h)
  replace h9 := h9.st S25 (fun h => h)
  replace h12 := h12.st S25 (fun h => h)
  replace h15 := h15.st S25 (fun h => h)
  refine o_as rfl rfl  ?_
  refine o_as rfl rfl  ?_
  refine o_as rfl rfl  ?_
  (first | refine owp_nilT ?_ | refine owp_nilB ?_ | refine owp_nilBB ?_ | refine owp_nil ?_)
  refine ewp_seq ?_
  refine ewp_seq ?_
  refine ewp_region ?_
  refine o_la (hl := rfl) (hc := (h26.1).cellsAt) rfl rfl  ?_
  obtain ⟨q27, e28, hm⟩ := bs hm
  refine l_callA (O := O24) (A := All w23) (R := fun w' F v => Vb w' F v q27) (c_task_Check (fun _ h => h) (Vb.mono (F := Fr 0 w23 O24) (Vb.ofAgg (cs := [(.slice A7 x0.vars.length c8), (.slice A10 x0.init.length c11), (.slice A13 x0.goal.length c14), (.slice A16 x0.ops.length c17)]) (x := x0) rfl ⟨_, _, _, _, rfl, h6, h9, h12, h15⟩) Fr.lt) e28) rfl rfl fun v33 w29 O30 S31 h32 => ?_
  obtain ⟨rfl, r34⟩ := h32.err
  replace hB := hB.st S31 (fun h => h) (fun h => h)
  replace hx1 := hx1.st S31 (fun h => h)
  replace hx2 := hx2.st S31 (fun h => h)
  replace h26 := h26.st S31 (fun h => h)
  replace h6 := h6.st S31 (fun h => h)
  replace h9 := h9.st S31 (fun h => h)
  replace h12 := h12.st S31 (fun h => h)
  replace h15 := h15.st S31 (fun h => h)
  refine o_as rfl rfl  ?_
  (first | refine owp_nilT ?_ | refine owp_nilB ?_ | refine owp_nilBB ?_ | refine owp_nil ?_)
  refine ewp_seq ?_
  refine ewp_region ?_
  refine o_mv rfl rfl  ?_
  refine o_rnS rfl rfl (fun c35 => ?_) fun c35 => ?_
  · replace hm := ip hm c35
    (first | refine owp_nilT ?_ | refine owp_nilB ?_ | refine owp_nilBB ?_ | refine owp_nil ?_)
    refine ewp_true rfl ?_
    refine ewp_seq ?_
    refine ewp_region ?_
    refine o_mv rfl rfl  ?_
    refine o_as rfl rfl  ?_
    refine o_as rfl rfl  ?_
    refine o_as rfl rfl  ?_
    (first | refine owp_nilT ?_ | refine owp_nilB ?_ | refine owp_nilBB ?_ | refine owp_nil ?_)
    refine ewp_ret ?_
    obtain rfl := sm hm
    exact ret3 rfl (res_tmp rfl) (res_tmp rfl) (res_tmp rfl) ⟨hB.ext, _, _, _, rfl, (Vb.mono (F := Fr 0 w29 O30) (Vb.nil _ _) hB.out), (vInt (show inI64 (0) from by decide)), (vErr r34)⟩
  · replace hm := im hm c35
    (first | refine owp_nilT ?_ | refine owp_nilB ?_ | refine owp_nilBB ?_ | refine owp_nil ?_)
    refine ewp_false rfl ?_
    refine ewp_skip ?_
    refine ewp_seq ?_
    refine ewp_seq ?_
    refine ewp_region ?_
    refine o_fa rfl rfl  ?_
    refine o_ld (hc := Blk.cell (i := 0) (h26.1) rfl) rfl rfl  ?_
    refine o_mv rfl rfl  ?_
    obtain ⟨q36, e37, hm⟩ := bs hm
    refine l_callA (O := O30) (A := All w29) (R := fun w' F v => Vb w' F v q36) (c_task_Proper (fun _ h => h) (Vb.mono (F := Fr 0 w29 O30) h6 Fr.lt) (Vb.mono (F := Fr 0 w29 O30) hx1 Fr.lt) e37) rfl rfl fun v42 w38 O39 S40 h41 => ?_
    obtain rfl := h41.bool
    replace hB := hB.st S40 (fun h => h) (fun h => h)
    replace hx1 := hx1.st S40 (fun h => h)
    replace hx2 := hx2.st S40 (fun h => h)
    replace h26 := h26.st S40 (fun h => h)
    replace h6 := h6.st S40 (fun h => h)
    replace h9 := h9.st S40 (fun h => h)
    replace h12 := h12.st S40 (fun h => h)
    replace h15 := h15.st S40 (fun h => h)
    cases q36
    case false =>
      replace hm := iF hm
      refine o_nf rfl rfl  ?_
      (first | refine owp_nilT ?_ | refine owp_nilB ?_ | refine owp_nilBB ?_ | refine owp_nil ?_)
      refine ewp_true rfl ?_
      refine ewp_seq ?_
      refine ewp_region ?_
      refine o_miE rfl rfl  ?_
      refine o_as rfl rfl  ?_
      refine o_as rfl rfl  ?_
      refine o_as rfl rfl  ?_
      (first | refine owp_nilT ?_ | refine owp_nilB ?_ | refine owp_nilBB ?_ | refine owp_nil ?_)
      refine ewp_ret ?_
      obtain rfl := sm hm
      exact ret3 rfl (res_tmp rfl) (res_tmp rfl) (res_tmp rfl) ⟨hB.ext, _, _, _, rfl, (Vb.mono (F := Fr 0 w38 O39) (Vb.nil _ _) hB.out), (vInt (show inI64 (0) from by decide)), (vErr (by decide))⟩
    replace hm := iT hm
    refine o_nt rfl rfl  ?_
    (first | refine owp_nilT ?_ | refine owp_nilB ?_ | refine owp_nilBB ?_ | refine owp_nil ?_)
    refine ewp_false rfl ?_
    refine ewp_skip ?_
    refine ewp_seq ?_
    refine ewp_seq ?_
    refine ewp_region ?_
    refine o_mv rfl rfl  ?_
    refine o_ln rfl rfl  ?_
    have l44 : x2.length ≤ 9223372036854775807 := Nat.le_trans hx2.len.2.1 hx2.len.2.2
    have r43 : inI64 (x2.length : Int) := rngNat l44
    refine o_gtS rfl rfl rfl (fun c45 => ?_) fun c45 => ?_
    · replace hm := ip hm c45
      (first | refine owp_nilT ?_ | refine owp_nilB ?_ | refine owp_nilBB ?_ | refine owp_nil ?_)
      refine ewp_true rfl ?_
      refine ewp_seq ?_
      refine ewp_region ?_
      refine o_miE rfl rfl  ?_
      refine o_as rfl rfl  ?_
      refine o_as rfl rfl  ?_
      refine o_as rfl rfl  ?_
      (first | refine owp_nilT ?_ | refine owp_nilB ?_ | refine owp_nilBB ?_ | refine owp_nil ?_)
      refine ewp_ret ?_
      obtain rfl := sm hm
      exact ret3 rfl (res_tmp rfl) (res_tmp rfl) (res_tmp rfl) ⟨hB.ext, _, _, _, rfl, (Vb.mono (F := Fr 0 w38 O39) (Vb.nil _ _) hB.out), (vInt (show inI64 (0) from by decide)), (vErr (by decide))⟩
    · replace hm := im hm c45
      (first | refine owp_nilT ?_ | refine owp_nilB ?_ | refine owp_nilBB ?_ | refine owp_nil ?_)
      refine ewp_false rfl ?_
      refine ewp_skip ?_
      refine ewp_seq ?_
      refine ewp_region ?_
      refine o_as rfl rfl  ?_
      (first | refine owp_nilT ?_ | refine owp_nilB ?_ | refine owp_nilBB ?_ | refine owp_nil ?_)
      refine ewp_seq ?_
      refine ewp_region ?_
      refine o_mv rfl rfl  ?_
      obtain ⟨q46, e47, hm⟩ := bs hm
      refine l_callRow 3 (by decide) (O := O39) (c_slices_Clone_Lint_int Fr.lt hx1 e47) rfl rfl fun A53 c54 w48 O49 S50 h51 => ?_
      replace hB := hB.st S50 (fun h => h) (fun h => h)
      replace hx2 := hx2.st S50 (fun h => h)
      replace h26 := h26.st S50 (fun h => h)
      replace h6 := h6.st S50 (fun h => h)
      replace h9 := h9.st S50 (fun h => h)
      replace h12 := h12.st S50 (fun h => h)
      replace h15 := h15.st S50 (fun h => h)
      refine o_as rfl rfl  ?_
      (first | refine owp_nilT ?_ | refine owp_nilB ?_ | refine owp_nilBB ?_ | refine owp_nil ?_)
      refine ewp_seq ?_
      refine ewp_seq ?_
      refine ewp_region ?_
      refine o_mv rfl rfl  ?_
      refine o_ln rfl rfl  ?_
      have l57 : x2.length ≤ 9223372036854775807 := Nat.le_trans hx2.len.2.1 hx2.len.2.2
      have r56 : inI64 (x2.length : Int) := rngNat l57
      refine o_mv rfl rfl  ?_
      (first | refine owp_nilT ?_ | refine owp_nilB ?_ | refine owp_nilBB ?_ | refine owp_nil ?_)
      obtain ⟨res58, hL59, hm⟩ := bs hm
      refine ewp_join (aft res58 (fun (s60 : (List Int) × Int) (x61 : (Option Addr × Nat)) => [(1, (.slice x61.1 s60.1.length x61.2)), (10, (.int .i64 s60.2))]) (fun s60 x61 w' => ∃ O' : Lab, Bs w A w' O' ∧ Vb w' (Fr 0 w' O') (.slice x61.1 s60.1.length x61.2) s60.1 ∧ inI64 s60.2)) ?_ ?_
      · refine ewp_block ?_
        obtain ⟨O77, S78, h51⟩ := h51.freeze
        replace hB := hB.st S78 (by decide) (by decide)
        replace h26 := h26.st S78 (by decide)
        replace h6 := h6.st S78 (by decide)
        replace h9 := h9.st S78 (by decide)
        replace h12 := h12.st S78 (by decide)
        replace h15 := h15.st S78 (by decide)
        replace hx2 := hx2.st S78 (by decide)
        refine ewp_rng (σ := (List Int) × Int) (X := (Option Addr × Nat)) (x2.length) hL59 rfl l57 (fun (s60 : (List Int) × Int) (x61 : (Option Addr × Nat)) => [(1, (.slice x61.1 s60.1.length x61.2)), (3, (.pointer (some ⟨g22, 0, none⟩))), (10, (.int .i64 s60.2)), (32, (.slice A20 x2.length c21))]) _ (fun s60 x61 w' => ∃ O' : Lab, Bs w A w' O' ∧ Vb w' (Fr 0 w' O') (.slice x61.1 s60.1.length x61.2) s60.1 ∧ Lc 2 w' O' g22 26 [(.slice A7 x0.vars.length c8), (.slice A10 x0.init.length c11), (.slice A13 x0.goal.length c14), (.slice A16 x0.ops.length c17)] ∧ Vb w' (Fr 0 w' O') (.slice A7 x0.vars.length c8) x0.vars ∧ Vb w' (Fr 0 w' O') (.slice A10 x0.init.length c11) x0.init ∧ Vb w' (Fr 0 w' O') (.slice A13 x0.goal.length c14) x0.goal ∧ Vb w' (Fr 0 w' O') (.slice A16 x0.ops.length c17) x0.ops ∧ Vb w' (Fr 0 w' O') (.slice A20 x2.length c21) x2 ∧ inI64 s60.2) _ (A53, c54) ⟨O77, hB, h51, h26, h6, h9, h12, h15, hx2, (show inI64 (0) from by decide)⟩ ⟨rfl, rfl, rfl, rfl, rfl, rfl, trivial⟩ (fun _ _ => ⟨rfl, rfl⟩) (fun _ _ => ⟨rfl, rfl, trivial⟩) (fun _ _ _ ⟨O', hB, h75, h26, h6, h9, h12, h15, hx2, r76⟩ => ⟨O', hB, h75, r76⟩) ⟨rfl, rfl, rfl⟩ ⟨rfl, rfl⟩ ?_
        rintro k62 a63 s60 x61 w64 cc66 hx67 ⟨O65, hB, h75, h26, h6, h9, h12, h15, hx2, r76⟩ hf68 hret69 hbrk70
        have rk62 : inI64 (k62 : Int) := rngK hx67 l57
        refine ewp_seq ?_
        refine ewp_region ?_
        obtain ⟨b79, o80, ce81, hA82, hl83, hd84, rfl, r86⟩ := hx2.elem' hx67
        refine o_iaE (hA := hA82) (hj := rfl) (hlt := hl83) rfl rfl rfl  ?_
        refine o_ld (hc := cat0 hd84) rfl rfl  ?_
        refine o_as rfl rfl  ?_
        (first | refine owp_nilT ?_ | refine owp_nilB ?_ | refine owp_nilBB ?_ | refine owp_nil ?_)
        refine ewp_seq ?_
        refine ewp_region ?_
        refine o_la (hl := rfl) (hc := (h26.1).cellsAt) rfl rfl  ?_
        refine o_mv rfl rfl  ?_
        refine o_mv rfl rfl  ?_
        obtain ⟨q87, e88, hf68⟩ := bs hf68
        refine l_call (O := O65) (R := fun w' F v => T2 w' F v q87) (c_task_apply Fr.lt (Vb.ofAgg (cs := [(.slice A7 x0.vars.length c8), (.slice A10 x0.init.length c11), (.slice A13 x0.goal.length c14), (.slice A16 x0.ops.length c17)]) (x := x0) rfl ⟨_, _, _, _, rfl, h6, h9, h12, h15⟩) h75 r86 e88) rfl rfl fun v93 w89 O90 S91 h92 => ?_
        obtain ⟨v94, v95, rfl, h96, h97⟩ := h92
        obtain ⟨A98, c99, rfl⟩ := h96.form
        obtain ⟨rfl, r100⟩ := h97.err
        replace hB := hB.st S91 (fun h => h) (fun h => h)
        replace h26 := h26.st S91 (fun h => h)
        replace h6 := h6.st S91 (fun h => h)
        replace h9 := h9.st S91 (fun h => h)
        replace h12 := h12.st S91 (fun h => h)
        replace h15 := h15.st S91 (fun h => h)
        replace hx2 := hx2.st S91 (fun h => h)
        refine o_mv rfl rfl  ?_
        refine o_ex rfl rfl rfl  ?_
        refine o_ex rfl rfl rfl  ?_
        refine o_as rfl rfl  ?_
        refine o_as rfl rfl  ?_
        (first | refine owp_nilT ?_ | refine owp_nilB ?_ | refine owp_nilBB ?_ | refine owp_nil ?_)
        refine ewp_seq ?_
        refine ewp_seq ?_
        refine ewp_region ?_
        refine o_mv rfl rfl  ?_
        refine o_rnS rfl rfl (fun c101 => ?_) fun c101 => ?_
        · replace hf68 := ip hf68 c101
          (first | refine owp_nilT ?_ | refine owp_nilB ?_ | refine owp_nilBB ?_ | refine owp_nil ?_)
          refine ewp_true rfl ?_
          refine ewp_seq ?_
          refine ewp_region ?_
          refine o_mv rfl rfl  ?_
          refine o_as rfl rfl  ?_
          refine o_as rfl rfl  ?_
          refine o_as rfl rfl  ?_
          (first | refine owp_nilT ?_ | refine owp_nilB ?_ | refine owp_nilBB ?_ | refine owp_nil ?_)
          refine ewp_ret ?_
          obtain rfl := sm hf68
          obtain rfl := hret69 _ rfl
          obtain rfl := sm (fin_ret hm)
          exact ret3 rfl (res_tmp rfl) (res_tmp rfl) (res_tmp rfl) ⟨hB.ext, _, _, _, rfl, (Vb.mono (F := Fr 0 w89 O90) (Vb.nil _ _) hB.out), (vInt (show inI64 (0) from by decide)), (vErr r100)⟩
        · replace hf68 := im hf68 c101
          (first | refine owp_nilT ?_ | refine owp_nilB ?_ | refine owp_nilBB ?_ | refine owp_nil ?_)
          refine ewp_false rfl ?_
          refine ewp_skip ?_
          refine ewp_draw (· = w89) [(0, true), (1, true), (2, true), (3, true), (4, true), (5, true), (6, true), (7, true), (8, true), (9, true), (10, true)] (by kernel_rfl) rfl (by kernel_rfl) rfl ?_
          refine h_mv rfl rfl rfl  ?_
          refine h_mv rfl rfl rfl  ?_
          refine h_fa rfl rfl rfl  ?_
          refine h_ldA (hc := Blk.cell (i := 3) (h26.1) rfl) rfl rfl rfl  ?_
          refine h_mv rfl rfl rfl  ?_
          obtain ⟨a102, e103, hf68⟩ := bs hf68
          obtain ⟨p105, x104⟩ := atI_some' e103
          obtain ⟨b106, o107, ce108, hA109, hl110, hd111, v113, v114, rfl, h115, h118, r121, z122⟩ := h15.elem' x104
          obtain ⟨A116, c117, rfl⟩ := h115.form
          obtain ⟨A119, c120, rfl⟩ := h118.form
          refine h_iaE (hA := hA109) (hj := (Int.toNat_of_nonneg p105).symm) (hlt := hl110) rfl rfl rfl rfl  ?_
          refine h_fa rfl rfl rfl  ?_
          refine h_ldA (hc := cat1 hd111) rfl rfl rfl  ?_
          obtain ⟨n123, e124, hf68⟩ := bs hf68
          have r125 := (chkI_rng e124)
          refine h_adE (he := e124) rfl rfl rfl rfl  ?_
          refine h_as rfl rfl rfl  ?_
          refine h_as rfl rfl rfl  ?_
          (first | refine hwp_nilT ?_ | refine hwp_nilB ?_ | refine hwp_nil ?_)
          obtain rfl := sm hf68
          refine (?_ : Exists _)
          exact ⟨_, (A98, c99), rfl, ⟨rfl, rfl, rfl, rfl, rfl, rfl, trivial⟩, _, hB, h96, h26, h6, h9, h12, h15, hx2, r125⟩
      rintro l126 w127 ⟨s130, x131, rfl, hs129, O128, hB, h75, r76⟩
      replace hm := fin_done hm
      refine ewp_sub _ hs129 ?_
      refine ewp_seq ?_
      refine ewp_region ?_
      refine o_mv rfl rfl  ?_
      refine o_mv rfl rfl  ?_
      refine o_as rfl rfl  ?_
      refine o_as rfl rfl  ?_
      refine o_as rfl rfl  ?_
      (first | refine owp_nilT ?_ | refine owp_nilB ?_ | refine owp_nilBB ?_ | refine owp_nil ?_)
      refine ewp_ret ?_
      obtain rfl := sm hm
      exact ret3 rfl (res_tmp rfl) (res_tmp rfl) (res_tmp rfl) ⟨hB.ext, _, _, _, rfl, (Vb.mono (F := Fr 0 w127 O128) h75 hB.out), (vInt r76), (vErr (show inI64 0 from by decide))⟩
noncomputable def m_task_Solves (x0 : Tsk) (x1 : List Int) : Option (Int × Err) :=
  bnd (m_task_Run x0 x0.init x1) fun q25 => if q25.2.2.n ≠ 0 then (some (0, (⟨q25.2.2.n⟩ : Err))) else (bnd (m_task_Holds x0.goal q25.1) fun q43 => if q43 = true then some (q25.2.1, (⟨0⟩ : Err)) else some (0, (⟨13⟩ : Err)))
theorem c_task_Solves {w : World} {A : Nat → Prop} (hA : ∀ k, A k → k < w.heap.size) {vx0 : Value} {x0 : Tsk} (hx0 : Vb w A vx0 x0) {vx1 : Value} {x1 : List Int} (hx1 : Vb w A vx1 x1) {r : Int × Err} (hm : m_task_Solves x0 x1 = some r) :
    Fn Try.prog 36 [vx0, vx1] w fun v w' => Ext w w' ∧ T2 w' (upA A w w') v r := by
  obtain ⟨O, hB, hA0⟩ := enter hA
  replace hx0 := hx0.mono hA0
  obtain ⟨cs1, rfl, v2, v3, v4, v5, rfl, h6, h9, h12, h15⟩ := hx0
  obtain ⟨A7, c8, rfl⟩ := h6.form
  obtain ⟨A10, c11, rfl⟩ := h9.form
  obtain ⟨A13, c14, rfl⟩ := h12.form
  obtain ⟨A16, c17, rfl⟩ := h15.form
  replace hx1 := hx1.mono hA0
  obtain ⟨A18, c19, rfl⟩ := hx1.form
  refine fn_enter Try.func36 rfl Try.ntmps36 rfl ?_
  unfold m_task_Solves at hm
  refine ewp_seq ?_
  refine ewp_region ?_
  refine l_box 2 O rfl rfl fun g20 w21 O22 S23 h24 => ?_
  replace h24 : Lc 2 w21 O22 g20 26 [(.slice A7 x0.vars.length c8), (.slice A10 x0.init.length c11), (.slice A13 x0.goal.length c14), (.slice A16 x0.ops.length c17)] := h24
  replace hB := hB.st S23 (fun h => h) (fun h => h)
  replace hx1 := hx1.st S23 (fun h => h)
  replace h6 := h6.st S23 (fun h => h)
  replace h9 := h9.st S23 (fun h => h)
  replace h12 := h12.st S23 (fun h => h)
  replace h15 := h15.st S23 (fun h => h)
  refine o_as rfl rfl  ?_
  refine o_as rfl rfl  ?_
  (first | refine owp_nilT ?_ | refine owp_nilB ?_ | refine owp_nilBB ?_ | refine owp_nil ?_)
  refine ewp_seq ?_
  refine ewp_region ?_
  refine o_la (hl := rfl) (hc := (h24.1).cellsAt) rfl rfl  ?_
  refine o_fa rfl rfl  ?_
  refine o_ld (hc := Blk.cell (i := 1) (h24.1) rfl) rfl rfl  ?_
  refine o_mv rfl rfl  ?_
  obtain ⟨q25, e26, hm⟩ := bs hm
  refine l_call (O := O22) (R := fun w' F v => T3 w' F v q25) (c_task_Run Fr.lt (Vb.ofAgg (cs := [(.slice A7 x0.vars.length c8), (.slice A10 x0.init.length c11), (.slice A13 x0.goal.length c14), (.slice A16 x0.ops.length c17)]) (x := x0) rfl ⟨_, _, _, _, rfl, h6, h9, h12, h15⟩) h9 hx1 e26) rfl rfl fun v31 w27 O28 S29 h30 => ?_
  obtain ⟨v32, v33, v34, rfl, h35, h36, h37⟩ := h30
  obtain ⟨A38, c39, rfl⟩ := h35.form
  obtain ⟨rfl, r40⟩ := h36.int
  obtain ⟨rfl, r41⟩ := h37.err
  replace hB := hB.st S29 (fun h => h) (fun h => h)
  replace h24 := h24.st S29 (fun h => h)
  replace h6 := h6.st S29 (fun h => h)
  replace h9 := h9.st S29 (fun h => h)
  replace h12 := h12.st S29 (fun h => h)
  replace h15 := h15.st S29 (fun h => h)
  refine o_mv rfl rfl  ?_
  refine o_ex rfl rfl rfl  ?_
  refine o_ex rfl rfl rfl  ?_
  refine o_ex rfl rfl rfl  ?_
  refine o_as rfl rfl  ?_
  refine o_as rfl rfl  ?_
  refine o_as rfl rfl  ?_
  (first | refine owp_nilT ?_ | refine owp_nilB ?_ | refine owp_nilBB ?_ | refine owp_nil ?_)
  refine ewp_seq ?_
  refine ewp_seq ?_
  refine ewp_region ?_
  refine o_mv rfl rfl  ?_
  refine o_rnS rfl rfl (fun c42 => ?_) fun c42 => ?_
  · replace hm := ip hm c42
    (first | refine owp_nilT ?_ | refine owp_nilB ?_ | refine owp_nilBB ?_ | refine owp_nil ?_)
    refine ewp_true rfl ?_
    refine ewp_seq ?_
    refine ewp_region ?_
    refine o_mv rfl rfl  ?_
    refine o_as rfl rfl  ?_
    refine o_as rfl rfl  ?_
    (first | refine owp_nilT ?_ | refine owp_nilB ?_ | refine owp_nilBB ?_ | refine owp_nil ?_)
    refine ewp_ret ?_
    obtain rfl := sm hm
    exact ret2 rfl (res_tmp rfl) (res_tmp rfl) ⟨hB.ext, _, _, rfl, (vInt (show inI64 (0) from by decide)), (vErr r41)⟩
  · replace hm := im hm c42
    (first | refine owp_nilT ?_ | refine owp_nilB ?_ | refine owp_nilBB ?_ | refine owp_nil ?_)
    refine ewp_false rfl ?_
    refine ewp_skip ?_
    refine ewp_seq ?_
    refine ewp_seq ?_
    refine ewp_region ?_
    refine o_fa rfl rfl  ?_
    refine o_ld (hc := Blk.cell (i := 2) (h24.1) rfl) rfl rfl  ?_
    refine o_mv rfl rfl  ?_
    obtain ⟨q43, e44, hm⟩ := bs hm
    refine l_callA (O := O28) (A := All w27) (R := fun w' F v => Vb w' F v q43) (c_task_Holds (fun _ h => h) (Vb.mono (F := Fr 0 w27 O28) h12 Fr.lt) (Vb.mono (F := Fr 0 w27 O28) h35 Fr.lt) e44) rfl rfl fun v49 w45 O46 S47 h48 => ?_
    obtain rfl := h48.bool
    replace hB := hB.st S47 (fun h => h) (fun h => h)
    cases q43
    case false =>
      replace hm := iF hm
      refine o_nf rfl rfl  ?_
      (first | refine owp_nilT ?_ | refine owp_nilB ?_ | refine owp_nilBB ?_ | refine owp_nil ?_)
      refine ewp_true rfl ?_
      refine ewp_seq ?_
      refine ewp_region ?_
      refine o_miE rfl rfl  ?_
      refine o_as rfl rfl  ?_
      refine o_as rfl rfl  ?_
      (first | refine owp_nilT ?_ | refine owp_nilB ?_ | refine owp_nilBB ?_ | refine owp_nil ?_)
      refine ewp_ret ?_
      obtain rfl := sm hm
      exact ret2 rfl (res_tmp rfl) (res_tmp rfl) ⟨hB.ext, _, _, rfl, (vInt (show inI64 (0) from by decide)), (vErr (by decide))⟩
    replace hm := iT hm
    refine o_nt rfl rfl  ?_
    (first | refine owp_nilT ?_ | refine owp_nilB ?_ | refine owp_nilBB ?_ | refine owp_nil ?_)
    refine ewp_false rfl ?_
    refine ewp_skip ?_
    refine ewp_seq ?_
    refine ewp_region ?_
    refine o_mv rfl rfl  ?_
    refine o_as rfl rfl  ?_
    refine o_as rfl rfl  ?_
    (first | refine owp_nilT ?_ | refine owp_nilB ?_ | refine owp_nilBB ?_ | refine owp_nil ?_)
    refine ewp_ret ?_
    obtain rfl := sm hm
    exact ret2 rfl (res_tmp rfl) (res_tmp rfl) ⟨hB.ext, _, _, rfl, (vInt r40), (vErr (show inI64 0 from by decide))⟩
noncomputable def m_law51_SymmetryKeeps (x0 : Tsk) (x1 : Swp) (x2 : List Int) : Option Bool :=
  bnd (bnd (m_base_Small x0) fun q47 => if q47 = true then bnd (m_law51_long x1) fun q54 => if q54 = true then some true else if 30 < (x2.length : Int) then (some true) else (bnd (m_law51_awake) fun q64 => if q64 = true then some false else some true) else some true : Option Bool) fun y43 => if y43 = true then (bnd (bnd (m_law51_awake) fun q80 => if q80 = true then some true else some false : Option Bool) fun y76 => some y76) else (bnd (m_symmetry_Check x0 x1) fun q91 => if q91 = true then bnd (m_base_Distances x0) fun q98 => bnd (m_base_States x0.vars) fun q107 => bnd (rng (ρ := Bool) (fun (k122 : Nat) (a123 : List Int) (s120 : Unit) => bnd (m_symmetry_State x0 x1 a123) fun q144 => bnd (if q144.2.n ≠ 0 then (some true) else (bnd (m_base_State x0.vars q144.1) fun q163 => if q163 = true then bnd (q98[k122]?) fun a170 => bnd (m_base_Rank x0.vars q144.1) fun q180 => bnd (atI q98 q180) fun a188 => if a188 ≠ a170 then (some true) else (some false) else some true) : Option Bool) fun y158 => if y158 = true then (some (.ret false)) else (bnd (rng (ρ := Ctl Unit Bool) (fun (k212 : Nat) (a213 : Opr) (s210 : Unit) => bnd (if (x1.ops.length : Int) ≤ (k212 : Int) then (some true) else (bnd (x1.ops[k212]?) fun a230 => if a230 < 0 then (some true) else (bnd (x1.ops[k212]?) fun a241 => if (x0.ops.length : Int) ≤ a241 then (some true) else (some false))) : Option Bool) fun y223 => if y223 = true then (some (.ret (.ret false))) else (bnd (m_base_Apply x0 a123 (k212 : Int)) fun q259 => bnd (x1.ops[k212]?) fun a272 => bnd (m_base_Apply x0 q144.1 a272) fun q282 => bnd (if q259.2 = true then (if q282.2 = true then (some (true, false)) else (some (true, true))) else (if q282.2 = true then (some (false, true)) else (some (false, false))) : Option (Bool × Bool)) fun y295 => if y295.2 = true then (some (.ret (.ret false))) else (if (!y295.1) = true then (some (.next ())) else (bnd (m_symmetry_State x0 x1 q259.1) fun q308 => bnd (if q308.2.n ≠ 0 then (some true) else (bnd (m_base_Ints q308.1 q282.1) fun q327 => if q327 = true then some false else some true) : Option Bool) fun y322 => if y322 = true then (some (.ret (.ret false))) else (some (.next ())))))) x0.ops 0 ()) fun res208 => fin res208 fun (s343 : Unit) => some (.next ()))) q107 0 ()) fun res118 => fin res118 fun (s349 : Unit) => bnd (m_task_Solves x0 x2) fun q351 => if q351.2.n ≠ 0 then (some true) else (bnd (m_symmetry_Plan x0 x1 x2) fun q365 => bnd (m_symmetry_State x0 x1 x0.init) fun q379 => bnd (if q365.2.n ≠ 0 then (some true) else (if q379.2.n ≠ 0 then (some true) else (some false)) : Option Bool) fun y393 => if y393 = true then (some false) else (bnd (m_base_Cost x0 q379.1 q365.1) fun q404 => bnd (if q404.2 = true then (if q404.1 = q351.1 then (some true) else (some false)) else (some false) : Option Bool) fun y416 => some y416)) else some true)
theorem c_law51_SymmetryKeeps {w : World} {A : Nat → Prop} (hA : ∀ k, A k → k < w.heap.size) {vx0 : Value} {x0 : Tsk} (hx0 : Vb w A vx0 x0) {vx1 : Value} {x1 : Swp} (hx1 : Vb w A vx1 x1) {vx2 : Value} {x2 : List Int} (hx2 : Vb w A vx2 x2) {r : Bool} (hm : m_law51_SymmetryKeeps x0 x1 x2 = some r) :
    Fn Try.prog 8 [vx0, vx1, vx2] w fun v w' => Ext w w' ∧ Vb w' (upA A w w') v r := by
  obtain ⟨O, hB, hA0⟩ := enter hA
  replace hx0 := hx0.mono hA0
  obtain ⟨cs1, rfl, v2, v3, v4, v5, rfl, h6, h9, h12, h15⟩ := hx0
  obtain ⟨A7, c8, rfl⟩ := h6.form
  obtain ⟨A10, c11, rfl⟩ := h9.form
  obtain ⟨A13, c14, rfl⟩ := h12.form
  obtain ⟨A16, c17, rfl⟩ := h15.form
  replace hx1 := hx1.mono hA0
  obtain ⟨cs18, rfl, v19, v20, v21, rfl, h22, h25, h28⟩ := hx1
  obtain ⟨A23, c24, rfl⟩ := h22.form
  obtain ⟨A26, c27, rfl⟩ := h25.form
  obtain ⟨A29, c30, rfl⟩ := h28.form
  replace hx2 := hx2.mono hA0
  obtain ⟨A31, c32, rfl⟩ := hx2.form
  refine fn_enter Try.func8 rfl Try.ntmps8 rfl ?_
  unfold m_law51_SymmetryKeeps at hm
  refine ewp_seq ?_
  refine ewp_region ?_
  refine l_box 2 O rfl rfl fun g33 w34 O35 S36 h37 => ?_
  replace h37 : Lc 2 w34 O35 g33 26 [(.slice A7 x0.vars.length c8), (.slice A10 x0.init.length c11), (.slice A13 x0.goal.length c14), (.slice A16 x0.ops.length c17)] := h37
  replace hB := hB.st S36 (fun h => h) (fun h => h)
  replace h22 := h22.st S36 (fun h => h)
  replace h25 := h25.st S36 (fun h => h)
  replace h28 := h28.st S36 (fun h => h)
  replace hx2 := hx2.st S36 (fun h => h)
  replace h6 := h6.st S36 (fun h => h)
  replace h9 := h9.st S36 (fun h => h)
  replace h12 := h12.st S36 (fun h => h)
  replace h15 := h15.st S36 (fun h => h)
  refine l_box 3 O35 rfl rfl fun g38 w39 O40 S41 h42 => ?_
  replace h42 : Lc 3 w39 O40 g38 29 [(.slice A23 x1.vars.length c24), (.slice A26 x1.vals.length c27), (.slice A29 x1.ops.length c30)] := h42
  replace hB := hB.st S41 (fun h => h) (fun h => h)
  replace hx2 := hx2.st S41 (fun h => h)
  replace h37 := h37.st S41 (fun h => h)
  replace h6 := h6.st S41 (fun h => h)
  replace h9 := h9.st S41 (fun h => h)
  replace h12 := h12.st S41 (fun h => h)
  replace h15 := h15.st S41 (fun h => h)
  replace h22 := h22.st S41 (fun h => h)
  replace h25 := h25.st S41 (fun h => h)
  replace h28 := h28.st S41 (fun h => h)
  refine o_as rfl rfl  ?_
  (first | refine owp_nilT ?_ | refine owp_nilB ?_ | refine owp_nilBB ?_ | refine owp_nil ?_)
  refine ewp_seq ?_
  refine ewp_seq ?_
  obtain ⟨y43, hy44, hm⟩ := bs hm
  refine ewp_join (fun l' w' => ∃ (x46 : Unit) (O' : Lab), subs l' [(2, (.slice A31 x2.length c32)), (3, (.pointer (some ⟨g33, 0, none⟩))), (4, (.pointer (some ⟨g38, 0, none⟩))), (41, (.bool y43))] ∧ Bs w A w' O' ∧ Vb w' (Fr 0 w' O') (.slice A31 x2.length c32) x2 ∧ Lc 2 w' O' g33 26 [(.slice A7 x0.vars.length c8), (.slice A10 x0.init.length c11), (.slice A13 x0.goal.length c14), (.slice A16 x0.ops.length c17)] ∧ Vb w' (Fr 0 w' O') (.slice A7 x0.vars.length c8) x0.vars ∧ Vb w' (Fr 0 w' O') (.slice A10 x0.init.length c11) x0.init ∧ Vb w' (Fr 0 w' O') (.slice A13 x0.goal.length c14) x0.goal ∧ Vb w' (Fr 0 w' O') (.slice A16 x0.ops.length c17) x0.ops ∧ Lc 3 w' O' g38 29 [(.slice A23 x1.vars.length c24), (.slice A26 x1.vals.length c27), (.slice A29 x1.ops.length c30)] ∧ Vb w' (Fr 0 w' O') (.slice A23 x1.vars.length c24) x1.vars ∧ Vb w' (Fr 0 w' O') (.slice A26 x1.vals.length c27) x1.vals ∧ Vb w' (Fr 0 w' O') (.slice A29 x1.ops.length c30) x1.ops) ?_ ?_
  · skip
    refine ewp_region ?_
    refine o_la (hl := rfl) (hc := (h37.1).cellsAt) rfl rfl  ?_
    obtain ⟨q47, e48, hy44⟩ := bs hy44
    refine l_callA (O := O40) (A := All w39) (R := fun w' F v => Vb w' F v q47) (c_base_Small (fun _ h => h) (Vb.mono (F := Fr 0 w39 O40) (Vb.ofAgg (cs := [(.slice A7 x0.vars.length c8), (.slice A10 x0.init.length c11), (.slice A13 x0.goal.length c14), (.slice A16 x0.ops.length c17)]) (x := x0) rfl ⟨_, _, _, _, rfl, h6, h9, h12, h15⟩) Fr.lt) e48) rfl rfl fun v53 w49 O50 S51 h52 => ?_
    obtain rfl := h52.bool
    replace hB := hB.st S51 (fun h => h) (fun h => h)
    replace hx2 := hx2.st S51 (fun h => h)
    replace h37 := h37.st S51 (fun h => h)
    replace h6 := h6.st S51 (fun h => h)
    replace h9 := h9.st S51 (fun h => h)
    replace h12 := h12.st S51 (fun h => h)
    replace h15 := h15.st S51 (fun h => h)
    replace h42 := h42.st S51 (fun h => h)
    replace h22 := h22.st S51 (fun h => h)
    replace h25 := h25.st S51 (fun h => h)
    replace h28 := h28.st S51 (fun h => h)
    cases q47
    case false =>
      replace hy44 := iF hy44
      refine o_nf rfl rfl  ?_
      refine o_mv rfl rfl  ?_
      refine owp_no rfl rfl rfl rfl ?_
      refine owp_no rfl rfl rfl rfl ?_
      refine o_pt rfl rfl rfl  ?_
      refine o_mv rfl rfl  ?_
      refine owp_no rfl rfl rfl rfl ?_
      refine owp_no rfl rfl rfl rfl ?_
      refine owp_no rfl rfl rfl rfl ?_
      refine o_pt rfl rfl rfl  ?_
      refine o_mv rfl rfl  ?_
      refine owp_no rfl rfl rfl rfl ?_
      refine owp_no rfl rfl rfl rfl ?_
      refine o_pt rfl rfl rfl  ?_
      (first | refine owp_nilT ?_ | refine owp_nilB ?_ | refine owp_nilBB ?_ | refine owp_nil ?_)
      obtain rfl := sm hy44
      exact ⟨(), _, ⟨rfl, rfl, rfl, rfl, trivial⟩, hB, hx2, h37, h6, h9, h12, h15, h42, h22, h25, h28⟩
    replace hy44 := iT hy44
    refine o_nt rfl rfl  ?_
    refine o_mv rfl rfl  ?_
    refine owp_yes rfl rfl ?_
    refine o_la (hl := rfl) (hc := (h42.1).cellsAt) rfl rfl  ?_
    refine owp_yes rfl rfl ?_
    obtain ⟨q54, e55, hy44⟩ := bs hy44
    refine l_callA (O := O50) (A := All w49) (R := fun w' F v => Vb w' F v q54) (c_law51_long (fun _ h => h) (Vb.mono (F := Fr 0 w49 O50) (Vb.ofAgg (cs := [(.slice A23 x1.vars.length c24), (.slice A26 x1.vals.length c27), (.slice A29 x1.ops.length c30)]) (x := x1) rfl ⟨_, _, _, rfl, h22, h25, h28⟩) Fr.lt) e55) rfl rfl fun v60 w56 O57 S58 h59 => ?_
    obtain rfl := h59.bool
    replace hB := hB.st S58 (fun h => h) (fun h => h)
    replace hx2 := hx2.st S58 (fun h => h)
    replace h37 := h37.st S58 (fun h => h)
    replace h6 := h6.st S58 (fun h => h)
    replace h9 := h9.st S58 (fun h => h)
    replace h12 := h12.st S58 (fun h => h)
    replace h15 := h15.st S58 (fun h => h)
    replace h42 := h42.st S58 (fun h => h)
    replace h22 := h22.st S58 (fun h => h)
    replace h25 := h25.st S58 (fun h => h)
    replace h28 := h28.st S58 (fun h => h)
    cases q54
    case false =>
      replace hy44 := iF hy44
      refine o_pf rfl rfl rfl  ?_
      refine o_mv rfl rfl  ?_
      refine owp_yes rfl rfl ?_
      refine o_mv rfl rfl  ?_
      refine owp_yes rfl rfl ?_
      refine o_ln rfl rfl  ?_
      have l62 : x2.length ≤ 9223372036854775807 := Nat.le_trans hx2.len.2.1 hx2.len.2.2
      have r61 : inI64 (x2.length : Int) := rngNat l62
      refine owp_yes rfl rfl ?_
      refine o_gtS rfl rfl rfl (fun c63 => ?_) fun c63 => ?_
      · replace hy44 := ip hy44 c63
        refine o_pf rfl rfl rfl  ?_
        refine o_mv rfl rfl  ?_
        refine owp_no rfl rfl rfl rfl ?_
        refine owp_no rfl rfl rfl rfl ?_
        refine o_pt rfl rfl rfl  ?_
        (first | refine owp_nilT ?_ | refine owp_nilB ?_ | refine owp_nilBB ?_ | refine owp_nil ?_)
        obtain rfl := sm hy44
        exact ⟨(), _, ⟨rfl, rfl, rfl, rfl, trivial⟩, hB, hx2, h37, h6, h9, h12, h15, h42, h22, h25, h28⟩
      · replace hy44 := im hy44 c63
        refine o_pf rfl rfl rfl  ?_
        refine o_mv rfl rfl  ?_
        refine owp_yes rfl rfl ?_
        obtain ⟨q64, e65, hy44⟩ := bs hy44
        refine l_callA (O := O57) (A := All w56) (R := fun w' F v => Vb w' F v q64) (c_law51_awake (fun _ h => h)  e65) rfl rfl fun v70 w66 O67 S68 h69 => ?_
        obtain rfl := h69.bool
        replace hB := hB.st S68 (fun h => h) (fun h => h)
        replace hx2 := hx2.st S68 (fun h => h)
        replace h37 := h37.st S68 (fun h => h)
        replace h6 := h6.st S68 (fun h => h)
        replace h9 := h9.st S68 (fun h => h)
        replace h12 := h12.st S68 (fun h => h)
        replace h15 := h15.st S68 (fun h => h)
        replace h42 := h42.st S68 (fun h => h)
        replace h22 := h22.st S68 (fun h => h)
        replace h25 := h25.st S68 (fun h => h)
        replace h28 := h28.st S68 (fun h => h)
        cases q64
        case false =>
          replace hy44 := iF hy44
          refine owp_yes rfl rfl ?_
          refine o_nf rfl rfl  ?_
          refine o_pf rfl rfl rfl  ?_
          (first | refine owp_nilT ?_ | refine owp_nilB ?_ | refine owp_nilBB ?_ | refine owp_nil ?_)
          obtain rfl := sm hy44
          exact ⟨(), _, ⟨rfl, rfl, rfl, rfl, trivial⟩, hB, hx2, h37, h6, h9, h12, h15, h42, h22, h25, h28⟩
        replace hy44 := iT hy44
        refine owp_yes rfl rfl ?_
        refine o_nt rfl rfl  ?_
        refine o_pf rfl rfl rfl  ?_
        (first | refine owp_nilT ?_ | refine owp_nilB ?_ | refine owp_nilBB ?_ | refine owp_nil ?_)
        obtain rfl := sm hy44
        exact ⟨(), _, ⟨rfl, rfl, rfl, rfl, trivial⟩, hB, hx2, h37, h6, h9, h12, h15, h42, h22, h25, h28⟩
    replace hy44 := iT hy44
    refine o_pf rfl rfl rfl  ?_
    refine o_mv rfl rfl  ?_
    refine owp_no rfl rfl rfl rfl ?_
    refine owp_no rfl rfl rfl rfl ?_
    refine owp_no rfl rfl rfl rfl ?_
    refine o_pt rfl rfl rfl  ?_
    refine o_mv rfl rfl  ?_
    refine owp_no rfl rfl rfl rfl ?_
    refine owp_no rfl rfl rfl rfl ?_
    refine o_pt rfl rfl rfl  ?_
    (first | refine owp_nilT ?_ | refine owp_nilB ?_ | refine owp_nilBB ?_ | refine owp_nil ?_)
    obtain rfl := sm hy44
    exact ⟨(), _, ⟨rfl, rfl, rfl, rfl, trivial⟩, hB, hx2, h37, h6, h9, h12, h15, h42, h22, h25, h28⟩
  rintro l71 w72 ⟨x46, O73, hs74, hB, hx2, h37, h6, h9, h12, h15, h42, h22, h25, h28⟩
  refine ewp_sub _ hs74 ?_
  refine ewp_cond rfl (fun c75 => ?_) (fun c75 => ?_)
  · replace hm := ip hm c75
    refine ewp_seq ?_
    obtain ⟨y76, hy77, hm⟩ := bs hm
    refine ewp_join (fun l' w' => ∃ (x79 : Unit) (O' : Lab), subs l' [(6, (.bool y76))] ∧ Bs w A w' O') ?_ ?_
    · skip
      refine ewp_region ?_
      obtain ⟨q80, e81, hy77⟩ := bs hy77
      refine l_callA (O := O73) (A := All w72) (R := fun w' F v => Vb w' F v q80) (c_law51_awake (fun _ h => h)  e81) rfl rfl fun v86 w82 O83 S84 h85 => ?_
      obtain rfl := h85.bool
      replace hB := hB.st S84 (fun h => h) (fun h => h)
      cases q80
      case false =>
        replace hy77 := iF hy77
        refine o_as rfl rfl  ?_
        (first | refine owp_nilT ?_ | refine owp_nilB ?_ | refine owp_nilBB ?_ | refine owp_nil ?_)
        obtain rfl := sm hy77
        exact ⟨(), _, ⟨rfl, trivial⟩, hB⟩
      replace hy77 := iT hy77
      refine o_as rfl rfl  ?_
      (first | refine owp_nilT ?_ | refine owp_nilB ?_ | refine owp_nilBB ?_ | refine owp_nil ?_)
      obtain rfl := sm hy77
      exact ⟨(), _, ⟨rfl, trivial⟩, hB⟩
    rintro l87 w88 ⟨x79, O89, hs90, hB⟩
    refine ewp_sub _ hs90 ?_
    refine ewp_ret ?_
    obtain rfl := sm hm
    exact ret1v rfl (res_tmp rfl) ⟨hB.ext, vBool⟩
  · replace hm := im' hm c75
    refine ewp_skip ?_
    refine ewp_seq ?_
    refine ewp_seq ?_
    refine ewp_region ?_
    refine o_la (hl := rfl) (hc := (h37.1).cellsAt) rfl rfl  ?_
    refine o_la (hl := rfl) (hc := (h42.1).cellsAt) rfl rfl  ?_
    obtain ⟨q91, e92, hm⟩ := bs hm
    refine l_callA (O := O73) (A := All w72) (R := fun w' F v => Vb w' F v q91) (c_symmetry_Check (fun _ h => h) (Vb.mono (F := Fr 0 w72 O73) (Vb.ofAgg (cs := [(.slice A7 x0.vars.length c8), (.slice A10 x0.init.length c11), (.slice A13 x0.goal.length c14), (.slice A16 x0.ops.length c17)]) (x := x0) rfl ⟨_, _, _, _, rfl, h6, h9, h12, h15⟩) Fr.lt) (Vb.mono (F := Fr 0 w72 O73) (Vb.ofAgg (cs := [(.slice A23 x1.vars.length c24), (.slice A26 x1.vals.length c27), (.slice A29 x1.ops.length c30)]) (x := x1) rfl ⟨_, _, _, rfl, h22, h25, h28⟩) Fr.lt) e92) rfl rfl fun v97 w93 O94 S95 h96 => ?_
    obtain rfl := h96.bool
    replace hB := hB.st S95 (fun h => h) (fun h => h)
    replace hx2 := hx2.st S95 (fun h => h)
    replace h37 := h37.st S95 (fun h => h)
    replace h6 := h6.st S95 (fun h => h)
    replace h9 := h9.st S95 (fun h => h)
    replace h12 := h12.st S95 (fun h => h)
    replace h15 := h15.st S95 (fun h => h)
    replace h42 := h42.st S95 (fun h => h)
    replace h22 := h22.st S95 (fun h => h)
    replace h25 := h25.st S95 (fun h => h)
    replace h28 := h28.st S95 (fun h => h)
    cases q91
    case false =>
      replace hm := iF hm
      refine o_nf rfl rfl  ?_
      (first | refine owp_nilT ?_ | refine owp_nilB ?_ | refine owp_nilBB ?_ | refine owp_nil ?_)
      refine ewp_true rfl ?_
      refine ewp_seq ?_
      refine ewp_region ?_
      refine o_as rfl rfl  ?_
      (first | refine owp_nilT ?_ | refine owp_nilB ?_ | refine owp_nilBB ?_ | refine owp_nil ?_)
      refine ewp_ret ?_
      obtain rfl := sm hm
      exact ret1v rfl (res_tmp rfl) ⟨hB.ext, vBool⟩
    replace hm := iT hm
    refine o_nt rfl rfl  ?_
    (first | refine owp_nilT ?_ | refine owp_nilB ?_ | refine owp_nilBB ?_ | refine owp_nil ?_)
    refine ewp_false rfl ?_
    refine ewp_skip ?_
    refine ewp_seq ?_
    refine ewp_region ?_
    refine o_la (hl := rfl) (hc := (h37.1).cellsAt) rfl rfl  ?_
    obtain ⟨q98, e99, hm⟩ := bs hm
    refine l_call (O := O94) (R := fun w' F v => Vb w' F v q98) (c_base_Distances Fr.lt (Vb.ofAgg (cs := [(.slice A7 x0.vars.length c8), (.slice A10 x0.init.length c11), (.slice A13 x0.goal.length c14), (.slice A16 x0.ops.length c17)]) (x := x0) rfl ⟨_, _, _, _, rfl, h6, h9, h12, h15⟩) e99) rfl rfl fun v104 w100 O101 S102 h103 => ?_
    obtain ⟨A105, c106, rfl⟩ := h103.form
    replace hB := hB.st S102 (fun h => h) (fun h => h)
    replace hx2 := hx2.st S102 (fun h => h)
    replace h37 := h37.st S102 (fun h => h)
    replace h6 := h6.st S102 (fun h => h)
    replace h9 := h9.st S102 (fun h => h)
    replace h12 := h12.st S102 (fun h => h)
    replace h15 := h15.st S102 (fun h => h)
    replace h42 := h42.st S102 (fun h => h)
    replace h22 := h22.st S102 (fun h => h)
    replace h25 := h25.st S102 (fun h => h)
    replace h28 := h28.st S102 (fun h => h)
    refine o_as rfl rfl  ?_
    (first | refine owp_nilT ?_ | refine owp_nilB ?_ | refine owp_nilBB ?_ | refine owp_nil ?_)
    refine ewp_seq ?_
    refine ewp_seq ?_
    refine ewp_region ?_
    refine o_fa rfl rfl  ?_
    refine o_ld (hc := Blk.cell (i := 0) (h37.1) rfl) rfl rfl  ?_
    obtain ⟨q107, e108, hm⟩ := bs hm
    refine l_call (O := O101) (R := fun w' F v => Vb w' F v q107) (c_base_States Fr.lt h6 e108) rfl rfl fun v113 w109 O110 S111 h112 => ?_
    obtain ⟨A114, c115, rfl⟩ := h112.form
    replace hB := hB.st S111 (fun h => h) (fun h => h)
    replace hx2 := hx2.st S111 (fun h => h)
    replace h37 := h37.st S111 (fun h => h)
    replace h6 := h6.st S111 (fun h => h)
    replace h9 := h9.st S111 (fun h => h)
    replace h12 := h12.st S111 (fun h => h)
    replace h15 := h15.st S111 (fun h => h)
    replace h42 := h42.st S111 (fun h => h)
    replace h22 := h22.st S111 (fun h => h)
    replace h25 := h25.st S111 (fun h => h)
    replace h28 := h28.st S111 (fun h => h)
    replace h103 := h103.st S111 (fun h => h)
    refine o_ln rfl rfl  ?_
    have l117 : q107.length ≤ 9223372036854775807 := Nat.le_trans h112.len.2.1 h112.len.2.2
    have r116 : inI64 (q107.length : Int) := rngNat l117
    refine o_mv rfl rfl  ?_
    (first | refine owp_nilT ?_ | refine owp_nilB ?_ | refine owp_nilBB ?_ | refine owp_nil ?_)
    obtain ⟨res118, hL119, hm⟩ := bs hm
    refine ewp_join (aft res118 (fun (s120 : Unit) (x121 : Unit) => [(2, (.slice A31 x2.length c32)), (3, (.pointer (some ⟨g33, 0, none⟩))), (4, (.pointer (some ⟨g38, 0, none⟩)))]) (fun s120 x121 w' => ∃ O' : Lab, Bs w A w' O' ∧ Vb w' (Fr 0 w' O') (.slice A31 x2.length c32) x2 ∧ Lc 2 w' O' g33 26 [(.slice A7 x0.vars.length c8), (.slice A10 x0.init.length c11), (.slice A13 x0.goal.length c14), (.slice A16 x0.ops.length c17)] ∧ Vb w' (Fr 0 w' O') (.slice A7 x0.vars.length c8) x0.vars ∧ Vb w' (Fr 0 w' O') (.slice A10 x0.init.length c11) x0.init ∧ Vb w' (Fr 0 w' O') (.slice A13 x0.goal.length c14) x0.goal ∧ Vb w' (Fr 0 w' O') (.slice A16 x0.ops.length c17) x0.ops ∧ Lc 3 w' O' g38 29 [(.slice A23 x1.vars.length c24), (.slice A26 x1.vals.length c27), (.slice A29 x1.ops.length c30)] ∧ Vb w' (Fr 0 w' O') (.slice A23 x1.vars.length c24) x1.vars ∧ Vb w' (Fr 0 w' O') (.slice A26 x1.vals.length c27) x1.vals ∧ Vb w' (Fr 0 w' O') (.slice A29 x1.ops.length c30) x1.ops)) ?_ ?_
    · refine ewp_block ?_
      refine ewp_rng (σ := Unit) (X := Unit) (q107.length) hL119 rfl l117 (fun (s120 : Unit) (x121 : Unit) => [(2, (.slice A31 x2.length c32)), (3, (.pointer (some ⟨g33, 0, none⟩))), (4, (.pointer (some ⟨g38, 0, none⟩))), (7, (.slice A105 q98.length c106)), (51, (.slice A114 q107.length c115))]) _ (fun s120 x121 w' => ∃ O' : Lab, Bs w A w' O' ∧ Vb w' (Fr 0 w' O') (.slice A31 x2.length c32) x2 ∧ Lc 2 w' O' g33 26 [(.slice A7 x0.vars.length c8), (.slice A10 x0.init.length c11), (.slice A13 x0.goal.length c14), (.slice A16 x0.ops.length c17)] ∧ Vb w' (Fr 0 w' O') (.slice A7 x0.vars.length c8) x0.vars ∧ Vb w' (Fr 0 w' O') (.slice A10 x0.init.length c11) x0.init ∧ Vb w' (Fr 0 w' O') (.slice A13 x0.goal.length c14) x0.goal ∧ Vb w' (Fr 0 w' O') (.slice A16 x0.ops.length c17) x0.ops ∧ Lc 3 w' O' g38 29 [(.slice A23 x1.vars.length c24), (.slice A26 x1.vals.length c27), (.slice A29 x1.ops.length c30)] ∧ Vb w' (Fr 0 w' O') (.slice A23 x1.vars.length c24) x1.vars ∧ Vb w' (Fr 0 w' O') (.slice A26 x1.vals.length c27) x1.vals ∧ Vb w' (Fr 0 w' O') (.slice A29 x1.ops.length c30) x1.ops ∧ Vb w' (Fr 0 w' O') (.slice A105 q98.length c106) q98 ∧ Vb w' (Fr 0 w' O') (.slice A114 q107.length c115) q107) _ () ⟨O110, hB, hx2, h37, h6, h9, h12, h15, h42, h22, h25, h28, h103, h112⟩ ⟨rfl, rfl, rfl, rfl, rfl, rfl, rfl, trivial⟩ (fun _ _ => ⟨rfl, rfl⟩) (fun _ _ => ⟨rfl, rfl, rfl, trivial⟩) (fun _ _ _ ⟨O', hB, hx2, h37, h6, h9, h12, h15, h42, h22, h25, h28, h103, h112⟩ => ⟨O', hB, hx2, h37, h6, h9, h12, h15, h42, h22, h25, h28⟩) ⟨rfl, rfl, rfl⟩ ⟨rfl, rfl⟩ ?_
      rintro k122 a123 s120 x121 w124 cc126 hx127 ⟨O125, hB, hx2, h37, h6, h9, h12, h15, h42, h22, h25, h28, h103, h112⟩ hf128 hret129 hbrk130
      have rk122 : inI64 (k122 : Int) := rngK hx127 l117
      refine ewp_seq ?_
      refine ewp_region ?_
      refine o_mv rfl rfl  ?_
      obtain ⟨b133, o134, ce135, hA136, hl137, hd138, v140, rfl, h141⟩ := h112.elem' hx127
      replace h141 := Vb.of_slice h141
      obtain ⟨A142, c143, rfl⟩ := h141.form
      refine o_iaE (hA := hA136) (hj := rfl) (hlt := hl137) rfl rfl rfl  ?_
      refine o_ld (hc := cat0 hd138) rfl rfl  ?_
      refine o_as rfl rfl  ?_
      refine o_as rfl rfl  ?_
      (first | refine owp_nilT ?_ | refine owp_nilB ?_ | refine owp_nilBB ?_ | refine owp_nil ?_)
      refine ewp_seq ?_
      refine ewp_region ?_
      refine o_la (hl := rfl) (hc := (h37.1).cellsAt) rfl rfl  ?_
      refine o_la (hl := rfl) (hc := (h42.1).cellsAt) rfl rfl  ?_
      refine o_mv rfl rfl  ?_
      obtain ⟨q144, e145, hf128⟩ := bs hf128
      refine l_call (O := O125) (R := fun w' F v => T2 w' F v q144) (c_symmetry_State Fr.lt (Vb.ofAgg (cs := [(.slice A7 x0.vars.length c8), (.slice A10 x0.init.length c11), (.slice A13 x0.goal.length c14), (.slice A16 x0.ops.length c17)]) (x := x0) rfl ⟨_, _, _, _, rfl, h6, h9, h12, h15⟩) (Vb.ofAgg (cs := [(.slice A23 x1.vars.length c24), (.slice A26 x1.vals.length c27), (.slice A29 x1.ops.length c30)]) (x := x1) rfl ⟨_, _, _, rfl, h22, h25, h28⟩) h141 e145) rfl rfl fun v150 w146 O147 S148 h149 => ?_
      obtain ⟨v151, v152, rfl, h153, h154⟩ := h149
      obtain ⟨A155, c156, rfl⟩ := h153.form
      obtain ⟨rfl, r157⟩ := h154.err
      replace hB := hB.st S148 (fun h => h) (fun h => h)
      replace hx2 := hx2.st S148 (fun h => h)
      replace h37 := h37.st S148 (fun h => h)
      replace h6 := h6.st S148 (fun h => h)
      replace h9 := h9.st S148 (fun h => h)
      replace h12 := h12.st S148 (fun h => h)
      replace h15 := h15.st S148 (fun h => h)
      replace h42 := h42.st S148 (fun h => h)
      replace h22 := h22.st S148 (fun h => h)
      replace h25 := h25.st S148 (fun h => h)
      replace h28 := h28.st S148 (fun h => h)
      replace h103 := h103.st S148 (fun h => h)
      replace h141 := h141.st S148 (fun h => h)
      replace h112 := h112.st S148 (fun h => h)
      refine o_mv rfl rfl  ?_
      refine o_ex rfl rfl rfl  ?_
      refine o_ex rfl rfl rfl  ?_
      refine o_as rfl rfl  ?_
      refine o_as rfl rfl  ?_
      (first | refine owp_nilT ?_ | refine owp_nilB ?_ | refine owp_nilBB ?_ | refine owp_nil ?_)
      refine ewp_seq ?_
      refine ewp_seq ?_
      obtain ⟨y158, hy159, hf128⟩ := bs hf128
      refine ewp_join (fun l' w' => ∃ (x161 : Unit) (O' : Lab), subs l' [(2, (.slice A31 x2.length c32)), (3, (.pointer (some ⟨g33, 0, none⟩))), (4, (.pointer (some ⟨g38, 0, none⟩))), (7, (.slice A105 q98.length c106)), (9, (.slice A142 a123.length c143)), (10, (.slice A155 q144.1.length c156)), (51, (.slice A114 q107.length c115)), (52, (.int .i64 (q107.length : Int))), (53, (.int .i64 (k122 : Int))), (87, (.bool y158))] ∧ Bs w A w' O' ∧ Vb w' (Fr 0 w' O') (.slice A31 x2.length c32) x2 ∧ Lc 2 w' O' g33 26 [(.slice A7 x0.vars.length c8), (.slice A10 x0.init.length c11), (.slice A13 x0.goal.length c14), (.slice A16 x0.ops.length c17)] ∧ Vb w' (Fr 0 w' O') (.slice A7 x0.vars.length c8) x0.vars ∧ Vb w' (Fr 0 w' O') (.slice A10 x0.init.length c11) x0.init ∧ Vb w' (Fr 0 w' O') (.slice A13 x0.goal.length c14) x0.goal ∧ Vb w' (Fr 0 w' O') (.slice A16 x0.ops.length c17) x0.ops ∧ Lc 3 w' O' g38 29 [(.slice A23 x1.vars.length c24), (.slice A26 x1.vals.length c27), (.slice A29 x1.ops.length c30)] ∧ Vb w' (Fr 0 w' O') (.slice A23 x1.vars.length c24) x1.vars ∧ Vb w' (Fr 0 w' O') (.slice A26 x1.vals.length c27) x1.vals ∧ Vb w' (Fr 0 w' O') (.slice A29 x1.ops.length c30) x1.ops ∧ Vb w' (Fr 0 w' O') (.slice A105 q98.length c106) q98 ∧ Vb w' (Fr 0 w' O') (.slice A142 a123.length c143) a123 ∧ Vb w' (Fr 0 w' O') (.slice A155 q144.1.length c156) q144.1 ∧ Vb w' (Fr 0 w' O') (.slice A114 q107.length c115) q107) ?_ ?_
      · skip
        have hZ := St.refl (nT) w146 O147
        have zhx2 := hx2
        have zh37 := h37
        have zh6 := h6
        have zh9 := h9
        have zh12 := h12
        have zh15 := h15
        have zh42 := h42
        have zh22 := h22
        have zh25 := h25
        have zh28 := h28
        have zh103 := h103
        have zh141 := h141
        have zh153 := h153
        have zh112 := h112
        refine ewp_drawS (fun w' => ∃ O', St (nT) w146 O147 w' O') ?_
        refine hws_pre (fuel := 17) [(0, true), (1, true), (2, true), (3, true), (4, true), (5, true)] (by kernel_rfl) (by kernel_rfl) (by kernel_rfl) ⟨_, hZ⟩ ?_
        refine h_mv rfl rfl rfl  ?_
        refine hwp_o rfl (hwq_split (fun _ _ => ev_errN rfl) rfl (fun c162 => ?_) (fun c162 => ?_))
        · replace hy159 := ip hy159 c162
          refine h_mv rfl rfl rfl  ?_
          refine h_no rfl rfl rfl rfl rfl ?_
          refine h_no rfl rfl rfl rfl rfl ?_
          refine h_no rfl rfl rfl rfl rfl ?_
          refine hwp_nilT ?_
          refine hws_one (i := 6) (by kernel_rfl) rfl ?_
          refine owp_no rfl rfl rfl rfl ?_
          refine owp_loudS ⟨_, hZ⟩ ?_
          refine hws_pre (fuel := 5) [(7, true), (8, true), (9, true), (10, true), (11, true), (12, true), (13, true), (17, true), (18, true), (19, true), (20, true)] (by kernel_rfl) (by kernel_rfl) (by kernel_rfl) ⟨_, hZ⟩ ?_
          refine h_no rfl rfl rfl rfl rfl ?_
          refine h_pt rfl rfl rfl rfl  ?_
          refine h_mv rfl rfl rfl  ?_
          refine h_no rfl rfl rfl rfl rfl ?_
          refine h_no rfl rfl rfl rfl rfl ?_
          refine h_no rfl rfl rfl rfl rfl ?_
          refine h_no rfl rfl rfl rfl rfl ?_
          refine h_no rfl rfl rfl rfl rfl ?_
          refine h_no rfl rfl rfl rfl rfl ?_
          refine h_no rfl rfl rfl rfl rfl ?_
          refine h_no rfl rfl rfl rfl rfl ?_
          refine hwp_nilT ?_
          refine hws_one (i := 14) (by kernel_rfl) rfl ?_
          refine owp_no rfl rfl rfl rfl ?_
          refine owp_loudS ⟨_, hZ⟩ ?_
          refine hws_pre (fuel := 0) [(15, true), (16, true), (21, true), (22, true)] (by kernel_rfl) (by kernel_rfl) (by kernel_rfl) ⟨_, hZ⟩ ?_
          refine h_no rfl rfl rfl rfl rfl ?_
          refine h_no rfl rfl rfl rfl rfl ?_
          refine h_no rfl rfl rfl rfl rfl ?_
          refine h_pt rfl rfl rfl rfl  ?_
          refine hwp_nilT ?_
          refine hws_nil (by kernel_rfl) ?_
          obtain rfl := sm hy159
          exact ⟨(), _, ⟨rfl, rfl, rfl, rfl, rfl, rfl, rfl, rfl, rfl, rfl, trivial⟩, hB, hx2, h37, h6, h9, h12, h15, h42, h22, h25, h28, h103, h141, h153, h112⟩
        · replace hy159 := im hy159 c162
          refine h_mv rfl rfl rfl  ?_
          refine hwp_o rfl ?_
          refine hwq_yes rfl rfl ?_
          refine g_fa rfl rfl  ?_
          refine hwp_o rfl ?_
          refine hwq_yes rfl rfl ?_
          refine g_ldC (hc := fun w' ⟨O', hq⟩ => Blk.cell (i := 0) ((zh37.st hq (by decide)).1) rfl) rfl rfl  ?_
          refine hwp_o rfl ?_
          refine hwq_yes rfl rfl ?_
          refine g_mv rfl rfl  ?_
          refine hwp_nilT ?_
          refine hws_one (i := 6) (by kernel_rfl) rfl ?_
          refine owp_yes rfl rfl ?_
          obtain ⟨q163, e164, hy159⟩ := bs hy159
          refine l_callA (O := O147) (A := All w146) (R := fun w' F v => Vb w' F v q163) (c_base_State (fun _ h => h) (Vb.mono (F := Fr 0 w146 O147) h6 Fr.lt) (Vb.mono (F := Fr 0 w146 O147) h153 Fr.lt) e164) rfl rfl fun v169 w165 O166 S167 h168 => ?_
          obtain rfl := h168.bool
          replace hZ := hZ.comp S167 (fun _ h => h.elim)
          replace hB := hB.st S167 (fun h => h) (fun h => h)
          replace hx2 := hx2.st S167 (fun h => h)
          replace h37 := h37.st S167 (fun h => h)
          replace h6 := h6.st S167 (fun h => h)
          replace h9 := h9.st S167 (fun h => h)
          replace h12 := h12.st S167 (fun h => h)
          replace h15 := h15.st S167 (fun h => h)
          replace h42 := h42.st S167 (fun h => h)
          replace h22 := h22.st S167 (fun h => h)
          replace h25 := h25.st S167 (fun h => h)
          replace h28 := h28.st S167 (fun h => h)
          replace h103 := h103.st S167 (fun h => h)
          replace h141 := h141.st S167 (fun h => h)
          replace h153 := h153.st S167 (fun h => h)
          replace h112 := h112.st S167 (fun h => h)
          cases q163
          case false =>
            replace hy159 := iF hy159
            refine owp_loudS ⟨_, hZ⟩ ?_
            refine hws_pre (fuel := 5) [(7, true), (8, true), (9, true), (10, true), (11, true), (12, true), (13, true), (17, true), (18, true), (19, true), (20, true)] (by kernel_rfl) (by kernel_rfl) (by kernel_rfl) ⟨_, hZ⟩ ?_
            refine hwp_o rfl ?_
            refine hwq_yes rfl rfl ?_
            refine g_nf rfl rfl  ?_
            refine h_pf rfl rfl rfl rfl  ?_
            refine h_mv rfl rfl rfl  ?_
            refine h_no rfl rfl rfl rfl rfl ?_
            refine h_no rfl rfl rfl rfl rfl ?_
            refine h_no rfl rfl rfl rfl rfl ?_
            refine h_no rfl rfl rfl rfl rfl ?_
            refine h_no rfl rfl rfl rfl rfl ?_
            refine h_no rfl rfl rfl rfl rfl ?_
            refine h_no rfl rfl rfl rfl rfl ?_
            refine h_no rfl rfl rfl rfl rfl ?_
            refine hwp_nilT ?_
            refine hws_one (i := 14) (by kernel_rfl) rfl ?_
            refine owp_no rfl rfl rfl rfl ?_
            refine owp_loudS ⟨_, hZ⟩ ?_
            refine hws_pre (fuel := 0) [(15, true), (16, true), (21, true), (22, true)] (by kernel_rfl) (by kernel_rfl) (by kernel_rfl) ⟨_, hZ⟩ ?_
            refine h_no rfl rfl rfl rfl rfl ?_
            refine h_no rfl rfl rfl rfl rfl ?_
            refine h_no rfl rfl rfl rfl rfl ?_
            refine h_pt rfl rfl rfl rfl  ?_
            refine hwp_nilT ?_
            refine hws_nil (by kernel_rfl) ?_
            obtain rfl := sm hy159
            exact ⟨(), _, ⟨rfl, rfl, rfl, rfl, rfl, rfl, rfl, rfl, rfl, rfl, trivial⟩, hB, hx2, h37, h6, h9, h12, h15, h42, h22, h25, h28, h103, h141, h153, h112⟩
          replace hy159 := iT hy159
          refine owp_loudS ⟨_, hZ⟩ ?_
          refine hws_pre (fuel := 5) [(7, true), (8, true), (9, true), (10, true), (11, true), (12, true), (13, true), (17, true), (18, true), (19, true), (20, true)] (by kernel_rfl) (by kernel_rfl) (by kernel_rfl) ⟨_, hZ⟩ ?_
          refine hwp_o rfl ?_
          refine hwq_yes rfl rfl ?_
          refine g_nt rfl rfl  ?_
          refine h_pf rfl rfl rfl rfl  ?_
          refine h_mv rfl rfl rfl  ?_
          refine hwp_o rfl ?_
          refine hwq_yes rfl rfl ?_
          refine g_mv rfl rfl  ?_
          refine hwp_o rfl ?_
          refine hwq_yes rfl rfl ?_
          refine g_fa rfl rfl  ?_
          refine hwp_o rfl ?_
          refine hwq_yes rfl rfl ?_
          refine g_ldC (hc := fun w' ⟨O', hq⟩ => Blk.cell (i := 0) ((zh37.st hq (by decide)).1) rfl) rfl rfl  ?_
          refine hwp_o rfl ?_
          refine hwq_yes rfl rfl ?_
          refine g_mv rfl rfl  ?_
          refine hwp_o rfl ?_
          refine hwq_yes rfl rfl ?_
          refine g_mv rfl rfl  ?_
          refine hwp_o rfl ?_
          refine hwq_yes rfl rfl ?_
          refine g_mv rfl rfl  ?_
          refine hwp_o rfl ?_
          refine hwq_yes rfl rfl ?_
          obtain ⟨a170, e171, hy159⟩ := bs hy159
          obtain ⟨b172, o173, ce174, hA175, hF178, hl176, hd177, rfl, r179⟩ := zh103.elem e171
          refine g_iaE (hA := hA175) (hj := rfl) (hlt := hl176) rfl rfl rfl  ?_
          refine hwp_o rfl ?_
          refine hwq_yes rfl rfl ?_
          refine g_ldC (hc := fun w' ⟨O', hq⟩ => cat0 (cellsAt_agree (hq.agree (i := 0) (by decide)) hF178 hd177)) rfl rfl  ?_
          refine hwp_nilT ?_
          refine hws_one (i := 14) (by kernel_rfl) rfl ?_
          refine owp_yes rfl rfl ?_
          obtain ⟨q180, e181, hy159⟩ := bs hy159
          refine l_callA (O := O166) (A := All w165) (R := fun w' F v => Vb w' F v q180) (c_base_Rank (fun _ h => h) (Vb.mono (F := Fr 0 w165 O166) h6 Fr.lt) (Vb.mono (F := Fr 0 w165 O166) h153 Fr.lt) e181) rfl rfl fun v186 w182 O183 S184 h185 => ?_
          obtain ⟨rfl, r187⟩ := h185.int
          replace hZ := hZ.comp S184 (fun _ h => h.elim)
          replace hB := hB.st S184 (fun h => h) (fun h => h)
          replace hx2 := hx2.st S184 (fun h => h)
          replace h37 := h37.st S184 (fun h => h)
          replace h6 := h6.st S184 (fun h => h)
          replace h9 := h9.st S184 (fun h => h)
          replace h12 := h12.st S184 (fun h => h)
          replace h15 := h15.st S184 (fun h => h)
          replace h42 := h42.st S184 (fun h => h)
          replace h22 := h22.st S184 (fun h => h)
          replace h25 := h25.st S184 (fun h => h)
          replace h28 := h28.st S184 (fun h => h)
          replace h103 := h103.st S184 (fun h => h)
          replace h141 := h141.st S184 (fun h => h)
          replace h153 := h153.st S184 (fun h => h)
          replace h112 := h112.st S184 (fun h => h)
          refine owp_loudS ⟨_, hZ⟩ ?_
          refine hws_pre (fuel := 0) [(15, true), (16, true), (21, true), (22, true)] (by kernel_rfl) (by kernel_rfl) (by kernel_rfl) ⟨_, hZ⟩ ?_
          refine hwp_o rfl ?_
          refine hwq_yes rfl rfl ?_
          obtain ⟨a188, e189, hy159⟩ := bs hy159
          obtain ⟨p191, x190⟩ := atI_some' e189
          obtain ⟨b192, o193, ce194, hA195, hF198, hl196, hd197, rfl, r199⟩ := zh103.elem x190
          refine g_iaE (hA := hA195) (hj := (Int.toNat_of_nonneg p191).symm) (hlt := hl196) rfl rfl rfl  ?_
          refine hwp_o rfl ?_
          refine hwq_yes rfl rfl ?_
          refine g_ldC (hc := fun w' ⟨O', hq⟩ => cat0 (cellsAt_agree (hq.agree (i := 0) (by decide)) hF198 hd197)) rfl rfl  ?_
          refine hwp_o rfl ?_
          refine hwq_yes rfl rfl ?_
          refine hwq_split (fun _ _ => ev_ne rfl rfl) rfl (fun c200 => ?_) (fun c200 => ?_)
          · replace hy159 := ip hy159 c200
            refine h_pf rfl rfl rfl rfl  ?_
            refine hwp_nilT ?_
            refine hws_nil (by kernel_rfl) ?_
            obtain rfl := sm hy159
            exact ⟨(), _, ⟨rfl, rfl, rfl, rfl, rfl, rfl, rfl, rfl, rfl, rfl, trivial⟩, hB, hx2, h37, h6, h9, h12, h15, h42, h22, h25, h28, h103, h141, h153, h112⟩
          · replace hy159 := im hy159 c200
            refine h_pf rfl rfl rfl rfl  ?_
            refine hwp_nilT ?_
            refine hws_nil (by kernel_rfl) ?_
            obtain rfl := sm hy159
            exact ⟨(), _, ⟨rfl, rfl, rfl, rfl, rfl, rfl, rfl, rfl, rfl, rfl, trivial⟩, hB, hx2, h37, h6, h9, h12, h15, h42, h22, h25, h28, h103, h141, h153, h112⟩
      rintro l201 w202 ⟨x161, O203, hs204, hB, hx2, h37, h6, h9, h12, h15, h42, h22, h25, h28, h103, h141, h153, h112⟩
      refine ewp_sub _ hs204 ?_
      refine ewp_cond rfl (fun c205 => ?_) (fun c205 => ?_)
      · replace hf128 := ip hf128 c205
        refine ewp_seq ?_
        refine ewp_region ?_
        refine o_as rfl rfl  ?_
        (first | refine owp_nilT ?_ | refine owp_nilB ?_ | refine owp_nilBB ?_ | refine owp_nil ?_)
        refine ewp_ret ?_
        obtain rfl := sm hf128
        obtain rfl := hret129 _ rfl
        obtain rfl := sm (fin_ret hm)
        exact ret1v rfl (res_tmp rfl) ⟨hB.ext, vBool⟩
      · replace hf128 := im' hf128 c205
        refine ewp_skip ?_
        refine ewp_seq ?_
        refine ewp_region ?_
        refine o_fa rfl rfl  ?_
        refine o_ld (hc := Blk.cell (i := 3) (h37.1) rfl) rfl rfl  ?_
        refine o_ln rfl rfl  ?_
        have l207 : x0.ops.length ≤ 9223372036854775807 := Nat.le_trans h15.len.2.1 h15.len.2.2
        have r206 : inI64 (x0.ops.length : Int) := rngNat l207
        refine o_mv rfl rfl  ?_
        (first | refine owp_nilT ?_ | refine owp_nilB ?_ | refine owp_nilBB ?_ | refine owp_nil ?_)
        obtain ⟨res208, hL209, hf128⟩ := bs hf128
        refine ewp_join (aft res208 (fun (s210 : Unit) (x211 : Unit) => [(2, (.slice A31 x2.length c32)), (3, (.pointer (some ⟨g33, 0, none⟩))), (4, (.pointer (some ⟨g38, 0, none⟩))), (7, (.slice A105 q98.length c106)), (51, (.slice A114 q107.length c115)), (52, (.int .i64 (q107.length : Int))), (53, (.int .i64 (k122 : Int)))]) (fun s210 x211 w' => ∃ O' : Lab, Bs w A w' O' ∧ Vb w' (Fr 0 w' O') (.slice A31 x2.length c32) x2 ∧ Lc 2 w' O' g33 26 [(.slice A7 x0.vars.length c8), (.slice A10 x0.init.length c11), (.slice A13 x0.goal.length c14), (.slice A16 x0.ops.length c17)] ∧ Vb w' (Fr 0 w' O') (.slice A7 x0.vars.length c8) x0.vars ∧ Vb w' (Fr 0 w' O') (.slice A10 x0.init.length c11) x0.init ∧ Vb w' (Fr 0 w' O') (.slice A13 x0.goal.length c14) x0.goal ∧ Vb w' (Fr 0 w' O') (.slice A16 x0.ops.length c17) x0.ops ∧ Lc 3 w' O' g38 29 [(.slice A23 x1.vars.length c24), (.slice A26 x1.vals.length c27), (.slice A29 x1.ops.length c30)] ∧ Vb w' (Fr 0 w' O') (.slice A23 x1.vars.length c24) x1.vars ∧ Vb w' (Fr 0 w' O') (.slice A26 x1.vals.length c27) x1.vals ∧ Vb w' (Fr 0 w' O') (.slice A29 x1.ops.length c30) x1.ops ∧ Vb w' (Fr 0 w' O') (.slice A105 q98.length c106) q98 ∧ Vb w' (Fr 0 w' O') (.slice A114 q107.length c115) q107)) ?_ ?_
        · refine ewp_block ?_
          refine ewp_rng (σ := Unit) (X := Unit) (x0.ops.length) hL209 rfl l207 (fun (s210 : Unit) (x211 : Unit) => [(2, (.slice A31 x2.length c32)), (3, (.pointer (some ⟨g33, 0, none⟩))), (4, (.pointer (some ⟨g38, 0, none⟩))), (7, (.slice A105 q98.length c106)), (9, (.slice A142 a123.length c143)), (10, (.slice A155 q144.1.length c156)), (51, (.slice A114 q107.length c115)), (52, (.int .i64 (q107.length : Int))), (53, (.int .i64 (k122 : Int)))]) _ (fun s210 x211 w' => ∃ O' : Lab, Bs w A w' O' ∧ Vb w' (Fr 0 w' O') (.slice A31 x2.length c32) x2 ∧ Lc 2 w' O' g33 26 [(.slice A7 x0.vars.length c8), (.slice A10 x0.init.length c11), (.slice A13 x0.goal.length c14), (.slice A16 x0.ops.length c17)] ∧ Vb w' (Fr 0 w' O') (.slice A7 x0.vars.length c8) x0.vars ∧ Vb w' (Fr 0 w' O') (.slice A10 x0.init.length c11) x0.init ∧ Vb w' (Fr 0 w' O') (.slice A13 x0.goal.length c14) x0.goal ∧ Vb w' (Fr 0 w' O') (.slice A16 x0.ops.length c17) x0.ops ∧ Lc 3 w' O' g38 29 [(.slice A23 x1.vars.length c24), (.slice A26 x1.vals.length c27), (.slice A29 x1.ops.length c30)] ∧ Vb w' (Fr 0 w' O') (.slice A23 x1.vars.length c24) x1.vars ∧ Vb w' (Fr 0 w' O') (.slice A26 x1.vals.length c27) x1.vals ∧ Vb w' (Fr 0 w' O') (.slice A29 x1.ops.length c30) x1.ops ∧ Vb w' (Fr 0 w' O') (.slice A105 q98.length c106) q98 ∧ Vb w' (Fr 0 w' O') (.slice A142 a123.length c143) a123 ∧ Vb w' (Fr 0 w' O') (.slice A155 q144.1.length c156) q144.1 ∧ Vb w' (Fr 0 w' O') (.slice A114 q107.length c115) q107) _ () ⟨O203, hB, hx2, h37, h6, h9, h12, h15, h42, h22, h25, h28, h103, h141, h153, h112⟩ ⟨rfl, rfl, rfl, rfl, rfl, rfl, rfl, rfl, rfl, rfl, rfl, trivial⟩ (fun _ _ => ⟨rfl, rfl⟩) (fun _ _ => ⟨rfl, rfl, rfl, rfl, rfl, rfl, rfl, trivial⟩) (fun _ _ _ ⟨O', hB, hx2, h37, h6, h9, h12, h15, h42, h22, h25, h28, h103, h141, h153, h112⟩ => ⟨O', hB, hx2, h37, h6, h9, h12, h15, h42, h22, h25, h28, h103, h112⟩) ⟨rfl, rfl, rfl⟩ ⟨rfl, rfl⟩ ?_
          rintro k212 a213 s210 x211 w214 cc216 hx217 ⟨O215, hB, hx2, h37, h6, h9, h12, h15, h42, h22, h25, h28, h103, h141, h153, h112⟩ hf218 hret219 hbrk220
          have rk212 : inI64 (k212 : Int) := rngK hx217 l207
          refine ewp_seq ?_
          refine ewp_region ?_
          refine o_mv rfl rfl  ?_
          refine o_as rfl rfl  ?_
          (first | refine owp_nilT ?_ | refine owp_nilB ?_ | refine owp_nilBB ?_ | refine owp_nil ?_)
          refine ewp_seq ?_
          refine ewp_seq ?_
          obtain ⟨y223, hy224, hf218⟩ := bs hf218
          refine ewp_join (fun l' w' => ∃ (x226 : Unit) (O' : Lab), subs l' [(2, (.slice A31 x2.length c32)), (3, (.pointer (some ⟨g33, 0, none⟩))), (4, (.pointer (some ⟨g38, 0, none⟩))), (7, (.slice A105 q98.length c106)), (9, (.slice A142 a123.length c143)), (10, (.slice A155 q144.1.length c156)), (12, (.int .i64 (k212 : Int))), (51, (.slice A114 q107.length c115)), (52, (.int .i64 (q107.length : Int))), (53, (.int .i64 (k122 : Int))), (90, (.int .i64 (x0.ops.length : Int))), (91, (.int .i64 (k212 : Int))), (117, (.bool y223))] ∧ Bs w A w' O' ∧ Vb w' (Fr 0 w' O') (.slice A31 x2.length c32) x2 ∧ Lc 2 w' O' g33 26 [(.slice A7 x0.vars.length c8), (.slice A10 x0.init.length c11), (.slice A13 x0.goal.length c14), (.slice A16 x0.ops.length c17)] ∧ Vb w' (Fr 0 w' O') (.slice A7 x0.vars.length c8) x0.vars ∧ Vb w' (Fr 0 w' O') (.slice A10 x0.init.length c11) x0.init ∧ Vb w' (Fr 0 w' O') (.slice A13 x0.goal.length c14) x0.goal ∧ Vb w' (Fr 0 w' O') (.slice A16 x0.ops.length c17) x0.ops ∧ Lc 3 w' O' g38 29 [(.slice A23 x1.vars.length c24), (.slice A26 x1.vals.length c27), (.slice A29 x1.ops.length c30)] ∧ Vb w' (Fr 0 w' O') (.slice A23 x1.vars.length c24) x1.vars ∧ Vb w' (Fr 0 w' O') (.slice A26 x1.vals.length c27) x1.vals ∧ Vb w' (Fr 0 w' O') (.slice A29 x1.ops.length c30) x1.ops ∧ Vb w' (Fr 0 w' O') (.slice A105 q98.length c106) q98 ∧ Vb w' (Fr 0 w' O') (.slice A142 a123.length c143) a123 ∧ Vb w' (Fr 0 w' O') (.slice A155 q144.1.length c156) q144.1 ∧ Vb w' (Fr 0 w' O') (.slice A114 q107.length c115) q107) ?_ ?_
          · skip
            refine ewp_draw (· = w214) [(0, true), (1, true), (2, true), (3, true), (4, true), (5, true), (6, true), (7, true), (8, true), (9, true), (10, true), (11, true), (12, true), (13, true), (14, true), (15, true), (16, true), (17, true), (18, true), (19, true), (20, true), (21, true), (22, true), (23, true)] (by kernel_rfl) rfl (by kernel_rfl) rfl ?_
            refine h_mv rfl rfl rfl  ?_
            refine h_fa rfl rfl rfl  ?_
            refine h_ldA (hc := Blk.cell (i := 2) (h42.1) rfl) rfl rfl rfl  ?_
            refine h_ln rfl rfl rfl  ?_
            have l228 : x1.ops.length ≤ 9223372036854775807 := Nat.le_trans h28.len.2.1 h28.len.2.2
            have r227 : inI64 (x1.ops.length : Int) := rngNat l228
            refine h_geS rfl rfl rfl rfl (fun c229 => ?_) fun c229 => ?_
            · replace hy224 := ip hy224 c229
              refine h_mv rfl rfl rfl  ?_
              refine h_no rfl rfl rfl rfl rfl ?_
              refine h_no rfl rfl rfl rfl rfl ?_
              refine h_no rfl rfl rfl rfl rfl ?_
              refine h_no rfl rfl rfl rfl rfl ?_
              refine h_no rfl rfl rfl rfl rfl ?_
              refine h_no rfl rfl rfl rfl rfl ?_
              refine h_pt rfl rfl rfl rfl  ?_
              refine h_mv rfl rfl rfl  ?_
              refine h_no rfl rfl rfl rfl rfl ?_
              refine h_no rfl rfl rfl rfl rfl ?_
              refine h_no rfl rfl rfl rfl rfl ?_
              refine h_no rfl rfl rfl rfl rfl ?_
              refine h_no rfl rfl rfl rfl rfl ?_
              refine h_no rfl rfl rfl rfl rfl ?_
              refine h_no rfl rfl rfl rfl rfl ?_
              refine h_no rfl rfl rfl rfl rfl ?_
              refine h_no rfl rfl rfl rfl rfl ?_
              refine h_pt rfl rfl rfl rfl  ?_
              (first | refine hwp_nilT ?_ | refine hwp_nilB ?_ | refine hwp_nil ?_)
              obtain rfl := sm hy224
              exact ⟨(), _, ⟨rfl, rfl, rfl, rfl, rfl, rfl, rfl, rfl, rfl, rfl, rfl, rfl, rfl, trivial⟩, hB, hx2, h37, h6, h9, h12, h15, h42, h22, h25, h28, h103, h141, h153, h112⟩
            · replace hy224 := im hy224 c229
              refine h_mv rfl rfl rfl  ?_
              refine hwp_o rfl ?_
              refine hwq_yes rfl rfl ?_
              refine g_fa rfl rfl  ?_
              refine hwp_o rfl ?_
              refine hwq_yes rfl rfl ?_
              refine g_ldA (hc := Blk.cell (i := 2) (h42.1) rfl) rfl rfl  ?_
              refine hwp_o rfl ?_
              refine hwq_yes rfl rfl ?_
              refine g_mv rfl rfl  ?_
              refine hwp_o rfl ?_
              refine hwq_yes rfl rfl ?_
              obtain ⟨a230, e231, hy224⟩ := bs hy224
              obtain ⟨b232, o233, ce234, hA235, hl236, hd237, rfl, r239⟩ := h28.elem' e231
              refine g_iaE (hA := hA235) (hj := rfl) (hlt := hl236) rfl rfl rfl  ?_
              refine hwp_o rfl ?_
              refine hwq_yes rfl rfl ?_
              refine g_ldA (hc := cat0 hd237) rfl rfl  ?_
              refine hwp_o rfl ?_
              refine hwq_yes rfl rfl ?_
              refine hwq_split (fun _ _ => ev_lss rfl rfl) rfl (fun c240 => ?_) (fun c240 => ?_)
              · replace hy224 := ip hy224 c240
                refine h_pf rfl rfl rfl rfl  ?_
                refine h_mv rfl rfl rfl  ?_
                refine h_no rfl rfl rfl rfl rfl ?_
                refine h_no rfl rfl rfl rfl rfl ?_
                refine h_no rfl rfl rfl rfl rfl ?_
                refine h_no rfl rfl rfl rfl rfl ?_
                refine h_no rfl rfl rfl rfl rfl ?_
                refine h_no rfl rfl rfl rfl rfl ?_
                refine h_no rfl rfl rfl rfl rfl ?_
                refine h_no rfl rfl rfl rfl rfl ?_
                refine h_no rfl rfl rfl rfl rfl ?_
                refine h_pt rfl rfl rfl rfl  ?_
                (first | refine hwp_nilT ?_ | refine hwp_nilB ?_ | refine hwp_nil ?_)
                obtain rfl := sm hy224
                exact ⟨(), _, ⟨rfl, rfl, rfl, rfl, rfl, rfl, rfl, rfl, rfl, rfl, rfl, rfl, rfl, trivial⟩, hB, hx2, h37, h6, h9, h12, h15, h42, h22, h25, h28, h103, h141, h153, h112⟩
              · replace hy224 := im hy224 c240
                refine h_pf rfl rfl rfl rfl  ?_
                refine h_mv rfl rfl rfl  ?_
                refine hwp_o rfl ?_
                refine hwq_yes rfl rfl ?_
                refine g_fa rfl rfl  ?_
                refine hwp_o rfl ?_
                refine hwq_yes rfl rfl ?_
                refine g_ldA (hc := Blk.cell (i := 2) (h42.1) rfl) rfl rfl  ?_
                refine hwp_o rfl ?_
                refine hwq_yes rfl rfl ?_
                refine g_mv rfl rfl  ?_
                refine hwp_o rfl ?_
                refine hwq_yes rfl rfl ?_
                obtain ⟨a241, e242, hy224⟩ := bs hy224
                obtain ⟨b243, o244, ce245, hA246, hl247, hd248, rfl, r250⟩ := h28.elem' e242
                refine g_iaE (hA := hA246) (hj := rfl) (hlt := hl247) rfl rfl rfl  ?_
                refine hwp_o rfl ?_
                refine hwq_yes rfl rfl ?_
                refine g_ldA (hc := cat0 hd248) rfl rfl  ?_
                refine hwp_o rfl ?_
                refine hwq_yes rfl rfl ?_
                refine g_fa rfl rfl  ?_
                refine hwp_o rfl ?_
                refine hwq_yes rfl rfl ?_
                refine g_ldA (hc := Blk.cell (i := 3) (h37.1) rfl) rfl rfl  ?_
                refine hwp_o rfl ?_
                refine hwq_yes rfl rfl ?_
                refine g_ln rfl rfl  ?_
                have l252 : x0.ops.length ≤ 9223372036854775807 := Nat.le_trans h15.len.2.1 h15.len.2.2
                have r251 : inI64 (x0.ops.length : Int) := rngNat l252
                refine hwp_o rfl ?_
                refine hwq_yes rfl rfl ?_
                refine hwq_split (fun _ _ => ev_geq rfl rfl) rfl (fun c253 => ?_) (fun c253 => ?_)
                · replace hy224 := ip hy224 c253
                  refine h_pf rfl rfl rfl rfl  ?_
                  (first | refine hwp_nilT ?_ | refine hwp_nilB ?_ | refine hwp_nil ?_)
                  obtain rfl := sm hy224
                  exact ⟨(), _, ⟨rfl, rfl, rfl, rfl, rfl, rfl, rfl, rfl, rfl, rfl, rfl, rfl, rfl, trivial⟩, hB, hx2, h37, h6, h9, h12, h15, h42, h22, h25, h28, h103, h141, h153, h112⟩
                · replace hy224 := im hy224 c253
                  refine h_pf rfl rfl rfl rfl  ?_
                  (first | refine hwp_nilT ?_ | refine hwp_nilB ?_ | refine hwp_nil ?_)
                  obtain rfl := sm hy224
                  exact ⟨(), _, ⟨rfl, rfl, rfl, rfl, rfl, rfl, rfl, rfl, rfl, rfl, rfl, rfl, rfl, trivial⟩, hB, hx2, h37, h6, h9, h12, h15, h42, h22, h25, h28, h103, h141, h153, h112⟩
          rintro l254 w255 ⟨x226, O256, hs257, hB, hx2, h37, h6, h9, h12, h15, h42, h22, h25, h28, h103, h141, h153, h112⟩
          refine ewp_sub _ hs257 ?_
          refine ewp_cond rfl (fun c258 => ?_) (fun c258 => ?_)
          · replace hf218 := ip hf218 c258
            refine ewp_seq ?_
            refine ewp_region ?_
            refine o_as rfl rfl  ?_
            (first | refine owp_nilT ?_ | refine owp_nilB ?_ | refine owp_nilBB ?_ | refine owp_nil ?_)
            refine ewp_ret ?_
            obtain rfl := sm hf218
            obtain rfl := hret219 _ rfl
            obtain rfl := sm (fin_ret hf128)
            obtain rfl := hret129 _ rfl
            obtain rfl := sm (fin_ret hm)
            exact ret1v rfl (res_tmp rfl) ⟨hB.ext, vBool⟩
          · replace hf218 := im' hf218 c258
            refine ewp_skip ?_
            refine ewp_seq ?_
            refine ewp_region ?_
            refine o_la (hl := rfl) (hc := (h37.1).cellsAt) rfl rfl  ?_
            refine o_mv rfl rfl  ?_
            refine o_mv rfl rfl  ?_
            obtain ⟨q259, e260, hf218⟩ := bs hf218
            refine l_call (O := O256) (R := fun w' F v => T2 w' F v q259) (c_base_Apply Fr.lt (Vb.ofAgg (cs := [(.slice A7 x0.vars.length c8), (.slice A10 x0.init.length c11), (.slice A13 x0.goal.length c14), (.slice A16 x0.ops.length c17)]) (x := x0) rfl ⟨_, _, _, _, rfl, h6, h9, h12, h15⟩) h141 rk212 e260) rfl rfl fun v265 w261 O262 S263 h264 => ?_
            obtain ⟨v266, v267, rfl, h268, h269⟩ := h264
            obtain ⟨A270, c271, rfl⟩ := h268.form
            obtain rfl := h269.bool
            replace hB := hB.st S263 (fun h => h) (fun h => h)
            replace hx2 := hx2.st S263 (fun h => h)
            replace h37 := h37.st S263 (fun h => h)
            replace h6 := h6.st S263 (fun h => h)
            replace h9 := h9.st S263 (fun h => h)
            replace h12 := h12.st S263 (fun h => h)
            replace h15 := h15.st S263 (fun h => h)
            replace h42 := h42.st S263 (fun h => h)
            replace h22 := h22.st S263 (fun h => h)
            replace h25 := h25.st S263 (fun h => h)
            replace h28 := h28.st S263 (fun h => h)
            replace h103 := h103.st S263 (fun h => h)
            replace h141 := h141.st S263 (fun h => h)
            replace h153 := h153.st S263 (fun h => h)
            replace h112 := h112.st S263 (fun h => h)
            refine o_mv rfl rfl  ?_
            refine o_ex rfl rfl rfl  ?_
            refine o_ex rfl rfl rfl  ?_
            refine o_as rfl rfl  ?_
            refine o_as rfl rfl  ?_
            (first | refine owp_nilT ?_ | refine owp_nilB ?_ | refine owp_nilBB ?_ | refine owp_nil ?_)
            refine ewp_seq ?_
            have hZ := St.refl (nT) w261 O262
            have zhx2 := hx2
            have zh37 := h37
            have zh6 := h6
            have zh9 := h9
            have zh12 := h12
            have zh15 := h15
            have zh42 := h42
            have zh22 := h22
            have zh25 := h25
            have zh28 := h28
            have zh103 := h103
            have zh141 := h141
            have zh153 := h153
            have zh268 := h268
            have zh112 := h112
            refine ewp_drawS (fun w' => ∃ O', St (nT) w261 O262 w' O') ?_
            refine hws_pre (fuel := 6) [(0, true), (1, true), (2, true), (3, true), (4, true), (5, true), (6, true)] (by kernel_rfl) (by kernel_rfl) (by kernel_rfl) ⟨_, hZ⟩ ?_
            refine h_laB (hl := rfl) (hb := fun w' ⟨O', hq⟩ => ((zh37.st hq (by decide)).1).cellsAt) rfl rfl rfl  ?_
            refine h_mv rfl rfl rfl  ?_
            refine h_fa rfl rfl rfl  ?_
            refine h_ldC (hc := fun w' ⟨O', hq⟩ => Blk.cell (i := 2) ((zh42.st hq (by decide)).1) rfl) rfl rfl rfl  ?_
            refine h_mv rfl rfl rfl  ?_
            obtain ⟨a272, e273, hf218⟩ := bs hf218
            obtain ⟨b274, o275, ce276, hA277, hF280, hl278, hd279, rfl, r281⟩ := zh28.elem e273
            refine h_iaE (hA := hA277) (hj := rfl) (hlt := hl278) rfl rfl rfl rfl  ?_
            refine h_ldC (hc := fun w' ⟨O', hq⟩ => cat0 (cellsAt_agree (hq.agree (i := 0) (by decide)) hF280 hd279)) rfl rfl rfl  ?_
            refine hwp_nilT ?_
            refine hws_one (i := 7) (by kernel_rfl) rfl ?_
            obtain ⟨q282, e283, hf218⟩ := bs hf218
            refine l_call (O := O262) (R := fun w' F v => T2 w' F v q282) (c_base_Apply Fr.lt (Vb.ofAgg (cs := [(.slice A7 x0.vars.length c8), (.slice A10 x0.init.length c11), (.slice A13 x0.goal.length c14), (.slice A16 x0.ops.length c17)]) (x := x0) rfl ⟨_, _, _, _, rfl, h6, h9, h12, h15⟩) h153 r281 e283) rfl rfl fun v288 w284 O285 S286 h287 => ?_
            obtain ⟨v289, v290, rfl, h291, h292⟩ := h287
            obtain ⟨A293, c294, rfl⟩ := h291.form
            obtain rfl := h292.bool
            replace hZ := hZ.comp S286 (fun _ h => h.elim)
            replace hB := hB.st S286 (fun h => h) (fun h => h)
            replace hx2 := hx2.st S286 (fun h => h)
            replace h37 := h37.st S286 (fun h => h)
            replace h6 := h6.st S286 (fun h => h)
            replace h9 := h9.st S286 (fun h => h)
            replace h12 := h12.st S286 (fun h => h)
            replace h15 := h15.st S286 (fun h => h)
            replace h42 := h42.st S286 (fun h => h)
            replace h22 := h22.st S286 (fun h => h)
            replace h25 := h25.st S286 (fun h => h)
            replace h28 := h28.st S286 (fun h => h)
            replace h103 := h103.st S286 (fun h => h)
            replace h141 := h141.st S286 (fun h => h)
            replace h153 := h153.st S286 (fun h => h)
            replace h268 := h268.st S286 (fun h => h)
            replace h112 := h112.st S286 (fun h => h)
            refine owp_loudS ⟨_, hZ⟩ ?_
            refine hws_pre (fuel := 0) [(8, true), (9, true), (10, true), (11, true), (12, true)] (by kernel_rfl) (by kernel_rfl) (by kernel_rfl) ⟨_, hZ⟩ ?_
            refine h_mv rfl rfl rfl  ?_
            refine h_ex rfl rfl rfl rfl  ?_
            refine h_ex rfl rfl rfl rfl  ?_
            refine h_as rfl rfl rfl  ?_
            refine h_as rfl rfl rfl  ?_
            refine hwp_nilT ?_
            refine hws_nil (by kernel_rfl) ?_
            refine ewp_seq ?_
            refine ewp_seq ?_
            obtain ⟨y295, hy296, hf218⟩ := bs hf218
            refine ewp_join (fun l' w' => ∃ (x298 : Unit) (O' : Lab), subs l' [(2, (.slice A31 x2.length c32)), (3, (.pointer (some ⟨g33, 0, none⟩))), (4, (.pointer (some ⟨g38, 0, none⟩))), (7, (.slice A105 q98.length c106)), (9, (.slice A142 a123.length c143)), (10, (.slice A155 q144.1.length c156)), (13, (.slice A270 q259.1.length c271)), (14, (.bool y295.1)), (15, (.slice A293 q282.1.length c294)), (51, (.slice A114 q107.length c115)), (52, (.int .i64 (q107.length : Int))), (53, (.int .i64 (k122 : Int))), (90, (.int .i64 (x0.ops.length : Int))), (91, (.int .i64 (k212 : Int))), (138, (.bool y295.2))] ∧ Bs w A w' O' ∧ Vb w' (Fr 0 w' O') (.slice A31 x2.length c32) x2 ∧ Lc 2 w' O' g33 26 [(.slice A7 x0.vars.length c8), (.slice A10 x0.init.length c11), (.slice A13 x0.goal.length c14), (.slice A16 x0.ops.length c17)] ∧ Vb w' (Fr 0 w' O') (.slice A7 x0.vars.length c8) x0.vars ∧ Vb w' (Fr 0 w' O') (.slice A10 x0.init.length c11) x0.init ∧ Vb w' (Fr 0 w' O') (.slice A13 x0.goal.length c14) x0.goal ∧ Vb w' (Fr 0 w' O') (.slice A16 x0.ops.length c17) x0.ops ∧ Lc 3 w' O' g38 29 [(.slice A23 x1.vars.length c24), (.slice A26 x1.vals.length c27), (.slice A29 x1.ops.length c30)] ∧ Vb w' (Fr 0 w' O') (.slice A23 x1.vars.length c24) x1.vars ∧ Vb w' (Fr 0 w' O') (.slice A26 x1.vals.length c27) x1.vals ∧ Vb w' (Fr 0 w' O') (.slice A29 x1.ops.length c30) x1.ops ∧ Vb w' (Fr 0 w' O') (.slice A105 q98.length c106) q98 ∧ Vb w' (Fr 0 w' O') (.slice A142 a123.length c143) a123 ∧ Vb w' (Fr 0 w' O') (.slice A155 q144.1.length c156) q144.1 ∧ Vb w' (Fr 0 w' O') (.slice A270 q259.1.length c271) q259.1 ∧ Vb w' (Fr 0 w' O') (.slice A293 q282.1.length c294) q282.1 ∧ Vb w' (Fr 0 w' O') (.slice A114 q107.length c115) q107) ?_ ?_
            · skip
              refine ewp_region ?_
              refine o_mv rfl rfl  ?_
              refine o_mv rfl rfl  ?_
              rcases Bool.eq_false_or_eq_true q259.2 with c299 | c299
              · try simp only [c299]
                replace hy296 := ip hy296 c299
                rcases Bool.eq_false_or_eq_true q282.2 with c300 | c300
                · try simp only [c300]
                  replace hy296 := ip hy296 c300
                  refine o_bn rfl rfl rfl  ?_
                  (first | refine owp_nilT ?_ | refine owp_nilB ?_ | refine owp_nilBB ?_ | refine owp_nil ?_)
                  obtain rfl := sm hy296
                  exact ⟨(), _, ⟨rfl, rfl, rfl, rfl, rfl, rfl, rfl, rfl, rfl, rfl, rfl, rfl, rfl, rfl, rfl, trivial⟩, hB, hx2, h37, h6, h9, h12, h15, h42, h22, h25, h28, h103, h141, h153, h268, h291, h112⟩
                · try simp only [c300]
                  replace hy296 := im' hy296 c300
                  refine o_bn rfl rfl rfl  ?_
                  (first | refine owp_nilT ?_ | refine owp_nilB ?_ | refine owp_nilBB ?_ | refine owp_nil ?_)
                  obtain rfl := sm hy296
                  exact ⟨(), _, ⟨rfl, rfl, rfl, rfl, rfl, rfl, rfl, rfl, rfl, rfl, rfl, rfl, rfl, rfl, rfl, trivial⟩, hB, hx2, h37, h6, h9, h12, h15, h42, h22, h25, h28, h103, h141, h153, h268, h291, h112⟩
              · try simp only [c299]
                replace hy296 := im' hy296 c299
                rcases Bool.eq_false_or_eq_true q282.2 with c301 | c301
                · try simp only [c301]
                  replace hy296 := ip hy296 c301
                  refine o_bn rfl rfl rfl  ?_
                  (first | refine owp_nilT ?_ | refine owp_nilB ?_ | refine owp_nilBB ?_ | refine owp_nil ?_)
                  obtain rfl := sm hy296
                  exact ⟨(), _, ⟨rfl, rfl, rfl, rfl, rfl, rfl, rfl, rfl, rfl, rfl, rfl, rfl, rfl, rfl, rfl, trivial⟩, hB, hx2, h37, h6, h9, h12, h15, h42, h22, h25, h28, h103, h141, h153, h268, h291, h112⟩
                · try simp only [c301]
                  replace hy296 := im' hy296 c301
                  refine o_bn rfl rfl rfl  ?_
                  (first | refine owp_nilT ?_ | refine owp_nilB ?_ | refine owp_nilBB ?_ | refine owp_nil ?_)
                  obtain rfl := sm hy296
                  exact ⟨(), _, ⟨rfl, rfl, rfl, rfl, rfl, rfl, rfl, rfl, rfl, rfl, rfl, rfl, rfl, rfl, rfl, trivial⟩, hB, hx2, h37, h6, h9, h12, h15, h42, h22, h25, h28, h103, h141, h153, h268, h291, h112⟩
            rintro l302 w303 ⟨x298, O304, hs305, hB, hx2, h37, h6, h9, h12, h15, h42, h22, h25, h28, h103, h141, h153, h268, h291, h112⟩
            refine ewp_sub _ hs305 ?_
            refine ewp_cond rfl (fun c306 => ?_) (fun c306 => ?_)
            · replace hf218 := ip hf218 c306
              refine ewp_seq ?_
              refine ewp_region ?_
              refine o_as rfl rfl  ?_
              (first | refine owp_nilT ?_ | refine owp_nilB ?_ | refine owp_nilBB ?_ | refine owp_nil ?_)
              refine ewp_ret ?_
              obtain rfl := sm hf218
              obtain rfl := hret219 _ rfl
              obtain rfl := sm (fin_ret hf128)
              obtain rfl := hret129 _ rfl
              obtain rfl := sm (fin_ret hm)
              exact ret1v rfl (res_tmp rfl) ⟨hB.ext, vBool⟩
            · replace hf218 := im' hf218 c306
              refine ewp_skip ?_
              refine ewp_seq ?_
              refine ewp_seq ?_
              refine ewp_region ?_
              refine o_mv rfl rfl  ?_
              refine o_nn rfl rfl  ?_
              (first | refine owp_nilT ?_ | refine owp_nilB ?_ | refine owp_nilBB ?_ | refine owp_nil ?_)
              refine ewp_cond rfl (fun c307 => ?_) (fun c307 => ?_)
              · replace hf218 := ip hf218 c307
                refine ewp_exit ?_
                obtain rfl := sm hf218
                refine (?_ : Exists _)
                exact ⟨_, (), rfl, ⟨rfl, rfl, rfl, rfl, rfl, rfl, rfl, rfl, rfl, rfl, rfl, trivial⟩, _, hB, hx2, h37, h6, h9, h12, h15, h42, h22, h25, h28, h103, h141, h153, h112⟩
              · replace hf218 := im' hf218 c307
                refine ewp_skip ?_
                refine ewp_seq ?_
                refine ewp_region ?_
                refine o_la (hl := rfl) (hc := (h37.1).cellsAt) rfl rfl  ?_
                refine o_la (hl := rfl) (hc := (h42.1).cellsAt) rfl rfl  ?_
                refine o_mv rfl rfl  ?_
                obtain ⟨q308, e309, hf218⟩ := bs hf218
                refine l_call (O := O304) (R := fun w' F v => T2 w' F v q308) (c_symmetry_State Fr.lt (Vb.ofAgg (cs := [(.slice A7 x0.vars.length c8), (.slice A10 x0.init.length c11), (.slice A13 x0.goal.length c14), (.slice A16 x0.ops.length c17)]) (x := x0) rfl ⟨_, _, _, _, rfl, h6, h9, h12, h15⟩) (Vb.ofAgg (cs := [(.slice A23 x1.vars.length c24), (.slice A26 x1.vals.length c27), (.slice A29 x1.ops.length c30)]) (x := x1) rfl ⟨_, _, _, rfl, h22, h25, h28⟩) h268 e309) rfl rfl fun v314 w310 O311 S312 h313 => ?_
                obtain ⟨v315, v316, rfl, h317, h318⟩ := h313
                obtain ⟨A319, c320, rfl⟩ := h317.form
                obtain ⟨rfl, r321⟩ := h318.err
                replace hB := hB.st S312 (fun h => h) (fun h => h)
                replace hx2 := hx2.st S312 (fun h => h)
                replace h37 := h37.st S312 (fun h => h)
                replace h6 := h6.st S312 (fun h => h)
                replace h9 := h9.st S312 (fun h => h)
                replace h12 := h12.st S312 (fun h => h)
                replace h15 := h15.st S312 (fun h => h)
                replace h42 := h42.st S312 (fun h => h)
                replace h22 := h22.st S312 (fun h => h)
                replace h25 := h25.st S312 (fun h => h)
                replace h28 := h28.st S312 (fun h => h)
                replace h103 := h103.st S312 (fun h => h)
                replace h141 := h141.st S312 (fun h => h)
                replace h153 := h153.st S312 (fun h => h)
                replace h291 := h291.st S312 (fun h => h)
                replace h112 := h112.st S312 (fun h => h)
                refine o_mv rfl rfl  ?_
                refine o_ex rfl rfl rfl  ?_
                refine o_ex rfl rfl rfl  ?_
                refine o_as rfl rfl  ?_
                refine o_as rfl rfl  ?_
                (first | refine owp_nilT ?_ | refine owp_nilB ?_ | refine owp_nilBB ?_ | refine owp_nil ?_)
                refine ewp_seq ?_
                obtain ⟨y322, hy323, hf218⟩ := bs hf218
                refine ewp_join (fun l' w' => ∃ (x325 : Unit) (O' : Lab), subs l' [(2, (.slice A31 x2.length c32)), (3, (.pointer (some ⟨g33, 0, none⟩))), (4, (.pointer (some ⟨g38, 0, none⟩))), (7, (.slice A105 q98.length c106)), (9, (.slice A142 a123.length c143)), (10, (.slice A155 q144.1.length c156)), (51, (.slice A114 q107.length c115)), (52, (.int .i64 (q107.length : Int))), (53, (.int .i64 (k122 : Int))), (90, (.int .i64 (x0.ops.length : Int))), (91, (.int .i64 (k212 : Int))), (155, (.bool y322))] ∧ Bs w A w' O' ∧ Vb w' (Fr 0 w' O') (.slice A31 x2.length c32) x2 ∧ Lc 2 w' O' g33 26 [(.slice A7 x0.vars.length c8), (.slice A10 x0.init.length c11), (.slice A13 x0.goal.length c14), (.slice A16 x0.ops.length c17)] ∧ Vb w' (Fr 0 w' O') (.slice A7 x0.vars.length c8) x0.vars ∧ Vb w' (Fr 0 w' O') (.slice A10 x0.init.length c11) x0.init ∧ Vb w' (Fr 0 w' O') (.slice A13 x0.goal.length c14) x0.goal ∧ Vb w' (Fr 0 w' O') (.slice A16 x0.ops.length c17) x0.ops ∧ Lc 3 w' O' g38 29 [(.slice A23 x1.vars.length c24), (.slice A26 x1.vals.length c27), (.slice A29 x1.ops.length c30)] ∧ Vb w' (Fr 0 w' O') (.slice A23 x1.vars.length c24) x1.vars ∧ Vb w' (Fr 0 w' O') (.slice A26 x1.vals.length c27) x1.vals ∧ Vb w' (Fr 0 w' O') (.slice A29 x1.ops.length c30) x1.ops ∧ Vb w' (Fr 0 w' O') (.slice A105 q98.length c106) q98 ∧ Vb w' (Fr 0 w' O') (.slice A142 a123.length c143) a123 ∧ Vb w' (Fr 0 w' O') (.slice A155 q144.1.length c156) q144.1 ∧ Vb w' (Fr 0 w' O') (.slice A114 q107.length c115) q107) ?_ ?_
                · skip
                  refine ewp_region ?_
                  refine o_mv rfl rfl  ?_
                  refine o_rnS rfl rfl (fun c326 => ?_) fun c326 => ?_
                  · replace hy323 := ip hy323 c326
                    refine o_mv rfl rfl  ?_
                    refine owp_no rfl rfl rfl rfl ?_
                    refine owp_no rfl rfl rfl rfl ?_
                    refine owp_no rfl rfl rfl rfl ?_
                    refine owp_no rfl rfl rfl rfl ?_
                    refine o_pt rfl rfl rfl  ?_
                    (first | refine owp_nilT ?_ | refine owp_nilB ?_ | refine owp_nilBB ?_ | refine owp_nil ?_)
                    obtain rfl := sm hy323
                    exact ⟨(), _, ⟨rfl, rfl, rfl, rfl, rfl, rfl, rfl, rfl, rfl, rfl, rfl, rfl, trivial⟩, hB, hx2, h37, h6, h9, h12, h15, h42, h22, h25, h28, h103, h141, h153, h112⟩
                  · replace hy323 := im hy323 c326
                    refine o_mv rfl rfl  ?_
                    refine owp_yes rfl rfl ?_
                    refine o_mv rfl rfl  ?_
                    refine owp_yes rfl rfl ?_
                    refine o_mv rfl rfl  ?_
                    refine owp_yes rfl rfl ?_
                    obtain ⟨q327, e328, hy323⟩ := bs hy323
                    refine l_callA (O := O311) (A := All w310) (R := fun w' F v => Vb w' F v q327) (c_base_Ints (fun _ h => h) (Vb.mono (F := Fr 0 w310 O311) h317 Fr.lt) (Vb.mono (F := Fr 0 w310 O311) h291 Fr.lt) e328) rfl rfl fun v333 w329 O330 S331 h332 => ?_
                    obtain rfl := h332.bool
                    replace hB := hB.st S331 (fun h => h) (fun h => h)
                    replace hx2 := hx2.st S331 (fun h => h)
                    replace h37 := h37.st S331 (fun h => h)
                    replace h6 := h6.st S331 (fun h => h)
                    replace h9 := h9.st S331 (fun h => h)
                    replace h12 := h12.st S331 (fun h => h)
                    replace h15 := h15.st S331 (fun h => h)
                    replace h42 := h42.st S331 (fun h => h)
                    replace h22 := h22.st S331 (fun h => h)
                    replace h25 := h25.st S331 (fun h => h)
                    replace h28 := h28.st S331 (fun h => h)
                    replace h103 := h103.st S331 (fun h => h)
                    replace h141 := h141.st S331 (fun h => h)
                    replace h153 := h153.st S331 (fun h => h)
                    replace h112 := h112.st S331 (fun h => h)
                    cases q327
                    case false =>
                      replace hy323 := iF hy323
                      refine owp_yes rfl rfl ?_
                      refine o_nf rfl rfl  ?_
                      refine o_pf rfl rfl rfl  ?_
                      (first | refine owp_nilT ?_ | refine owp_nilB ?_ | refine owp_nilBB ?_ | refine owp_nil ?_)
                      obtain rfl := sm hy323
                      exact ⟨(), _, ⟨rfl, rfl, rfl, rfl, rfl, rfl, rfl, rfl, rfl, rfl, rfl, rfl, trivial⟩, hB, hx2, h37, h6, h9, h12, h15, h42, h22, h25, h28, h103, h141, h153, h112⟩
                    replace hy323 := iT hy323
                    refine owp_yes rfl rfl ?_
                    refine o_nt rfl rfl  ?_
                    refine o_pf rfl rfl rfl  ?_
                    (first | refine owp_nilT ?_ | refine owp_nilB ?_ | refine owp_nilBB ?_ | refine owp_nil ?_)
                    obtain rfl := sm hy323
                    exact ⟨(), _, ⟨rfl, rfl, rfl, rfl, rfl, rfl, rfl, rfl, rfl, rfl, rfl, rfl, trivial⟩, hB, hx2, h37, h6, h9, h12, h15, h42, h22, h25, h28, h103, h141, h153, h112⟩
                rintro l334 w335 ⟨x325, O336, hs337, hB, hx2, h37, h6, h9, h12, h15, h42, h22, h25, h28, h103, h141, h153, h112⟩
                refine ewp_sub _ hs337 ?_
                refine ewp_cond rfl (fun c338 => ?_) (fun c338 => ?_)
                · replace hf218 := ip hf218 c338
                  refine ewp_seq ?_
                  refine ewp_region ?_
                  refine o_as rfl rfl  ?_
                  (first | refine owp_nilT ?_ | refine owp_nilB ?_ | refine owp_nilBB ?_ | refine owp_nil ?_)
                  refine ewp_ret ?_
                  obtain rfl := sm hf218
                  obtain rfl := hret219 _ rfl
                  obtain rfl := sm (fin_ret hf128)
                  obtain rfl := hret129 _ rfl
                  obtain rfl := sm (fin_ret hm)
                  exact ret1v rfl (res_tmp rfl) ⟨hB.ext, vBool⟩
                · replace hf218 := im' hf218 c338
                  refine ewp_skip ?_
                  obtain rfl := sm hf218
                  refine (?_ : Exists _)
                  exact ⟨_, (), rfl, ⟨rfl, rfl, rfl, rfl, rfl, rfl, rfl, rfl, rfl, rfl, rfl, trivial⟩, _, hB, hx2, h37, h6, h9, h12, h15, h42, h22, h25, h28, h103, h141, h153, h112⟩
        rintro l339 w340 ⟨s343, x344, rfl, hs342, O341, hB, hx2, h37, h6, h9, h12, h15, h42, h22, h25, h28, h103, h112⟩
        replace hf128 := fin_done hf128
        obtain rfl := sm hf128
        refine (?_ : Exists _)
        exact ⟨_, (), rfl, ⟨(subs_lk hs342 _ _ rfl), (subs_lk hs342 _ _ rfl), (subs_lk hs342 _ _ rfl), (subs_lk hs342 _ _ rfl), (subs_lk hs342 _ _ rfl), (subs_lk hs342 _ _ rfl), (subs_lk hs342 _ _ rfl), trivial⟩, _, hB, hx2, h37, h6, h9, h12, h15, h42, h22, h25, h28, h103, h112⟩
    rintro l345 w346 ⟨s349, x350, rfl, hs348, O347, hB, hx2, h37, h6, h9, h12, h15, h42, h22, h25, h28⟩
    replace hm := fin_done hm
    refine ewp_sub _ hs348 ?_
    refine ewp_seq ?_
    refine ewp_region ?_
    refine o_la (hl := rfl) (hc := (h37.1).cellsAt) rfl rfl  ?_
    refine o_mv rfl rfl  ?_
    obtain ⟨q351, e352, hm⟩ := bs hm
    refine l_callA (O := O347) (A := All w346) (R := fun w' F v => T2 w' F v q351) (c_task_Solves (fun _ h => h) (Vb.mono (F := Fr 0 w346 O347) (Vb.ofAgg (cs := [(.slice A7 x0.vars.length c8), (.slice A10 x0.init.length c11), (.slice A13 x0.goal.length c14), (.slice A16 x0.ops.length c17)]) (x := x0) rfl ⟨_, _, _, _, rfl, h6, h9, h12, h15⟩) Fr.lt) (Vb.mono (F := Fr 0 w346 O347) hx2 Fr.lt) e352) rfl rfl fun v357 w353 O354 S355 h356 => ?_
    obtain ⟨v358, v359, rfl, h360, h361⟩ := h356
    obtain ⟨rfl, r362⟩ := h360.int
    obtain ⟨rfl, r363⟩ := h361.err
    replace hB := hB.st S355 (fun h => h) (fun h => h)
    replace hx2 := hx2.st S355 (fun h => h)
    replace h37 := h37.st S355 (fun h => h)
    replace h6 := h6.st S355 (fun h => h)
    replace h9 := h9.st S355 (fun h => h)
    replace h12 := h12.st S355 (fun h => h)
    replace h15 := h15.st S355 (fun h => h)
    replace h42 := h42.st S355 (fun h => h)
    replace h22 := h22.st S355 (fun h => h)
    replace h25 := h25.st S355 (fun h => h)
    replace h28 := h28.st S355 (fun h => h)
    refine o_mv rfl rfl  ?_
    refine o_ex rfl rfl rfl  ?_
    refine o_ex rfl rfl rfl  ?_
    refine o_as rfl rfl  ?_
    refine o_as rfl rfl  ?_
    (first | refine owp_nilT ?_ | refine owp_nilB ?_ | refine owp_nilBB ?_ | refine owp_nil ?_)
    refine ewp_seq ?_
    refine ewp_seq ?_
    refine ewp_region ?_
    refine o_mv rfl rfl  ?_
    refine o_rnS rfl rfl (fun c364 => ?_) fun c364 => ?_
    · replace hm := ip hm c364
      (first | refine owp_nilT ?_ | refine owp_nilB ?_ | refine owp_nilBB ?_ | refine owp_nil ?_)
      refine ewp_true rfl ?_
      refine ewp_seq ?_
      refine ewp_region ?_
      refine o_as rfl rfl  ?_
      (first | refine owp_nilT ?_ | refine owp_nilB ?_ | refine owp_nilBB ?_ | refine owp_nil ?_)
      refine ewp_ret ?_
      obtain rfl := sm hm
      exact ret1v rfl (res_tmp rfl) ⟨hB.ext, vBool⟩
    · replace hm := im hm c364
      (first | refine owp_nilT ?_ | refine owp_nilB ?_ | refine owp_nilBB ?_ | refine owp_nil ?_)
      refine ewp_false rfl ?_
      refine ewp_skip ?_
      refine ewp_seq ?_
      refine ewp_region ?_
      refine o_la (hl := rfl) (hc := (h37.1).cellsAt) rfl rfl  ?_
      refine o_la (hl := rfl) (hc := (h42.1).cellsAt) rfl rfl  ?_
      refine o_mv rfl rfl  ?_
      obtain ⟨q365, e366, hm⟩ := bs hm
      refine l_call (O := O354) (R := fun w' F v => T2 w' F v q365) (c_symmetry_Plan Fr.lt (Vb.ofAgg (cs := [(.slice A7 x0.vars.length c8), (.slice A10 x0.init.length c11), (.slice A13 x0.goal.length c14), (.slice A16 x0.ops.length c17)]) (x := x0) rfl ⟨_, _, _, _, rfl, h6, h9, h12, h15⟩) (Vb.ofAgg (cs := [(.slice A23 x1.vars.length c24), (.slice A26 x1.vals.length c27), (.slice A29 x1.ops.length c30)]) (x := x1) rfl ⟨_, _, _, rfl, h22, h25, h28⟩) hx2 e366) rfl rfl fun v371 w367 O368 S369 h370 => ?_
      obtain ⟨v372, v373, rfl, h374, h375⟩ := h370
      obtain ⟨A376, c377, rfl⟩ := h374.form
      obtain ⟨rfl, r378⟩ := h375.err
      replace hB := hB.st S369 (fun h => h) (fun h => h)
      replace h37 := h37.st S369 (fun h => h)
      replace h6 := h6.st S369 (fun h => h)
      replace h9 := h9.st S369 (fun h => h)
      replace h12 := h12.st S369 (fun h => h)
      replace h15 := h15.st S369 (fun h => h)
      replace h42 := h42.st S369 (fun h => h)
      replace h22 := h22.st S369 (fun h => h)
      replace h25 := h25.st S369 (fun h => h)
      replace h28 := h28.st S369 (fun h => h)
      refine o_mv rfl rfl  ?_
      refine o_ex rfl rfl rfl  ?_
      refine o_ex rfl rfl rfl  ?_
      refine o_as rfl rfl  ?_
      refine o_as rfl rfl  ?_
      (first | refine owp_nilT ?_ | refine owp_nilB ?_ | refine owp_nilBB ?_ | refine owp_nil ?_)
      refine ewp_seq ?_
      refine ewp_region ?_
      refine o_la (hl := rfl) (hc := (h37.1).cellsAt) rfl rfl  ?_
      refine o_la (hl := rfl) (hc := (h42.1).cellsAt) rfl rfl  ?_
      refine o_fa rfl rfl  ?_
      refine o_ld (hc := Blk.cell (i := 1) (h37.1) rfl) rfl rfl  ?_
      obtain ⟨q379, e380, hm⟩ := bs hm
      refine l_call (O := O368) (R := fun w' F v => T2 w' F v q379) (c_symmetry_State Fr.lt (Vb.ofAgg (cs := [(.slice A7 x0.vars.length c8), (.slice A10 x0.init.length c11), (.slice A13 x0.goal.length c14), (.slice A16 x0.ops.length c17)]) (x := x0) rfl ⟨_, _, _, _, rfl, h6, h9, h12, h15⟩) (Vb.ofAgg (cs := [(.slice A23 x1.vars.length c24), (.slice A26 x1.vals.length c27), (.slice A29 x1.ops.length c30)]) (x := x1) rfl ⟨_, _, _, rfl, h22, h25, h28⟩) h9 e380) rfl rfl fun v385 w381 O382 S383 h384 => ?_
      obtain ⟨v386, v387, rfl, h388, h389⟩ := h384
      obtain ⟨A390, c391, rfl⟩ := h388.form
      obtain ⟨rfl, r392⟩ := h389.err
      replace hB := hB.st S383 (fun h => h) (fun h => h)
      replace h37 := h37.st S383 (fun h => h)
      replace h6 := h6.st S383 (fun h => h)
      replace h9 := h9.st S383 (fun h => h)
      replace h12 := h12.st S383 (fun h => h)
      replace h15 := h15.st S383 (fun h => h)
      replace h374 := h374.st S383 (fun h => h)
      refine o_mv rfl rfl  ?_
      refine o_ex rfl rfl rfl  ?_
      refine o_ex rfl rfl rfl  ?_
      refine o_as rfl rfl  ?_
      refine o_as rfl rfl  ?_
      (first | refine owp_nilT ?_ | refine owp_nilB ?_ | refine owp_nilBB ?_ | refine owp_nil ?_)
      refine ewp_seq ?_
      refine ewp_seq ?_
      obtain ⟨y393, hy394, hm⟩ := bs hm
      refine ewp_join (fun l' w' => ∃ (x396 : Unit) (O' : Lab), subs l' [(3, (.pointer (some ⟨g33, 0, none⟩))), (19, (.int .i64 q351.1)), (21, (.slice A376 q365.1.length c377)), (22, (.slice A390 q379.1.length c391)), (186, (.bool y393))] ∧ Bs w A w' O' ∧ Lc 2 w' O' g33 26 [(.slice A7 x0.vars.length c8), (.slice A10 x0.init.length c11), (.slice A13 x0.goal.length c14), (.slice A16 x0.ops.length c17)] ∧ Vb w' (Fr 0 w' O') (.slice A7 x0.vars.length c8) x0.vars ∧ Vb w' (Fr 0 w' O') (.slice A10 x0.init.length c11) x0.init ∧ Vb w' (Fr 0 w' O') (.slice A13 x0.goal.length c14) x0.goal ∧ Vb w' (Fr 0 w' O') (.slice A16 x0.ops.length c17) x0.ops ∧ Vb w' (Fr 0 w' O') (.slice A376 q365.1.length c377) q365.1 ∧ Vb w' (Fr 0 w' O') (.slice A390 q379.1.length c391) q379.1) ?_ ?_
      · skip
        refine ewp_region ?_
        refine o_mv rfl rfl  ?_
        refine o_rnS rfl rfl (fun c397 => ?_) fun c397 => ?_
        · replace hy394 := ip hy394 c397
          refine o_mv rfl rfl  ?_
          refine owp_no rfl rfl rfl rfl ?_
          refine owp_no rfl rfl rfl rfl ?_
          refine o_pt rfl rfl rfl  ?_
          (first | refine owp_nilT ?_ | refine owp_nilB ?_ | refine owp_nilBB ?_ | refine owp_nil ?_)
          obtain rfl := sm hy394
          exact ⟨(), _, ⟨rfl, rfl, rfl, rfl, rfl, trivial⟩, hB, h37, h6, h9, h12, h15, h374, h388⟩
        · replace hy394 := im hy394 c397
          refine o_mv rfl rfl  ?_
          refine owp_yes rfl rfl ?_
          refine o_mv rfl rfl  ?_
          refine owp_yes rfl rfl ?_
          refine o_rnS rfl rfl (fun c398 => ?_) fun c398 => ?_
          · replace hy394 := ip hy394 c398
            refine o_pf rfl rfl rfl  ?_
            (first | refine owp_nilT ?_ | refine owp_nilB ?_ | refine owp_nilBB ?_ | refine owp_nil ?_)
            obtain rfl := sm hy394
            exact ⟨(), _, ⟨rfl, rfl, rfl, rfl, rfl, trivial⟩, hB, h37, h6, h9, h12, h15, h374, h388⟩
          · replace hy394 := im hy394 c398
            refine o_pf rfl rfl rfl  ?_
            (first | refine owp_nilT ?_ | refine owp_nilB ?_ | refine owp_nilBB ?_ | refine owp_nil ?_)
            obtain rfl := sm hy394
            exact ⟨(), _, ⟨rfl, rfl, rfl, rfl, rfl, trivial⟩, hB, h37, h6, h9, h12, h15, h374, h388⟩
      rintro l399 w400 ⟨x396, O401, hs402, hB, h37, h6, h9, h12, h15, h374, h388⟩
      refine ewp_sub _ hs402 ?_
      refine ewp_cond rfl (fun c403 => ?_) (fun c403 => ?_)
      · replace hm := ip hm c403
        refine ewp_seq ?_
        refine ewp_region ?_
        refine o_as rfl rfl  ?_
        (first | refine owp_nilT ?_ | refine owp_nilB ?_ | refine owp_nilBB ?_ | refine owp_nil ?_)
        refine ewp_ret ?_
        obtain rfl := sm hm
        exact ret1v rfl (res_tmp rfl) ⟨hB.ext, vBool⟩
      · replace hm := im' hm c403
        refine ewp_skip ?_
        refine ewp_seq ?_
        refine ewp_region ?_
        refine o_la (hl := rfl) (hc := (h37.1).cellsAt) rfl rfl  ?_
        refine o_mv rfl rfl  ?_
        refine o_mv rfl rfl  ?_
        obtain ⟨q404, e405, hm⟩ := bs hm
        refine l_callA (O := O401) (A := All w400) (R := fun w' F v => T2 w' F v q404) (c_base_Cost (fun _ h => h) (Vb.mono (F := Fr 0 w400 O401) (Vb.ofAgg (cs := [(.slice A7 x0.vars.length c8), (.slice A10 x0.init.length c11), (.slice A13 x0.goal.length c14), (.slice A16 x0.ops.length c17)]) (x := x0) rfl ⟨_, _, _, _, rfl, h6, h9, h12, h15⟩) Fr.lt) (Vb.mono (F := Fr 0 w400 O401) h388 Fr.lt) (Vb.mono (F := Fr 0 w400 O401) h374 Fr.lt) e405) rfl rfl fun v410 w406 O407 S408 h409 => ?_
        obtain ⟨v411, v412, rfl, h413, h414⟩ := h409
        obtain ⟨rfl, r415⟩ := h413.int
        obtain rfl := h414.bool
        replace hB := hB.st S408 (fun h => h) (fun h => h)
        refine o_mv rfl rfl  ?_
        refine o_ex rfl rfl rfl  ?_
        refine o_ex rfl rfl rfl  ?_
        refine o_as rfl rfl  ?_
        refine o_as rfl rfl  ?_
        (first | refine owp_nilT ?_ | refine owp_nilB ?_ | refine owp_nilBB ?_ | refine owp_nil ?_)
        refine ewp_seq ?_
        obtain ⟨y416, hy417, hm⟩ := bs hm
        refine ewp_join (fun l' w' => ∃ (x419 : Unit) (O' : Lab), subs l' [(6, (.bool y416))] ∧ Bs w A w' O') ?_ ?_
        · skip
          refine ewp_region ?_
          refine o_mv rfl rfl  ?_
          refine o_mv rfl rfl  ?_
          rcases Bool.eq_false_or_eq_true q404.2 with c420 | c420
          · try simp only [c420]
            replace hy417 := ip hy417 c420
            refine owp_yes rfl rfl ?_
            refine o_mv rfl rfl  ?_
            refine owp_yes rfl rfl ?_
            refine o_mv rfl rfl  ?_
            refine owp_yes rfl rfl ?_
            refine o_eeS rfl rfl rfl (fun c421 => ?_) fun c421 => ?_
            · replace hy417 := ip hy417 c421
              refine o_pt rfl rfl rfl  ?_
              refine o_as rfl rfl  ?_
              (first | refine owp_nilT ?_ | refine owp_nilB ?_ | refine owp_nilBB ?_ | refine owp_nil ?_)
              obtain rfl := sm hy417
              exact ⟨(), _, ⟨rfl, trivial⟩, hB⟩
            · replace hy417 := im hy417 c421
              refine o_pt rfl rfl rfl  ?_
              refine o_as rfl rfl  ?_
              (first | refine owp_nilT ?_ | refine owp_nilB ?_ | refine owp_nilBB ?_ | refine owp_nil ?_)
              obtain rfl := sm hy417
              exact ⟨(), _, ⟨rfl, trivial⟩, hB⟩
          · try simp only [c420]
            replace hy417 := im' hy417 c420
            refine owp_no rfl rfl rfl rfl ?_
            refine owp_no rfl rfl rfl rfl ?_
            refine owp_no rfl rfl rfl rfl ?_
            refine o_pf rfl rfl rfl  ?_
            refine o_as rfl rfl  ?_
            (first | refine owp_nilT ?_ | refine owp_nilB ?_ | refine owp_nilBB ?_ | refine owp_nil ?_)
            obtain rfl := sm hy417
            exact ⟨(), _, ⟨rfl, trivial⟩, hB⟩
        rintro l422 w423 ⟨x419, O424, hs425, hB⟩
        refine ewp_sub _ hs425 ?_
        refine ewp_ret ?_
        obtain rfl := sm hm
        exact ret1v rfl (res_tmp rfl) ⟨hB.ext, vBool⟩
end Go.Proofs.Ytdhaelekmjgbmaa

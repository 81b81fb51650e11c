/- Own text: what the proof of exploreStates_holds uses, part 5: rules, models and their proofs, plain laws. -/
import Derived.Test.YtkbmbcblgdgjlaaGreatESD
set_option linter.unusedVariables false
set_option linter.unusedSimpArgs false
namespace Go.Proofs.YtkbmbcblgdgjlaaGreat
open Go Go.RowKit
section
open Go Go.RowKit
attribute [local irreducible] ewp owp hwp hwq hws Ev Evg Fn retPost loud loudS Res1
attribute [local irreducible] hwx loudX
noncomputable def m_explore_Explore (x0 : Tsk) (x1 : Int) : Option ((Option Spa) × Err) :=
  bnd (m_succgen_New x0) fun q25 => if q25.2.n ≠ 0 then (some (none, (⟨q25.2.n⟩ : Err))) else (bnd (m_registry_New x0.vars) fun q40 => if q40.2.n ≠ 0 then (some (none, (⟨q40.2.n⟩ : Err))) else (if (max 0 (min x1 65536)) < 1 then (some (none, (⟨10⟩ : Err))) else (bnd q40.1 fun o54 => bnd (m_registry_Registry_Add o54 x0.init) fun q57 => if q57.2.2.1.n ≠ 0 then (some (none, (⟨q57.2.2.1.n⟩ : Err))) else (bnd (m_explore_copied x0) fun q74 => bnd (lop (ρ := (Option Spa) × Err) (fun (s105 : Int × (List Edj) × (List Bool) × Reg) => bnd (m_registry_Registry_Len s105.2.2.2) fun q130 => if s105.1 < q130 then (bnd (m_registry_Registry_State s105.2.2.2 s105.1) fun q141 => if q141.2.n ≠ 0 then (some (.ret (none, (⟨q141.2.n⟩ : Err)))) else (bnd (bnd (m_task_Holds x0.goal q141.1) fun q163 => if q163 = true then bnd (appI 1 s105.2.2.1 [true]) fun u195 => some u195 else bnd (appI 1 s105.2.2.1 [false]) fun u176 => some u176 : Option (List Bool)) fun y157 => bnd (m_succgen_Generator_Successors q25.1 q141.1) fun q212 => bnd (rng (ρ := Ctl (Int × (List Edj) × (List Bool) × Reg) ((Option Spa) × Err)) (fun (k227 : Nat) (a228 : Suc) (s225 : (List Edj) × Reg) => bnd (m_registry_Registry_Add s225.2 a228.state) fun q263 => bnd (bnd (m_errors_Is (⟨q263.2.2.1.n⟩ : Err) (⟨10⟩ : Err)) fun q283 => if q283 = true then some true else if q263.2.1 = true then (if (max 0 (min x1 65536)) ≤ q263.1 then (some true) else (some false)) else (some false) : Option Bool) fun y279 => if y279 = true then (some (.ret (.ret (none, (⟨10⟩ : Err))))) else (if q263.2.2.1.n ≠ 0 then (some (.ret (.ret (none, (⟨q263.2.2.1.n⟩ : Err))))) else (bnd (appI 24 s225.1 [(⟨s105.1, a228.op, q263.1⟩ : Edj)]) fun u304 => some (.next (u304, q263.2.2.2))))) q212 0 (s105.2.1, s105.2.2.2)) fun res223 => fin res223 fun (s321 : (List Edj) × Reg) => bnd (chkI (s105.1 + 1)) fun n323 => some (.next (n323, s321.1, y157, s321.2)))) else (some (.brk (s105.1, s105.2.1, s105.2.2.1, s105.2.2.2)))) (0, ([] : List Edj), ([] : List Bool), q57.2.2.2)) fun res103 => fin res103 fun (s330 : Int × (List Edj) × (List Bool) × Reg) => bnd (m_explore_Space_measure (⟨(⟨q74.vars, q74.init, q74.goal, q74.ops⟩ : Tsk), s330.2.2.2, s330.2.1, s330.2.2.1, ([] : List Int), ([] : List Int), ([] : List Int)⟩ : Spa)) fun q341 => some ((some q341), (⟨0⟩ : Err))))))
theorem c_explore_Explore {w : World} {O : Lab} {vx0 : Value} {x0 : Tsk} (hx0 : Vb w (Fr 0 w O) vx0 x0) {x1 : Int} (rx1 : inI64 x1) (j0 : Nat) (hj0 : j0 ≠ 0) {r : (Option Spa) × Err} (hm : m_explore_Explore x0 x1 = some r) :
    Fn Tryz.prog 12 [vx0, (.int .i64 x1)] w fun v w' => ∃ O', St nT w O w' O' ∧ ∃ v0 v1 : Value, v = .tuple #[v0, v1] ∧ Obo j0 w' O' v0 r.1 ∧ Vb w' (Fr 0 w' O') v1 r.2 := by
 obtain ⟨O0, hE, hz0⟩ := ent0 (w := w) (O := O)
 have hB : Bm w O0 w O0 := Bm.refl
 replace hx0 := hx0.mono hz0
 obtain ⟨cs3, rfl, v4, v5, v6, v7, rfl, h8, h11, h14, h17⟩ := hx0
 obtain ⟨A9, c10, rfl⟩ := h8.form
 obtain ⟨A12, c13, rfl⟩ := h11.form
 obtain ⟨A15, c16, rfl⟩ := h14.form
 obtain ⟨A18, c19, rfl⟩ := h17.form
 refine fn_enter Tryz.func12 rfl Tryz.ntmps12 rfl ?_
 unfold m_explore_Explore at hm
 refine ewp_seq (ewp_region (l_box 2 O0 rfl rfl fun g20 w21 O22 S23 h24 => ?_))
 replace h24 : Lc 2 w21 O22 g20 26 [(.slice A9 x0.vars.length c10), (.slice A12 x0.init.length c13), (.slice A15 x0.goal.length c16), (.slice A18 x0.ops.length c19)] := h24
 refine o_as rfl rfl (o_as rfl rfl (o_z ?_))
 refine ewp_seq (ewp_region (o_la (hl := rfl) (hc := (h24.1).cellsAt) rfl rfl ?_))
 obtain ⟨q25, e26, hm⟩ := bs hm
 replace h8 := h8.st S23
 replace h11 := h11.st S23
 replace h14 := h14.st S23
 replace h17 := h17.st S23
 refine l_call (O := O22) (R := fun w' F v => T2 w' F v q25) (c_succgen_New Fr.lt (Vb.ofAgg (cs := [(.slice A9 x0.vars.length c10), (.slice A12 x0.init.length c13), (.slice A15 x0.goal.length c16), (.slice A18 x0.ops.length c19)]) (x := x0) rfl ⟨_, _, _, _, rfl, h8, h11, h14, h17⟩) e26) rfl rfl fun v31 w27 O28 S29 h30 => ?_
 obtain ⟨v32, v33, rfl, h34, h35⟩ := h30
 obtain ⟨p36, rfl, hq37⟩ := h34.ptr
 obtain ⟨rfl, r38⟩ := h35.err
 refine o_mv rfl rfl (o_ex rfl rfl rfl (o_ex rfl rfl rfl (o_as rfl rfl (o_as rfl rfl (o_z ?_)))))
 refine ewp_seq (ewp_seq (ewp_region (o_mv rfl rfl (o_rnS rfl rfl (fun c39 => ?_) fun c39 => ?_))))
 ·
  replace hm := ip hm c39
  refine o_z ?_
  refine ewp_true rfl (ewp_seq (ewp_region (o_mv rfl rfl (o_as rfl rfl (o_as rfl rfl (o_z ?_))))))
  refine ewp_ret ?_
  obtain rfl := sm hm
  replace hB := (hB.st S23).st S29
  obtain ⟨O', hS', hz, hl⟩ := hE.leave (fun _ => 0) rfl hB
  exact ret2 rfl (res_tmp rfl) (res_tmp rfl) ⟨O', hS', _, _, rfl, rfl, (vErr r38)⟩
 replace hm := im hm c39
 refine o_z ?_
 refine ewp_false rfl (ewp_skip (ewp_seq (ewp_region (o_mv rfl rfl (o_min rfl rfl rfl ?_)))))
 refine o_max rfl rfl rfl ?_
 refine o_as rfl rfl (o_z ?_)
 refine ewp_seq (ewp_region (o_fa rfl rfl ?_))
 replace h24 := h24.st S29
 refine o_ld (hc := Blk.cell (i := 0) (h24.1) rfl) rfl rfl ?_
 obtain ⟨q40, e41, hm⟩ := bs hm
 replace h8 := h8.st S29
 refine l_callM (O := O28) (c_registry_New h8 3 (by decide) e41) rfl rfl fun v46 w42 O43 S44 h45 => ?_
 obtain ⟨v47, v48, rfl, h49, h50⟩ := h45
 obtain ⟨rfl, r51⟩ := h50.err
 refine o_mv rfl rfl (o_ex rfl rfl rfl (o_ex rfl rfl rfl (o_as rfl rfl (o_as rfl rfl (o_z ?_)))))
 refine ewp_seq (ewp_seq (ewp_region (o_mv rfl rfl (o_rnS rfl rfl (fun c52 => ?_) fun c52 => ?_))))
 ·
  replace hm := ip hm c52
  refine o_z ?_
  refine ewp_true rfl (ewp_seq (ewp_region (o_mv rfl rfl (o_as rfl rfl (o_as rfl rfl (o_z ?_))))))
  refine ewp_ret ?_
  obtain rfl := sm hm
  replace hB := ((hB.st S23).st S29).st S44
  obtain ⟨O', hS', hz, hl⟩ := hE.leave (fun _ => 0) rfl hB
  exact ret2 rfl (res_tmp rfl) (res_tmp rfl) ⟨O', hS', _, _, rfl, rfl, (vErr r51)⟩
 replace hm := im hm c52
 refine o_z ?_
 refine ewp_false rfl (ewp_skip (ewp_seq (ewp_seq (ewp_region (o_mv rfl rfl (o_ltS rfl rfl rfl (fun c53 => ?_) fun c53 => ?_))))))
 ·
  replace hm := ip hm c53
  refine o_z ?_
  refine ewp_true rfl (ewp_seq (ewp_region (o_miE rfl rfl ?_)))
  refine o_as rfl rfl (o_as rfl rfl (o_z ?_))
  refine ewp_ret ?_
  obtain rfl := sm hm
  replace hB := ((hB.st S23).st S29).st S44
  obtain ⟨O', hS', hz, hl⟩ := hE.leave (fun _ => 0) rfl hB
  exact ret2 rfl (res_tmp rfl) (res_tmp rfl) ⟨O', hS', _, _, rfl, rfl, (vErr (by decide))⟩
 replace hm := im hm c53
 refine o_z ?_
 refine ewp_false rfl (ewp_skip (ewp_seq (ewp_seq (ewp_region (o_mv rfl rfl (o_fa rfl rfl ?_))))))
 replace h24 := h24.st S44
 refine o_ld (hc := Blk.cell (i := 1) (h24.1) rfl) rfl rfl ?_
 obtain ⟨o54, e55, hm⟩ := bs hm
 rw [e55] at h49
 obtain ⟨p56, rfl⟩ := Ob.ptr h49
 obtain ⟨q57, e58, hm⟩ := bs hm
 replace h11 := (h11.st S29).st S44
 refine l_callM (O := O43) (c_registry_Registry_Add h49 h11 e58) rfl rfl fun v63 w59 O60 S61 h62 => ?_
 obtain ⟨v65, v66, v67, h64, rfl, h68, h69, h70⟩ := h62
 obtain ⟨rfl, r71⟩ := h68.int
 obtain rfl := h69.bool
 obtain ⟨rfl, r72⟩ := h70.err
 refine o_mv rfl rfl (o_ex rfl rfl rfl (o_ex rfl rfl rfl (o_ex rfl rfl rfl (o_as rfl rfl (o_as rfl rfl (o_as rfl rfl (o_z ?_)))))))
 refine ewp_seq (ewp_region (o_mv rfl rfl (o_rnS rfl rfl (fun c73 => ?_) fun c73 => ?_)))
 ·
  replace hm := ip hm c73
  refine o_z ?_
  refine ewp_true rfl (ewp_seq (ewp_region (o_mv rfl rfl (o_as rfl rfl (o_as rfl rfl (o_z ?_))))))
  refine ewp_ret ?_
  obtain rfl := sm hm
  replace hB := (((hB.st S23).st S29).st S44).st S61
  obtain ⟨O', hS', hz, hl⟩ := hE.leave (fun _ => 0) rfl hB
  exact ret2 rfl (res_tmp rfl) (res_tmp rfl) ⟨O', hS', _, _, rfl, rfl, (vErr r72)⟩
 replace hm := im hm c73
 refine o_z ?_
 refine ewp_false rfl (ewp_skip (ewp_seq (ewp_region ?_)))
 replace h24 := h24.st S61
 refine o_la (hl := rfl) (hc := (h24.1).cellsAt) rfl rfl ?_
 obtain ⟨q74, e75, hm⟩ := bs hm
 replace h8 := (h8.st S44).st S61
 replace h11 := h11.st S61
 replace h14 := ((h14.st S29).st S44).st S61
 replace h17 := ((h17.st S29).st S44).st S61
 refine l_call (O := O60) (R := fun w' F v => Vb w' F v q74) (c_explore_copied Fr.lt (Vb.ofAgg (cs := [(.slice A9 x0.vars.length c10), (.slice A12 x0.init.length c13), (.slice A15 x0.goal.length c16), (.slice A18 x0.ops.length c19)]) (x := x0) rfl ⟨_, _, _, _, rfl, h8, h11, h14, h17⟩) e75) rfl rfl fun v80 w76 O77 S78 h79 => ?_
 obtain ⟨cs81, rfl, v82, v83, v84, v85, rfl, h86, h89, h92, h95⟩ := h79
 obtain ⟨A87, c88, rfl⟩ := h86.form
 obtain ⟨A90, c91, rfl⟩ := h89.form
 obtain ⟨A93, c94, rfl⟩ := h92.form
 obtain ⟨A96, c97, rfl⟩ := h95.form
 refine o_mv rfl rfl (o_bd rfl rfl rfl ?_)
 refine l_box 4 O77 rfl rfl fun g98 w99 O100 S101 h102 => ?_
 replace h102 : Lc 4 w99 O100 g98 87 [(.slice A87 q74.vars.length c88), (.slice A90 q74.init.length c91), (.slice A93 q74.goal.length c94), (.slice A96 q74.ops.length c97), (.pointer (some ⟨p56, 0, none⟩)), (.slice none 0 0), (.slice none 0 0), (.slice none 0 0), (.slice none 0 0), (.slice none 0 0)] := h102
 refine o_as rfl rfl (o_z ?_)
 refine ewp_seq (ewp_seq (ewp_region (o_as rfl rfl (o_z ?_))))
 obtain ⟨res103, hL104, hm⟩ := bs hm
 refine ewp_join (aft res103 (fun (s105 : Int × (List Edj) × (List Bool) × Reg) (x106 : (Option Addr × Nat) × (Option Addr × Nat)) => [(12, (.pointer (some ⟨g98, 0, none⟩)))]) (fun s105 x106 w' => ∃ O' : Lab, Bm w O0 w' O' ∧ Lc 4 w' O' g98 87 [(.slice A87 q74.vars.length c88), (.slice A90 q74.init.length c91), (.slice A93 q74.goal.length c94), (.slice A96 q74.ops.length c97), (.pointer (some ⟨p56, 0, none⟩)), (.slice x106.1.1 s105.2.1.length x106.1.2), (.slice x106.2.1 s105.2.2.1.length x106.2.2), (.slice none 0 0), (.slice none 0 0), (.slice none 0 0)] ∧ Vb w' (Fr 0 w' O') (.slice A87 q74.vars.length c88) q74.vars ∧ Vb w' (Fr 0 w' O') (.slice A90 q74.init.length c91) q74.init ∧ Vb w' (Fr 0 w' O') (.slice A93 q74.goal.length c94) q74.goal ∧ Vb w' (Fr 0 w' O') (.slice A96 q74.ops.length c97) q74.ops ∧ Ob 3 w' O' (.pointer (some ⟨p56, 0, none⟩)) s105.2.2.2 ∧ Rw 9 w' O' 94 (.slice x106.1.1 s105.2.1.length x106.1.2) s105.2.1 ∧ Rw 6 w' O' 4 (.slice x106.2.1 s105.2.2.1.length x106.2.2) s105.2.2.1 ∧ inI64 s105.1)) ?_ ?_
 ·
  refine ewp_block ?_
  replace hB := (((((hB.st S23).st S29).st S44).st S61).st S78).st S101
  replace h8 := (h8.st S78).st S101
  replace h11 := (h11.st S78).st S101
  replace h14 := (h14.st S78).st S101
  replace h17 := (h17.st S78).st S101
  replace h24 := (h24.st S78).st S101
  replace h34 := (((h34.st S44).st S61).st S78).st S101
  replace h64 := (h64.st S78).st S101
  replace h86 := h86.st S101
  replace h89 := h89.st S101
  replace h92 := h92.st S101
  replace h95 := h95.st S101
  refine ewp_lop (σ := Int × (List Edj) × (List Bool) × Reg) (X := (Option Addr × Nat) × (Option Addr × Nat)) hL104 (fun (s105 : Int × (List Edj) × (List Bool) × Reg) (x106 : (Option Addr × Nat) × (Option Addr × Nat)) => [(1, (.int .i64 (max 0 (min x1 65536)))), (2, (.pointer (some ⟨g20, 0, none⟩))), (6, (.pointer p36)), (8, (.pointer (some ⟨p56, 0, none⟩))), (12, (.pointer (some ⟨g98, 0, none⟩))), (13, (.int .i64 s105.1))]) _ (fun s105 x106 w' => ∃ O' : Lab, Bm w O0 w' O' ∧ Lc 2 w' O' g20 26 [(.slice A9 x0.vars.length c10), (.slice A12 x0.init.length c13), (.slice A15 x0.goal.length c16), (.slice A18 x0.ops.length c19)] ∧ Vb w' (Fr 0 w' O') (.slice A9 x0.vars.length c10) x0.vars ∧ Vb w' (Fr 0 w' O') (.slice A12 x0.init.length c13) x0.init ∧ Vb w' (Fr 0 w' O') (.slice A15 x0.goal.length c16) x0.goal ∧ Vb w' (Fr 0 w' O') (.slice A18 x0.ops.length c19) x0.ops ∧ Vb w' (Fr 0 w' O') (.pointer p36) q25.1 ∧ Ob 3 w' O' (.pointer (some ⟨p56, 0, none⟩)) s105.2.2.2 ∧ Lc 4 w' O' g98 87 [(.slice A87 q74.vars.length c88), (.slice A90 q74.init.length c91), (.slice A93 q74.goal.length c94), (.slice A96 q74.ops.length c97), (.pointer (some ⟨p56, 0, none⟩)), (.slice x106.1.1 s105.2.1.length x106.1.2), (.slice x106.2.1 s105.2.2.1.length x106.2.2), (.slice none 0 0), (.slice none 0 0), (.slice none 0 0)] ∧ Vb w' (Fr 0 w' O') (.slice A87 q74.vars.length c88) q74.vars ∧ Vb w' (Fr 0 w' O') (.slice A90 q74.init.length c91) q74.init ∧ Vb w' (Fr 0 w' O') (.slice A93 q74.goal.length c94) q74.goal ∧ Vb w' (Fr 0 w' O') (.slice A96 q74.ops.length c97) q74.ops ∧ Rw 9 w' O' 94 (.slice x106.1.1 s105.2.1.length x106.1.2) s105.2.1 ∧ Rw 6 w' O' 4 (.slice x106.2.1 s105.2.2.1.length x106.2.2) s105.2.2.1 ∧ inI64 s105.1) _ ((none, 0), (none, 0)) ⟨O100, hB, h24, h8, h11, h14, h17, h34, h64, h102, h86, h89, h92, h95, (Rw.nil 9 (by decide)), (Rw.nil 6 (by decide)), (show inI64 (0) from by decide)⟩ ⟨rfl, rfl, rfl, rfl, rfl, rfl, trivial⟩ ?_
  rintro s105 x106 w109 cc111 ⟨O110, hB, h24, h8, h11, h14, h17, h34, h129, h102, h86, h89, h92, h95, h125, h127, r124⟩ hf113 hret114 hbrk115
  refine ewp_seq (ewp_seq (ewp_region (o_mv rfl rfl (o_mv rfl rfl ?_))))
  obtain ⟨q130, e131, hf113⟩ := bs hf113
  refine l_callM (O := O110) (c_registry_Registry_Len h129 e131) rfl rfl fun v136 w132 O133 S134 h135 => ?_
  obtain ⟨h137, h138⟩ := h135
  obtain ⟨rfl, r139⟩ := h138.int
  refine o_ltS rfl rfl rfl (fun c140 => ?_) fun c140 => ?_
  ·
   replace hf113 := ip hf113 c140
   refine o_z ?_
   refine ewp_true rfl (ewp_skip (ewp_seq (ewp_block (ewp_seq (ewp_region (o_mv rfl rfl (o_mv rfl rfl ?_)))))))
   obtain ⟨q141, e142, hf113⟩ := bs hf113
   refine l_callM (O := O133) (c_registry_Registry_State h137 r124 e142) rfl rfl fun v147 w143 O144 S145 h146 => ?_
   obtain ⟨v149, v150, h148, rfl, h151, h152⟩ := h146
   obtain ⟨A153, c154, rfl⟩ := h151.form
   obtain ⟨rfl, r155⟩ := h152.err
   refine o_mv rfl rfl (o_ex rfl rfl rfl (o_ex rfl rfl rfl (o_as rfl rfl (o_as rfl rfl (o_z ?_)))))
   refine ewp_seq (ewp_seq (ewp_region (o_mv rfl rfl (o_rnS rfl rfl (fun c156 => ?_) fun c156 => ?_))))
   ·
    replace hf113 := ip hf113 c156
    refine o_z ?_
    refine ewp_true rfl (ewp_seq (ewp_region (o_mv rfl rfl (o_as rfl rfl (o_as rfl rfl (o_z ?_))))))
    refine ewp_ret ?_
    obtain rfl := sm hf113
    obtain rfl := hret114 _ rfl
    obtain rfl := sm (fin_ret hm)
    replace hB := (hB.st S134).st S145
    obtain ⟨O', hS', hz, hl⟩ := hE.leave (fun _ => 0) rfl hB
    exact ret2 rfl (res_tmp rfl) (res_tmp rfl) ⟨O', hS', _, _, rfl, rfl, (vErr r155)⟩
   replace hf113 := im hf113 c156
   refine o_z ?_
   refine ewp_false rfl (ewp_skip (ewp_seq ?_))
   obtain ⟨y157, hy158, hf113⟩ := bs hf113
   refine ewp_join (fun l' w' => ∃ (x160 : (Option Addr × Nat)) (O' : Lab), subs l' [(1, (.int .i64 (max 0 (min x1 65536)))), (2, (.pointer (some ⟨g20, 0, none⟩))), (6, (.pointer p36)), (8, (.pointer (some ⟨p56, 0, none⟩))), (12, (.pointer (some ⟨g98, 0, none⟩))), (13, (.int .i64 s105.1)), (14, (.slice A153 q141.1.length c154))] ∧ Bm w O0 w' O' ∧ Lc 2 w' O' g20 26 [(.slice A9 x0.vars.length c10), (.slice A12 x0.init.length c13), (.slice A15 x0.goal.length c16), (.slice A18 x0.ops.length c19)] ∧ Vb w' (Fr 0 w' O') (.slice A9 x0.vars.length c10) x0.vars ∧ Vb w' (Fr 0 w' O') (.slice A12 x0.init.length c13) x0.init ∧ Vb w' (Fr 0 w' O') (.slice A15 x0.goal.length c16) x0.goal ∧ Vb w' (Fr 0 w' O') (.slice A18 x0.ops.length c19) x0.ops ∧ Vb w' (Fr 0 w' O') (.pointer p36) q25.1 ∧ Ob 3 w' O' (.pointer (some ⟨p56, 0, none⟩)) s105.2.2.2 ∧ Lc 4 w' O' g98 87 [(.slice A87 q74.vars.length c88), (.slice A90 q74.init.length c91), (.slice A93 q74.goal.length c94), (.slice A96 q74.ops.length c97), (.pointer (some ⟨p56, 0, none⟩)), (.slice x106.1.1 s105.2.1.length x106.1.2), (.slice x160.1 y157.length x160.2), (.slice none 0 0), (.slice none 0 0), (.slice none 0 0)] ∧ Vb w' (Fr 0 w' O') (.slice A87 q74.vars.length c88) q74.vars ∧ Vb w' (Fr 0 w' O') (.slice A90 q74.init.length c91) q74.init ∧ Vb w' (Fr 0 w' O') (.slice A93 q74.goal.length c94) q74.goal ∧ Vb w' (Fr 0 w' O') (.slice A96 q74.ops.length c97) q74.ops ∧ Rw 9 w' O' 94 (.slice x106.1.1 s105.2.1.length x106.1.2) s105.2.1 ∧ Rw 6 w' O' 4 (.slice x160.1 y157.length x160.2) y157 ∧ Vb w' (Fr 0 w' O') (.slice A153 q141.1.length c154) q141.1) ?_ ?_
   ·
    refine ewp_drawX [(10, [6])] O144 ?_
    refine x_pre (fuel := 7) [] [(1, true), (2, true), (3, true), (4, true), (5, true), (6, true), (7, true)] (by kernel_rfl) rfl ?_
    refine h_mv rfl rfl rfl (h_nc rfl rfl rfl (h_fa rfl rfl rfl ?_))
    replace h102 := (h102.st S134).st S145
    refine h_ldC (hc := fun w' ⟨O', hq⟩ => Blk.cell (i := 6) ((h102.st hq (by decide)).1) rfl) rfl rfl rfl ?_
    refine h_fa rfl rfl rfl ?_
    replace h24 := (h24.st S134).st S145
    refine h_ldC (hc := fun w' ⟨O', hq⟩ => Blk.cell (i := 2) ((h24.st hq (by decide)).1) rfl) rfl rfl rfl ?_
    refine h_mv rfl rfl rfl (hwp_nilT ?_)
    refine x_pre (fuel := 6) [6] [(0, true)] (by kernel_rfl) rfl ?_
    refine h_mv rfl rfl rfl (hwp_nilT ?_)
    refine x_one (i := 8) (by kernel_rfl) rfl ?_
    obtain ⟨q163, e164, hy158⟩ := bs hy158
    replace h14 := (h14.st S134).st S145
    refine l_callA (O := O144) (A := All w143) (R := fun w' F v => Vb w' F v q163) (c_task_Holds (fun _ h => h) (Vb.mono (F := Fr 0 w143 O144) h14 Fr.lt) (Vb.mono (F := Fr 0 w143 O144) h151 Fr.lt) e164) rfl rfl fun v169 w165 O166 S167 h168 => ?_
    obtain rfl := h168.bool
    have hZ := S167.lst [] (fun _ h => h.elim)
    cases q163
    case false =>
     replace hy158 := iF hy158
     refine x_go [(10, [6])] hZ (by kernel_rfl) ?_
     refine x_one (i := 9) (by kernel_rfl) rfl ?_
     refine l_bslice 5 (by decide) O166 (xs := ([false] : List Bool)) rfl rfl rfl rfl ⟨vBool, trivial⟩ (by decide) (by decide) rfl fun g170 w171 O172 S173 h174 => ?_
     have hZ := S173.lst [] (fun _ h => h.elim)
     refine x_go [(10, [6])] hZ (by kernel_rfl) ?_
     refine x_one (i := 10) (by kernel_rfl) rfl ?_
     obtain ⟨u176, e177, hy158⟩ := bs hy158
     obtain ⟨e177, e178, e179⟩ := appI_some e177
     replace h127 := (((h127.st S134).st S145).st S167).st S173
     refine l_append rfl h127 (h174.rd) rfl rfl (by decide) e178 e179 rfl fun A180 c181 w182 O183 S184 h185 => ?_
     rw [← e177] at h185 ⊢
     have hZ := S184.lst [6] (fun _ h => by cases h; decide)
     refine x_go [] hZ (by kernel_rfl) ?_
     refine x_pre (fuel := 1) [] [(11, true), (12, true)] (by kernel_rfl) rfl ?_
     refine h_nc rfl rfl rfl (h_fa rfl rfl rfl (hwp_nilT ?_))
     refine x_one (i := 13) (by kernel_rfl) rfl ?_
     replace h102 := ((h102.st S167).st S173).st S184
     refine l_store h102 rfl rfl rfl (nle_b rfl) (allOne rfl) fun w187 S188 h102 => ?_
     replace h102 : Lc 4 w187 O183 g98 87 [(.slice A87 q74.vars.length c88), (.slice A90 q74.init.length c91), (.slice A93 q74.goal.length c94), (.slice A96 q74.ops.length c97), (.pointer (some ⟨p56, 0, none⟩)), (.slice x106.1.1 s105.2.1.length x106.1.2), (.slice A180 u176.length c181), (.slice none 0 0), (.slice none 0 0), (.slice none 0 0)] := h102
     refine x_end (by kernel_rfl) ?_
     refine x_nil (by kernel_rfl) ?_
     obtain rfl := sm hy158
     replace hB := (((((hB.st S134).st S145).st S167).st S173).st S184).st S188
     replace h8 := (((((h8.st S134).st S145).st S167).st S173).st S184).st S188
     replace h11 := (((((h11.st S134).st S145).st S167).st S173).st S184).st S188
     replace h14 := (((h14.st S167).st S173).st S184).st S188
     replace h17 := (((((h17.st S134).st S145).st S167).st S173).st S184).st S188
     replace h24 := (((h24.st S167).st S173).st S184).st S188
     replace h34 := (((((h34.st S134).st S145).st S167).st S173).st S184).st S188
     replace h86 := (((((h86.st S134).st S145).st S167).st S173).st S184).st S188
     replace h89 := (((((h89.st S134).st S145).st S167).st S173).st S184).st S188
     replace h92 := (((((h92.st S134).st S145).st S167).st S173).st S184).st S188
     replace h95 := (((((h95.st S134).st S145).st S167).st S173).st S184).st S188
     replace h125 := (((((h125.st S134).st S145).st S167).st S173).st S184).st S188
     replace h148 := (((h148.st S167).st S173).st S184).st S188
     replace h151 := (((h151.st S167).st S173).st S184).st S188
     replace h185 := h185.st S188
     exact ⟨(A180, c181), _, ⟨rfl, rfl, rfl, rfl, rfl, rfl, rfl, trivial⟩, hB, h24, h8, h11, h14, h17, h34, h148, h102, h86, h89, h92, h95, h125, h185, h151⟩
    replace hy158 := iT hy158
    refine x_go [(10, [6])] hZ (by kernel_rfl) ?_
    refine x_one (i := 9) (by kernel_rfl) rfl ?_
    refine l_bslice 5 (by decide) O166 (xs := ([true] : List Bool)) rfl rfl rfl rfl ⟨vBool, trivial⟩ (by decide) (by decide) rfl fun g189 w190 O191 S192 h193 => ?_
    have hZ := S192.lst [] (fun _ h => h.elim)
    refine x_go [(10, [6])] hZ (by kernel_rfl) ?_
    refine x_one (i := 10) (by kernel_rfl) rfl ?_
    obtain ⟨u195, e196, hy158⟩ := bs hy158
    obtain ⟨e196, e197, e198⟩ := appI_some e196
    replace h127 := (((h127.st S134).st S145).st S167).st S192
    refine l_append rfl h127 (h193.rd) rfl rfl (by decide) e197 e198 rfl fun A199 c200 w201 O202 S203 h204 => ?_
    rw [← e196] at h204 ⊢
    have hZ := S203.lst [6] (fun _ h => by cases h; decide)
    refine x_go [] hZ (by kernel_rfl) ?_
    refine x_pre (fuel := 1) [] [(11, true), (12, true)] (by kernel_rfl) rfl ?_
    refine h_nc rfl rfl rfl (h_fa rfl rfl rfl (hwp_nilT ?_))
    refine x_one (i := 13) (by kernel_rfl) rfl ?_
    replace h102 := ((h102.st S167).st S192).st S203
    refine l_store h102 rfl rfl rfl (nle_b rfl) (allOne rfl) fun w206 S207 h102 => ?_
    replace h102 : Lc 4 w206 O202 g98 87 [(.slice A87 q74.vars.length c88), (.slice A90 q74.init.length c91), (.slice A93 q74.goal.length c94), (.slice A96 q74.ops.length c97), (.pointer (some ⟨p56, 0, none⟩)), (.slice x106.1.1 s105.2.1.length x106.1.2), (.slice A199 u195.length c200), (.slice none 0 0), (.slice none 0 0), (.slice none 0 0)] := h102
    refine x_end (by kernel_rfl) ?_
    refine x_nil (by kernel_rfl) ?_
    obtain rfl := sm hy158
    replace hB := (((((hB.st S134).st S145).st S167).st S192).st S203).st S207
    replace h8 := (((((h8.st S134).st S145).st S167).st S192).st S203).st S207
    replace h11 := (((((h11.st S134).st S145).st S167).st S192).st S203).st S207
    replace h14 := (((h14.st S167).st S192).st S203).st S207
    replace h17 := (((((h17.st S134).st S145).st S167).st S192).st S203).st S207
    replace h24 := (((h24.st S167).st S192).st S203).st S207
    replace h34 := (((((h34.st S134).st S145).st S167).st S192).st S203).st S207
    replace h86 := (((((h86.st S134).st S145).st S167).st S192).st S203).st S207
    replace h89 := (((((h89.st S134).st S145).st S167).st S192).st S203).st S207
    replace h92 := (((((h92.st S134).st S145).st S167).st S192).st S203).st S207
    replace h95 := (((((h95.st S134).st S145).st S167).st S192).st S203).st S207
    replace h125 := (((((h125.st S134).st S145).st S167).st S192).st S203).st S207
    replace h148 := (((h148.st S167).st S192).st S203).st S207
    replace h151 := (((h151.st S167).st S192).st S203).st S207
    replace h204 := h204.st S207
    exact ⟨(A199, c200), _, ⟨rfl, rfl, rfl, rfl, rfl, rfl, rfl, trivial⟩, hB, h24, h8, h11, h14, h17, h34, h148, h102, h86, h89, h92, h95, h125, h204, h151⟩
   replace hB := (hB.st S134).st S145
   replace h8 := (h8.st S134).st S145
   replace h11 := (h11.st S134).st S145
   replace h14 := (h14.st S134).st S145
   replace h17 := (h17.st S134).st S145
   replace h24 := (h24.st S134).st S145
   replace h34 := (h34.st S134).st S145
   replace h86 := (h86.st S134).st S145
   replace h89 := (h89.st S134).st S145
   replace h92 := (h92.st S134).st S145
   replace h95 := (h95.st S134).st S145
   replace h102 := (h102.st S134).st S145
   replace h125 := (h125.st S134).st S145
   rintro l208 w209 ⟨x160, O210, hs211, hB, h24, h8, h11, h14, h17, h34, h148, h102, h86, h89, h92, h95, h125, h161, h151⟩
   refine ewp_sub _ hs211 ?_
   refine ewp_seq (ewp_region (o_mv rfl rfl (o_mv rfl rfl ?_)))
   obtain ⟨q212, e213, hf113⟩ := bs hf113
   refine l_call (O := O210) (R := fun w' F v => Vb w' F v q212) (c_succgen_Generator_Successors Fr.lt h34 h151 e213) rfl rfl fun v218 w214 O215 S216 h217 => ?_
   obtain ⟨A219, c220, rfl⟩ := h217.form
   refine o_ln rfl rfl ?_
   have l222 : q212.length ≤ 9223372036854775807 := Nat.le_trans h217.len.2.1 h217.len.2.2
   have r221 : inI64 (q212.length : Int) := rngNat l222
   refine o_mv rfl rfl (o_z ?_)
   obtain ⟨res223, hL224, hf113⟩ := bs hf113
   refine ewp_join (aft res223 (fun (s225 : (List Edj) × Reg) (x226 : (Option Addr × Nat)) => [(1, (.int .i64 (max 0 (min x1 65536)))), (2, (.pointer (some ⟨g20, 0, none⟩))), (6, (.pointer p36)), (8, (.pointer (some ⟨p56, 0, none⟩))), (12, (.pointer (some ⟨g98, 0, none⟩))), (13, (.int .i64 s105.1))]) (fun s225 x226 w' => ∃ O' : Lab, Bm w O0 w' O' ∧ Lc 2 w' O' g20 26 [(.slice A9 x0.vars.length c10), (.slice A12 x0.init.length c13), (.slice A15 x0.goal.length c16), (.slice A18 x0.ops.length c19)] ∧ Vb w' (Fr 0 w' O') (.slice A9 x0.vars.length c10) x0.vars ∧ Vb w' (Fr 0 w' O') (.slice A12 x0.init.length c13) x0.init ∧ Vb w' (Fr 0 w' O') (.slice A15 x0.goal.length c16) x0.goal ∧ Vb w' (Fr 0 w' O') (.slice A18 x0.ops.length c19) x0.ops ∧ Vb w' (Fr 0 w' O') (.pointer p36) q25.1 ∧ Ob 3 w' O' (.pointer (some ⟨p56, 0, none⟩)) s225.2 ∧ Lc 4 w' O' g98 87 [(.slice A87 q74.vars.length c88), (.slice A90 q74.init.length c91), (.slice A93 q74.goal.length c94), (.slice A96 q74.ops.length c97), (.pointer (some ⟨p56, 0, none⟩)), (.slice x226.1 s225.1.length x226.2), (.slice x160.1 y157.length x160.2), (.slice none 0 0), (.slice none 0 0), (.slice none 0 0)] ∧ Vb w' (Fr 0 w' O') (.slice A87 q74.vars.length c88) q74.vars ∧ Vb w' (Fr 0 w' O') (.slice A90 q74.init.length c91) q74.init ∧ Vb w' (Fr 0 w' O') (.slice A93 q74.goal.length c94) q74.goal ∧ Vb w' (Fr 0 w' O') (.slice A96 q74.ops.length c97) q74.ops ∧ Rw 9 w' O' 94 (.slice x226.1 s225.1.length x226.2) s225.1 ∧ Rw 6 w' O' 4 (.slice x160.1 y157.length x160.2) y157)) ?_ ?_
   ·
    refine ewp_block ?_
    replace hB := hB.st S216
    replace h8 := h8.st S216
    replace h11 := h11.st S216
    replace h14 := h14.st S216
    replace h17 := h17.st S216
    replace h24 := h24.st S216
    replace h34 := h34.st S216
    replace h86 := h86.st S216
    replace h89 := h89.st S216
    replace h92 := h92.st S216
    replace h95 := h95.st S216
    replace h102 := h102.st S216
    replace h125 := h125.st S216
    replace h148 := h148.st S216
    replace h161 := h161.st S216
    refine ewp_rng (σ := (List Edj) × Reg) (X := (Option Addr × Nat)) (q212.length) hL224 rfl l222 (fun (s225 : (List Edj) × Reg) (x226 : (Option Addr × Nat)) => [(1, (.int .i64 (max 0 (min x1 65536)))), (2, (.pointer (some ⟨g20, 0, none⟩))), (6, (.pointer p36)), (8, (.pointer (some ⟨p56, 0, none⟩))), (12, (.pointer (some ⟨g98, 0, none⟩))), (13, (.int .i64 s105.1)), (90, (.slice A219 q212.length c220))]) _ (fun s225 x226 w' => ∃ O' : Lab, Bm w O0 w' O' ∧ Lc 2 w' O' g20 26 [(.slice A9 x0.vars.length c10), (.slice A12 x0.init.length c13), (.slice A15 x0.goal.length c16), (.slice A18 x0.ops.length c19)] ∧ Vb w' (Fr 0 w' O') (.slice A9 x0.vars.length c10) x0.vars ∧ Vb w' (Fr 0 w' O') (.slice A12 x0.init.length c13) x0.init ∧ Vb w' (Fr 0 w' O') (.slice A15 x0.goal.length c16) x0.goal ∧ Vb w' (Fr 0 w' O') (.slice A18 x0.ops.length c19) x0.ops ∧ Vb w' (Fr 0 w' O') (.pointer p36) q25.1 ∧ Ob 3 w' O' (.pointer (some ⟨p56, 0, none⟩)) s225.2 ∧ Lc 4 w' O' g98 87 [(.slice A87 q74.vars.length c88), (.slice A90 q74.init.length c91), (.slice A93 q74.goal.length c94), (.slice A96 q74.ops.length c97), (.pointer (some ⟨p56, 0, none⟩)), (.slice x226.1 s225.1.length x226.2), (.slice x160.1 y157.length x160.2), (.slice none 0 0), (.slice none 0 0), (.slice none 0 0)] ∧ Vb w' (Fr 0 w' O') (.slice A87 q74.vars.length c88) q74.vars ∧ Vb w' (Fr 0 w' O') (.slice A90 q74.init.length c91) q74.init ∧ Vb w' (Fr 0 w' O') (.slice A93 q74.goal.length c94) q74.goal ∧ Vb w' (Fr 0 w' O') (.slice A96 q74.ops.length c97) q74.ops ∧ Rw 9 w' O' 94 (.slice x226.1 s225.1.length x226.2) s225.1 ∧ Rw 6 w' O' 4 (.slice x160.1 y157.length x160.2) y157 ∧ Vb w' (Fr 0 w' O') (.slice A219 q212.length c220) q212) _ (x106.1.1, x106.1.2) ⟨O215, hB, h24, h8, h11, h14, h17, h34, h148, h102, h86, h89, h92, h95, h125, h161, h217⟩ ⟨rfl, rfl, rfl, rfl, rfl, rfl, rfl, rfl, rfl, trivial⟩ (fun _ _ => ⟨rfl, rfl⟩) (fun _ _ => ⟨rfl, rfl, rfl, rfl, rfl, rfl, trivial⟩) (fun _ _ _ ⟨O', hB, h24, h8, h11, h14, h17, h34, h243, h102, h86, h89, h92, h95, h241, h161, h217⟩ => ⟨O', hB, h24, h8, h11, h14, h17, h34, h243, h102, h86, h89, h92, h95, h241, h161⟩) ⟨rfl, rfl, rfl⟩ ⟨rfl, rfl⟩ ?_
    rintro k227 a228 s225 x226 w229 cc231 hx232 ⟨O230, hB, h24, h8, h11, h14, h17, h34, h243, h102, h86, h89, h92, h95, h241, h161, h217⟩ hf233 hret234 hbrk235
    have rk227 : inI64 (k227 : Int) := rngK hx232 l222
    refine ewp_seq (ewp_region ?_)
    obtain ⟨b244, o245, ce246, hA247, hl248, hd249, v251, rfl, h252, r255⟩ := h217.elem' hx232
    obtain ⟨A253, c254, rfl⟩ := h252.form
    refine o_iaE (hA := hA247) (hj := rfl) (hlt := hl248) rfl rfl rfl ?_
    refine o_la (hl := rfl) (hc := hd249) rfl rfl ?_
    refine l_alloc 7 O230 rfl fun g256 w257 O258 S259 h260 => ?_
    refine l_store h260 rfl rfl rfl (nle_b rfl) (allOne rfl) fun w261 S262 h260 => ?_
    replace h260 : Lc 7 w261 O258 g256 91 [(.int .i64 a228.op), (.slice A253 a228.state.length c254)] := h260
    refine o_z ?_
    refine ewp_seq (ewp_region (o_mv rfl rfl (o_fa rfl rfl (o_ld (hc := Blk.cell (i := 1) (h260.1) rfl) rfl rfl ?_))))
    obtain ⟨q263, e264, hf233⟩ := bs hf233
    replace h243 := (h243.st S259).st S262
    replace h252 := (h252.st S259).st S262
    refine l_callM (O := O258) (c_registry_Registry_Add h243 h252 e264) rfl rfl fun v269 w265 O266 S267 h268 => ?_
    obtain ⟨v271, v272, v273, h270, rfl, h274, h275, h276⟩ := h268
    obtain ⟨rfl, r277⟩ := h274.int
    obtain rfl := h275.bool
    obtain ⟨rfl, r278⟩ := h276.err
    refine o_mv rfl rfl (o_ex rfl rfl rfl (o_ex rfl rfl rfl (o_ex rfl rfl rfl (o_as rfl rfl (o_as rfl rfl (o_as rfl rfl (o_z ?_)))))))
    refine ewp_seq (ewp_seq ?_)
    obtain ⟨y279, hy280, hf233⟩ := bs hf233
    refine ewp_join (fun l' w' => ∃ (x282 : Unit) (O' : Lab), subs l' [(1, (.int .i64 (max 0 (min x1 65536)))), (2, (.pointer (some ⟨g20, 0, none⟩))), (6, (.pointer p36)), (8, (.pointer (some ⟨p56, 0, none⟩))), (12, (.pointer (some ⟨g98, 0, none⟩))), (13, (.int .i64 s105.1)), (17, (.pointer (some ⟨g256, 0, none⟩))), (18, (.int .i64 q263.1)), (20, (errV q263.2.2.1.n)), (90, (.slice A219 q212.length c220)), (91, (.int .i64 (q212.length : Int))), (92, (.int .i64 (k227 : Int))), (114, (.bool y279))] ∧ Bm w O0 w' O' ∧ Lc 2 w' O' g20 26 [(.slice A9 x0.vars.length c10), (.slice A12 x0.init.length c13), (.slice A15 x0.goal.length c16), (.slice A18 x0.ops.length c19)] ∧ Vb w' (Fr 0 w' O') (.slice A9 x0.vars.length c10) x0.vars ∧ Vb w' (Fr 0 w' O') (.slice A12 x0.init.length c13) x0.init ∧ Vb w' (Fr 0 w' O') (.slice A15 x0.goal.length c16) x0.goal ∧ Vb w' (Fr 0 w' O') (.slice A18 x0.ops.length c19) x0.ops ∧ Vb w' (Fr 0 w' O') (.pointer p36) q25.1 ∧ Ob 3 w' O' (.pointer (some ⟨p56, 0, none⟩)) q263.2.2.2 ∧ Lc 4 w' O' g98 87 [(.slice A87 q74.vars.length c88), (.slice A90 q74.init.length c91), (.slice A93 q74.goal.length c94), (.slice A96 q74.ops.length c97), (.pointer (some ⟨p56, 0, none⟩)), (.slice x226.1 s225.1.length x226.2), (.slice x160.1 y157.length x160.2), (.slice none 0 0), (.slice none 0 0), (.slice none 0 0)] ∧ Vb w' (Fr 0 w' O') (.slice A87 q74.vars.length c88) q74.vars ∧ Vb w' (Fr 0 w' O') (.slice A90 q74.init.length c91) q74.init ∧ Vb w' (Fr 0 w' O') (.slice A93 q74.goal.length c94) q74.goal ∧ Vb w' (Fr 0 w' O') (.slice A96 q74.ops.length c97) q74.ops ∧ Rw 9 w' O' 94 (.slice x226.1 s225.1.length x226.2) s225.1 ∧ Rw 6 w' O' 4 (.slice x160.1 y157.length x160.2) y157 ∧ Lc 7 w' O' g256 91 [(.int .i64 a228.op), (.slice A253 a228.state.length c254)] ∧ Vb w' (Fr 0 w' O') (.slice A253 a228.state.length c254) a228.state ∧ Vb w' (Fr 0 w' O') (.slice A219 q212.length c220) q212) ?_ ?_
    ·
     refine ewp_region (o_mv rfl rfl (o_miE rfl rfl ?_))
     obtain ⟨q283, e284, hy280⟩ := bs hy280
     refine l_callA (O := O266) (A := All w265) (R := fun w' F v => Vb w' F v q283) (c_errors_Is (fun _ h => h) r278 (by decide) e284) rfl rfl fun v289 w285 O286 S287 h288 => ?_
     obtain rfl := h288.bool
     cases q283
     case false =>
      replace hy280 := iF hy280
      refine o_mv rfl rfl (owp_yes rfl rfl (o_mv rfl rfl (owp_yes rfl rfl (o_mv rfl rfl ?_))))
      rcases Bool.eq_false_or_eq_true q263.2.1 with c290 | c290
      ·
       try simp only [c290]
       replace hy280 := ip hy280 c290
       refine owp_yes rfl rfl (o_mv rfl rfl (owp_yes rfl rfl (o_mv rfl rfl (owp_yes rfl rfl (o_geS rfl rfl rfl (fun c291 => ?_) fun c291 => ?_)))))
       ·
        replace hy280 := ip hy280 c291
        refine owp_yes rfl rfl (o_pt rfl rfl rfl (o_pf rfl rfl rfl (o_z ?_)))
        obtain rfl := sm hy280
        replace hB := (((hB.st S259).st S262).st S267).st S287
        replace h8 := (((h8.st S259).st S262).st S267).st S287
        replace h11 := (((h11.st S259).st S262).st S267).st S287
        replace h14 := (((h14.st S259).st S262).st S267).st S287
        replace h17 := (((h17.st S259).st S262).st S267).st S287
        replace h24 := (((h24.st S259).st S262).st S267).st S287
        replace h34 := (((h34.st S259).st S262).st S267).st S287
        replace h86 := (((h86.st S259).st S262).st S267).st S287
        replace h89 := (((h89.st S259).st S262).st S267).st S287
        replace h92 := (((h92.st S259).st S262).st S267).st S287
        replace h95 := (((h95.st S259).st S262).st S267).st S287
        replace h102 := (((h102.st S259).st S262).st S267).st S287
        replace h161 := (((h161.st S259).st S262).st S267).st S287
        replace h217 := (((h217.st S259).st S262).st S267).st S287
        replace h241 := (((h241.st S259).st S262).st S267).st S287
        replace h252 := (h252.st S267).st S287
        replace h260 := (h260.st S267).st S287
        replace h270 := h270.st S287
        exact ⟨(), _, ⟨rfl, rfl, rfl, rfl, rfl, rfl, rfl, rfl, rfl, rfl, rfl, rfl, rfl, trivial⟩, hB, h24, h8, h11, h14, h17, h34, h270, h102, h86, h89, h92, h95, h241, h161, h260, h252, h217⟩
       replace hy280 := im hy280 c291
       refine owp_yes rfl rfl (o_pt rfl rfl rfl (o_pf rfl rfl rfl (o_z ?_)))
       obtain rfl := sm hy280
       replace hB := (((hB.st S259).st S262).st S267).st S287
       replace h8 := (((h8.st S259).st S262).st S267).st S287
       replace h11 := (((h11.st S259).st S262).st S267).st S287
       replace h14 := (((h14.st S259).st S262).st S267).st S287
       replace h17 := (((h17.st S259).st S262).st S267).st S287
       replace h24 := (((h24.st S259).st S262).st S267).st S287
       replace h34 := (((h34.st S259).st S262).st S267).st S287
       replace h86 := (((h86.st S259).st S262).st S267).st S287
       replace h89 := (((h89.st S259).st S262).st S267).st S287
       replace h92 := (((h92.st S259).st S262).st S267).st S287
       replace h95 := (((h95.st S259).st S262).st S267).st S287
       replace h102 := (((h102.st S259).st S262).st S267).st S287
       replace h161 := (((h161.st S259).st S262).st S267).st S287
       replace h217 := (((h217.st S259).st S262).st S267).st S287
       replace h241 := (((h241.st S259).st S262).st S267).st S287
       replace h252 := (h252.st S267).st S287
       replace h260 := (h260.st S267).st S287
       replace h270 := h270.st S287
       exact ⟨(), _, ⟨rfl, rfl, rfl, rfl, rfl, rfl, rfl, rfl, rfl, rfl, rfl, rfl, rfl, trivial⟩, hB, h24, h8, h11, h14, h17, h34, h270, h102, h86, h89, h92, h95, h241, h161, h260, h252, h217⟩
      try simp only [c290]
      replace hy280 := im' hy280 c290
      refine owp_no rfl rfl rfl rfl (owp_no rfl rfl rfl rfl (owp_no rfl rfl rfl rfl (owp_yes rfl rfl (o_pf rfl rfl rfl (o_pf rfl rfl rfl (o_z ?_))))))
      obtain rfl := sm hy280
      replace hB := (((hB.st S259).st S262).st S267).st S287
      replace h8 := (((h8.st S259).st S262).st S267).st S287
      replace h11 := (((h11.st S259).st S262).st S267).st S287
      replace h14 := (((h14.st S259).st S262).st S267).st S287
      replace h17 := (((h17.st S259).st S262).st S267).st S287
      replace h24 := (((h24.st S259).st S262).st S267).st S287
      replace h34 := (((h34.st S259).st S262).st S267).st S287
      replace h86 := (((h86.st S259).st S262).st S267).st S287
      replace h89 := (((h89.st S259).st S262).st S267).st S287
      replace h92 := (((h92.st S259).st S262).st S267).st S287
      replace h95 := (((h95.st S259).st S262).st S267).st S287
      replace h102 := (((h102.st S259).st S262).st S267).st S287
      replace h161 := (((h161.st S259).st S262).st S267).st S287
      replace h217 := (((h217.st S259).st S262).st S267).st S287
      replace h241 := (((h241.st S259).st S262).st S267).st S287
      replace h252 := (h252.st S267).st S287
      replace h260 := (h260.st S267).st S287
      replace h270 := h270.st S287
      exact ⟨(), _, ⟨rfl, rfl, rfl, rfl, rfl, rfl, rfl, rfl, rfl, rfl, rfl, rfl, rfl, trivial⟩, hB, h24, h8, h11, h14, h17, h34, h270, h102, h86, h89, h92, h95, h241, h161, h260, h252, h217⟩
     replace hy280 := iT hy280
     refine o_mv rfl rfl (owp_no rfl rfl rfl rfl (owp_no rfl rfl rfl rfl (owp_no rfl rfl rfl rfl (owp_no rfl rfl rfl rfl (owp_no rfl rfl rfl rfl (owp_no rfl rfl rfl rfl (o_pt rfl rfl rfl (o_z ?_))))))))
     obtain rfl := sm hy280
     replace hB := (((hB.st S259).st S262).st S267).st S287
     replace h8 := (((h8.st S259).st S262).st S267).st S287
     replace h11 := (((h11.st S259).st S262).st S267).st S287
     replace h14 := (((h14.st S259).st S262).st S267).st S287
     replace h17 := (((h17.st S259).st S262).st S267).st S287
     replace h24 := (((h24.st S259).st S262).st S267).st S287
     replace h34 := (((h34.st S259).st S262).st S267).st S287
     replace h86 := (((h86.st S259).st S262).st S267).st S287
     replace h89 := (((h89.st S259).st S262).st S267).st S287
     replace h92 := (((h92.st S259).st S262).st S267).st S287
     replace h95 := (((h95.st S259).st S262).st S267).st S287
     replace h102 := (((h102.st S259).st S262).st S267).st S287
     replace h161 := (((h161.st S259).st S262).st S267).st S287
     replace h217 := (((h217.st S259).st S262).st S267).st S287
     replace h241 := (((h241.st S259).st S262).st S267).st S287
     replace h252 := (h252.st S267).st S287
     replace h260 := (h260.st S267).st S287
     replace h270 := h270.st S287
     exact ⟨(), _, ⟨rfl, rfl, rfl, rfl, rfl, rfl, rfl, rfl, rfl, rfl, rfl, rfl, rfl, trivial⟩, hB, h24, h8, h11, h14, h17, h34, h270, h102, h86, h89, h92, h95, h241, h161, h260, h252, h217⟩
    replace hB := ((hB.st S259).st S262).st S267
    replace h8 := ((h8.st S259).st S262).st S267
    replace h11 := ((h11.st S259).st S262).st S267
    replace h14 := ((h14.st S259).st S262).st S267
    replace h17 := ((h17.st S259).st S262).st S267
    replace h24 := ((h24.st S259).st S262).st S267
    replace h34 := ((h34.st S259).st S262).st S267
    replace h86 := ((h86.st S259).st S262).st S267
    replace h89 := ((h89.st S259).st S262).st S267
    replace h92 := ((h92.st S259).st S262).st S267
    replace h95 := ((h95.st S259).st S262).st S267
    replace h102 := ((h102.st S259).st S262).st S267
    replace h161 := ((h161.st S259).st S262).st S267
    replace h217 := ((h217.st S259).st S262).st S267
    replace h241 := ((h241.st S259).st S262).st S267
    replace h252 := h252.st S267
    replace h260 := h260.st S267
    rintro l292 w293 ⟨x282, O294, hs295, hB, h24, h8, h11, h14, h17, h34, h270, h102, h86, h89, h92, h95, h241, h161, h260, h252, h217⟩
    refine ewp_sub _ hs295 ?_
    refine ewp_cond rfl (fun c296 => ?_) (fun c296 => ?_)
    ·
     replace hf233 := ip hf233 c296
     refine ewp_seq (ewp_region (o_miE rfl rfl ?_))
     refine o_as rfl rfl (o_as rfl rfl (o_z ?_))
     refine ewp_ret ?_
     obtain rfl := sm hf233
     obtain rfl := hret234 _ rfl
     obtain rfl := sm (fin_ret hf113)
     obtain rfl := hret114 _ rfl
     obtain rfl := sm (fin_ret hm)
     obtain ⟨O', hS', hz, hl⟩ := hE.leave (fun _ => 0) rfl hB
     exact ret2 rfl (res_tmp rfl) (res_tmp rfl) ⟨O', hS', _, _, rfl, rfl, (vErr (by decide))⟩
    replace hf233 := im' hf233 c296
    refine ewp_skip (ewp_seq (ewp_seq (ewp_region (o_mv rfl rfl (o_rnS rfl rfl (fun c297 => ?_) fun c297 => ?_)))))
    ·
     replace hf233 := ip hf233 c297
     refine o_z ?_
     refine ewp_true rfl (ewp_seq (ewp_region (o_mv rfl rfl (o_as rfl rfl (o_as rfl rfl (o_z ?_))))))
     refine ewp_ret ?_
     obtain rfl := sm hf233
     obtain rfl := hret234 _ rfl
     obtain rfl := sm (fin_ret hf113)
     obtain rfl := hret114 _ rfl
     obtain rfl := sm (fin_ret hm)
     obtain ⟨O', hS', hz, hl⟩ := hE.leave (fun _ => 0) rfl hB
     exact ret2 rfl (res_tmp rfl) (res_tmp rfl) ⟨O', hS', _, _, rfl, rfl, (vErr r278)⟩
    replace hf233 := im hf233 c297
    refine o_z ?_
    refine ewp_false rfl (ewp_skip (ewp_drawX [(11, [9])] O294 ?_))
    refine x_pre (fuel := 6) [] [(1, true), (2, true), (3, true), (4, true), (5, true), (6, true), (7, true), (8, true), (9, true)] (by kernel_rfl) rfl ?_
    refine h_mv rfl rfl rfl (h_nc rfl rfl rfl (h_fa rfl rfl rfl (h_ldC (hc := fun w' ⟨O', hq⟩ => Blk.cell (i := 5) ((h102.st hq (by decide)).1) rfl) rfl rfl rfl ?_)))
    refine h_mv rfl rfl rfl (h_fa rfl rfl rfl (h_ldC (hc := fun w' ⟨O', hq⟩ => Blk.cell (i := 0) ((h260.st hq (by decide)).1) rfl) rfl rfl rfl ?_))
    refine h_mv rfl rfl rfl (h_bd rfl rfl rfl rfl ?_)
    refine hwp_nilT ?_
    refine x_pre (fuel := 5) [9] [(0, true)] (by kernel_rfl) rfl ?_
    refine h_mv rfl rfl rfl (hwp_nilT ?_)
    refine x_one (i := 10) (by kernel_rfl) rfl ?_
    refine l_bslice 8 (by decide) O294 (xs := ([(⟨s105.1, a228.op, q263.1⟩ : Edj)] : List Edj)) rfl rfl rfl rfl ⟨(Vb.ofAgg (cs := [(.int .i64 s105.1), (.int .i64 a228.op), (.int .i64 q263.1)]) (x := (⟨s105.1, a228.op, q263.1⟩ : Edj)) rfl ⟨rfl, r124, r255, r277⟩), trivial⟩ (by decide) (by decide) rfl fun g298 w299 O300 S301 h302 => ?_
    have hZ := S301.lst [] (fun _ h => h.elim)
    refine x_go [(11, [9])] hZ (by kernel_rfl) ?_
    refine x_one (i := 11) (by kernel_rfl) rfl ?_
    obtain ⟨u304, e305, hf233⟩ := bs hf233
    obtain ⟨e305, e306, e307⟩ := appI_some e305
    replace h241 := h241.st S301
    refine l_append rfl h241 (h302.rd) rfl rfl (by decide) e306 e307 rfl fun A308 c309 w310 O311 S312 h313 => ?_
    rw [← e305] at h313 ⊢
    have hZ := S312.lst [9] (fun _ h => by cases h; decide)
    refine x_go [] hZ (by kernel_rfl) ?_
    refine x_pre (fuel := 1) [] [(12, true), (13, true)] (by kernel_rfl) rfl ?_
    refine h_nc rfl rfl rfl (h_fa rfl rfl rfl (hwp_nilT ?_))
    refine x_one (i := 14) (by kernel_rfl) rfl ?_
    replace h102 := (h102.st S301).st S312
    refine l_store h102 rfl rfl rfl (nle_b rfl) (allOne rfl) fun w315 S316 h102 => ?_
    replace h102 : Lc 4 w315 O311 g98 87 [(.slice A87 q74.vars.length c88), (.slice A90 q74.init.length c91), (.slice A93 q74.goal.length c94), (.slice A96 q74.ops.length c97), (.pointer (some ⟨p56, 0, none⟩)), (.slice A308 u304.length c309), (.slice x160.1 y157.length x160.2), (.slice none 0 0), (.slice none 0 0), (.slice none 0 0)] := h102
    refine x_end (by kernel_rfl) ?_
    refine x_nil (by kernel_rfl) ?_
    obtain rfl := sm hf233
    replace hB := ((hB.st S301).st S312).st S316
    replace h8 := ((h8.st S301).st S312).st S316
    replace h11 := ((h11.st S301).st S312).st S316
    replace h14 := ((h14.st S301).st S312).st S316
    replace h17 := ((h17.st S301).st S312).st S316
    replace h24 := ((h24.st S301).st S312).st S316
    replace h34 := ((h34.st S301).st S312).st S316
    replace h86 := ((h86.st S301).st S312).st S316
    replace h89 := ((h89.st S301).st S312).st S316
    replace h92 := ((h92.st S301).st S312).st S316
    replace h95 := ((h95.st S301).st S312).st S316
    replace h161 := ((h161.st S301).st S312).st S316
    replace h217 := ((h217.st S301).st S312).st S316
    replace h270 := ((h270.st S301).st S312).st S316
    replace h313 := h313.st S316
    exact show Exists _ from ⟨_, (A308, c309), rfl, ⟨rfl, rfl, rfl, rfl, rfl, rfl, rfl, rfl, rfl, trivial⟩, _, hB, h24, h8, h11, h14, h17, h34, h270, h102, h86, h89, h92, h95, h313, h161, h217⟩
   replace hB := hB.st S216
   replace h8 := h8.st S216
   replace h11 := h11.st S216
   replace h14 := h14.st S216
   replace h17 := h17.st S216
   replace h24 := h24.st S216
   replace h34 := h34.st S216
   replace h86 := h86.st S216
   replace h89 := h89.st S216
   replace h92 := h92.st S216
   replace h95 := h95.st S216
   replace h102 := h102.st S216
   replace h161 := h161.st S216
   rintro l317 w318 ⟨s321, x322, rfl, hs320, O319, hB, h24, h8, h11, h14, h17, h34, h243, h102, h86, h89, h92, h95, h241, h161⟩
   replace hf113 := fin_done hf113
   refine ewp_sub _ hs320 ?_
   refine ewp_region (o_mv rfl rfl ?_)
   obtain ⟨n323, e324, hf113⟩ := bs hf113
   have r325 := (chkI_rng e324)
   refine o_adE (he := e324) rfl rfl rfl ?_
   refine o_as rfl rfl (o_z ?_)
   obtain rfl := sm hf113
   exact show Exists _ from ⟨_, ((x322.1, x322.2), (x160.1, x160.2)), rfl, ⟨rfl, rfl, rfl, rfl, rfl, rfl, trivial⟩, _, hB, h24, h8, h11, h14, h17, h34, h243, h102, h86, h89, h92, h95, h241, h161, r325⟩
  replace hf113 := im hf113 c140
  refine o_z ?_
  refine ewp_false rfl (ewp_exit ?_)
  obtain rfl := sm hf113
  replace hB := hB.st S134
  replace h86 := h86.st S134
  replace h89 := h89.st S134
  replace h92 := h92.st S134
  replace h95 := h95.st S134
  replace h102 := h102.st S134
  replace h125 := h125.st S134
  replace h127 := h127.st S134
  exact show Exists _ from ⟨_, ((x106.1.1, x106.1.2), (x106.2.1, x106.2.2)), hbrk115 _ rfl, ⟨rfl, trivial⟩, _, hB, h102, h86, h89, h92, h95, h137, h125, h127, r124⟩
 replace hB := (((((hB.st S23).st S29).st S44).st S61).st S78).st S101
 replace h86 := h86.st S101
 replace h89 := h89.st S101
 replace h92 := h92.st S101
 replace h95 := h95.st S101
 rintro l326 w327 ⟨s330, x331, rfl, hs329, O328, hB, h102, h86, h89, h92, h95, h129, h125, h127, r124⟩
 replace hm := fin_done hm
 refine ewp_sub _ hs329 ?_
 refine ewp_seq (ewp_region (o_mv rfl rfl ?_))
 obtain ⟨O332, S333, h125⟩ := h125.freeze
 replace h127 := h127.st S333
 obtain ⟨O334, S335, h127⟩ := h127.freeze
 replace h86 := (h86.st S333).st S335
 replace h89 := (h89.st S333).st S335
 replace h92 := (h92.st S333).st S335
 replace h95 := (h95.st S333).st S335
 replace h102 := (h102.st S333).st S335
 replace h125 := h125.st S335
 replace h129 := (h129.st S333).st S335
 obtain ⟨O336, S337, hz339, ha340, h338⟩ := Spa.shut (x := (⟨(⟨q74.vars, q74.init, q74.goal, q74.ops⟩ : Tsk), s330.2.2.2, s330.2.1, s330.2.2.1, ([] : List Int), ([] : List Int), ([] : List Int)⟩ : Spa)) (l0 := 4) (l1 := 3) (by decide) h102 h86 h89 h92 h95 h129 h125 h127 (Vb.nil _ _) (Vb.nil _ _) (Vb.nil _ _)
 obtain ⟨q341, e342, hm⟩ := bs hm
 refine l_callM (O := O336) (c_explore_Space_measure h338 e342) rfl rfl fun v347 w343 O344 S345 h348 => ?_
 refine o_z ?_
 refine ewp_seq (ewp_region (o_mv rfl rfl (o_as rfl rfl (o_as rfl rfl (o_z ?_)))))
 refine ewp_ret ?_
 obtain rfl := sm hm
 replace hB := (((hB.st S333).st S335).st S337).st S345
 obtain ⟨O', hS', hz, hl⟩ := hE.leave (fun q => if q = 4 then j0 else 0) rfl hB
 exact ret2 rfl (res_tmp rfl) (res_tmp rfl) ⟨O', hS', _, _, rfl, (Ob.leave h348 hz (hl 4 (by decide) (by decide)) hj0), (vErr (show inI64 0 from by decide))⟩
end
section
open Go Go.RowKit
attribute [local irreducible] ewp owp hwp hwq hws Ev Evg Fn retPost loud loudS Res1
attribute [local irreducible] hwx loudX
noncomputable def m_base_Clip (x0 : Int) (x1 : Int) (x2 : Int) : Option Int :=
  some (max x1 (min x0 x2))
theorem c_base_Clip {w : World} {A : Nat → Prop} (hA : ∀ k, A k → k < w.heap.size) {x0 : Int} (rx0 : inI64 x0) {x1 : Int} (rx1 : inI64 x1) {x2 : Int} (rx2 : inI64 x2) {r : Int} (hm : m_base_Clip x0 x1 x2 = some r) :
    Fn Tryz.prog 52 [(.int .i64 x0), (.int .i64 x1), (.int .i64 x2)] w fun v w' => Ext w w' ∧ Vb w' (upA A w w') v r := by
 obtain ⟨O, hB, hA0⟩ := enter hA
 refine fn_enter Tryz.func52 rfl Tryz.ntmps52 rfl ?_
 unfold m_base_Clip at hm
 refine ewp_seq (ewp_region (o_as rfl rfl (o_z ?_)))
 refine ewp_seq (ewp_region (o_mv rfl rfl (o_mv rfl rfl (o_mv rfl rfl (o_min rfl rfl rfl ?_)))))
 refine o_max rfl rfl rfl ?_
 refine o_as rfl rfl (o_z ?_)
 refine ewp_ret ?_
 obtain rfl := sm hm
 exact ret1v rfl (res_tmp rfl) ⟨hB.ext, (vInt (rngMax rx1 (rngMin rx0 rx2)))⟩
noncomputable def m_ref25_Find (x0 : List (List Int)) (x1 : List Int) : Option Int :=
  bnd (rng (ρ := Int) (fun (k13 : Nat) (a14 : List Int) (s11 : Unit) => bnd (m_base_Ints a14 x1) fun q35 => if q35 = true then some (.ret (k13 : Int)) else some (.next ())) x0 0 ()) fun res9 => fin res9 fun (s46 : Unit) => some (-1)
theorem c_ref25_Find {w : World} {A : Nat → Prop} (hA : ∀ k, A k → k < w.heap.size) {vx0 : Value} {x0 : List (List Int)} (hx0 : Vb w A vx0 x0) {vx1 : Value} {x1 : List Int} (hx1 : Vb w A vx1 x1) {r : Int} (hm : m_ref25_Find x0 x1 = some r) :
    Fn Tryz.prog 54 [vx0, vx1] w fun v w' => Ext w w' ∧ Vb w' (upA A w w') v r := by
 obtain ⟨O, hB, hA0⟩ := enter hA
 replace hx0 := hx0.mono hA0
 obtain ⟨A3, c4, rfl⟩ := hx0.form
 replace hx1 := hx1.mono hA0
 obtain ⟨A5, c6, rfl⟩ := hx1.form
 refine fn_enter Tryz.func54 rfl Tryz.ntmps54 rfl ?_
 unfold m_ref25_Find at hm
 refine ewp_seq (ewp_region (o_as rfl rfl (o_z ?_)))
 refine ewp_seq (ewp_seq (ewp_region (o_mv rfl rfl (o_ln rfl rfl ?_))))
 have l8 : x0.length ≤ 9223372036854775807 := Nat.le_trans hx0.len.2.1 hx0.len.2.2
 have r7 : inI64 (x0.length : Int) := rngNat l8
 refine o_mv rfl rfl (o_z ?_)
 obtain ⟨res9, hL10, hm⟩ := bs hm
 refine ewp_join (aft res9 (fun (s11 : Unit) (x12 : Unit) => []) (fun s11 x12 w' => ∃ O' : Lab, Bs w A w' O')) ?_ ?_
 ·
  refine ewp_block (ewp_rng (σ := Unit) (X := Unit) (x0.length) hL10 rfl l8 (fun (s11 : Unit) (x12 : Unit) => [(0, (.slice A3 x0.length c4)), (1, (.slice A5 x1.length c6))]) _ (fun s11 x12 w' => ∃ O' : Lab, Bs w A w' O' ∧ Vb w' (Fr 0 w' O') (.slice A3 x0.length c4) x0 ∧ Vb w' (Fr 0 w' O') (.slice A5 x1.length c6) x1) _ () ⟨O, hB, hx0, hx1⟩ ⟨rfl, rfl, rfl, rfl, trivial⟩ (fun _ _ => ⟨rfl, rfl⟩) (fun _ _ => trivial) (fun _ _ _ ⟨O', hB, hx0, hx1⟩ => ⟨O', hB⟩) ⟨rfl, rfl, rfl⟩ ⟨rfl, rfl⟩ ?_)
  rintro k13 a14 s11 x12 w15 cc17 hx18 ⟨O16, hB, hx0, hx1⟩ hf19 hret20 hbrk21
  have rk13 : inI64 (k13 : Int) := rngK hx18 l8
  refine ewp_seq (ewp_region (o_mv rfl rfl (o_as rfl rfl (o_z ?_))))
  refine ewp_seq (ewp_region (o_mv rfl rfl (o_mv rfl rfl ?_)))
  obtain ⟨b24, o25, ce26, hA27, hl28, hd29, v31, rfl, h32⟩ := hx0.elem' hx18
  replace h32 := Vb.of_slice h32
  obtain ⟨A33, c34, rfl⟩ := h32.form
  refine o_iaE (hA := hA27) (hj := rfl) (hlt := hl28) rfl rfl rfl ?_
  refine o_ld (hc := cat0 hd29) rfl rfl ?_
  refine o_mv rfl rfl ?_
  obtain ⟨q35, e36, hf19⟩ := bs hf19
  refine l_callA (O := O16) (A := All w15) (R := fun w' F v => Vb w' F v q35) (c_base_Ints (fun _ h => h) (Vb.mono (F := Fr 0 w15 O16) h32 Fr.lt) (Vb.mono (F := Fr 0 w15 O16) hx1 Fr.lt) e36) rfl rfl fun v41 w37 O38 S39 h40 => ?_
  obtain rfl := h40.bool
  cases q35
  case false =>
   replace hf19 := iF hf19
   refine o_z ?_
   refine ewp_false rfl (ewp_skip ?_)
   obtain rfl := sm hf19
   replace hB := hB.st S39
   replace hx0 := hx0.st S39
   replace hx1 := hx1.st S39
   exact show Exists _ from ⟨_, (), rfl, ⟨rfl, rfl, rfl, rfl, trivial⟩, _, hB, hx0, hx1⟩
  replace hf19 := iT hf19
  refine o_z ?_
  refine ewp_true rfl (ewp_seq (ewp_region (o_mv rfl rfl (o_as rfl rfl (o_z ?_)))))
  refine ewp_ret ?_
  obtain rfl := sm hf19
  obtain rfl := hret20 _ rfl
  obtain rfl := sm (fin_ret hm)
  replace hB := hB.st S39
  exact ret1v rfl (res_tmp rfl) ⟨hB.ext, (vInt rk13)⟩
 rintro l42 w43 ⟨s46, x47, rfl, hs45, O44, hB⟩
 replace hm := fin_done hm
 refine ewp_sub _ hs45 ?_
 refine ewp_seq (ewp_region (o_as rfl rfl (o_z ?_)))
 refine ewp_ret ?_
 obtain rfl := sm hm
 exact ret1v rfl (res_tmp rfl) ⟨hB.ext, (vInt (show inI64 (-1) from by decide))⟩
noncomputable def m_ref25_States (x0 : Tsk) (x1 : Int) : Option ((List (List Int)) × Bool) :=
  bnd (m_base_Clip x1 0 65536) fun q25 => bnd (appI 8 ([] : List Int) x0.init) fun u39 => bnd (lop (ρ := (List (List Int)) × Bool) (fun (s60 : (List (List Int)) × Int) => bnd (if s60.2 < (s60.1.length : Int) then (if (s60.1.length : Int) ≤ q25 then (some true) else (some false)) else (some false) : Option Bool) fun y79 => if y79 = true then (bnd (rng (ρ := Ctl ((List (List Int)) × Int) ((List (List Int)) × Bool)) (fun (k100 : Nat) (a101 : Opr) (s98 : (List (List Int))) => bnd (atI s98 s60.2) fun a115 => bnd (m_base_Apply x0 a115 (k100 : Int)) fun q130 => bnd (if q130.2 = true then (bnd (m_ref25_Find s98 q130.1) fun q148 => if q148 < 0 then (some true) else (some false)) else (some false) : Option Bool) fun y143 => if y143 = true then (bnd (appI 24 s98 [q130.1]) fun u162 => some (.next u162)) else (some (.next s98))) x0.ops 0 s60.1) fun res96 => fin res96 fun (s178 : (List (List Int))) => bnd (chkI (s60.2 + 1)) fun n180 => some (.next (s178, n180))) else (some (.brk (s60.1, s60.2)))) ([u39], 0)) fun res58 => fin res58 fun (s187 : (List (List Int)) × Int) => bnd (if (s187.1.length : Int) ≤ q25 then (some true) else (some false) : Option Bool) fun y189 => some (s187.1, y189)
theorem c_ref25_States {w : World} {A : Nat → Prop} (hA : ∀ k, A k → k < w.heap.size) {vx0 : Value} {x0 : Tsk} (hx0 : Vb w A vx0 x0) {x1 : Int} (rx1 : inI64 x1) {r : (List (List Int)) × Bool} (hm : m_ref25_States x0 x1 = some r) :
    Fn Tryz.prog 13 [vx0, (.int .i64 x1)] w fun v w' => Ext w w' ∧ T2 w' (upA A w w') v r := by
 obtain ⟨O, hB, hA0⟩ := enter hA
 replace hx0 := hx0.mono hA0
 obtain ⟨cs3, rfl, v4, v5, v6, v7, rfl, h8, h11, h14, h17⟩ := hx0
 obtain ⟨A9, c10, rfl⟩ := h8.form
 obtain ⟨A12, c13, rfl⟩ := h11.form
 obtain ⟨A15, c16, rfl⟩ := h14.form
 obtain ⟨A18, c19, rfl⟩ := h17.form
 refine fn_enter Tryz.func13 rfl Tryz.ntmps13 rfl ?_
 unfold m_ref25_States at hm
 refine ewp_seq (ewp_region (l_box 2 O rfl rfl fun g20 w21 O22 S23 h24 => ?_))
 replace h24 : Lc 2 w21 O22 g20 26 [(.slice A9 x0.vars.length c10), (.slice A12 x0.init.length c13), (.slice A15 x0.goal.length c16), (.slice A18 x0.ops.length c19)] := h24
 refine o_as rfl rfl (o_as rfl rfl (o_z ?_))
 refine ewp_seq (ewp_region (o_mv rfl rfl ?_))
 obtain ⟨q25, e26, hm⟩ := bs hm
 refine l_callA (O := O22) (A := All w21) (R := fun w' F v => Vb w' F v q25) (c_base_Clip (fun _ h => h) rx1 (show inI64 (0) from by decide) (show inI64 (65536) from by decide) e26) rfl rfl fun v31 w27 O28 S29 h30 => ?_
 obtain ⟨rfl, r32⟩ := h30.int
 refine o_as rfl rfl (o_z ?_)
 refine ewp_seq (ewp_region (l_bslice 3 (by decide) O28 (xs := (([] : List Int) : List Int)) rfl rfl rfl rfl trivial (by decide) (by decide) rfl fun g33 w34 O35 S36 h37 => ?_))
 refine o_fa rfl rfl ?_
 replace h24 := (h24.st S29).st S36
 refine o_ld (hc := Blk.cell (i := 1) (h24.1) rfl) rfl rfl ?_
 obtain ⟨u39, e40, hm⟩ := bs hm
 obtain ⟨e40, e41, e42⟩ := appI_some e40
 replace h11 := ((h11.st S23).st S29).st S36
 refine l_append rfl h37 (h11.rd) rfl rfl (by decide) e41 e42 rfl fun A43 c44 w45 O46 S47 h48 => ?_
 rw [← e40] at h48 ⊢
 obtain ⟨O50, S51, h48⟩ := h48.freeze
 refine l_bslice 4 (by decide) O50 (xs := ([u39] : List (List Int))) rfl rfl rfl rfl ⟨h48, trivial⟩ (by decide) (by decide) rfl fun g52 w53 O54 S55 h56 => ?_
 refine o_as rfl rfl (o_z ?_)
 refine ewp_seq (ewp_seq (ewp_region (o_as rfl rfl (o_z ?_))))
 obtain ⟨res58, hL59, hm⟩ := bs hm
 refine ewp_join (aft res58 (fun (s60 : (List (List Int)) × Int) (x61 : (Option Addr × Nat)) => [(1, (.int .i64 q25)), (6, (.slice x61.1 s60.1.length x61.2))]) (fun s60 x61 w' => ∃ O' : Lab, Bs w A w' O' ∧ Rw 4 w' O' 22 (.slice x61.1 s60.1.length x61.2) s60.1 ∧ inI64 s60.2)) ?_ ?_
 ·
  refine ewp_block ?_
  replace hB := (((((hB.st S23).st S29).st S36).st S47).st S51).st S55
  replace h8 := (((((h8.st S23).st S29).st S36).st S47).st S51).st S55
  replace h11 := ((h11.st S47).st S51).st S55
  replace h14 := (((((h14.st S23).st S29).st S36).st S47).st S51).st S55
  replace h17 := (((((h17.st S23).st S29).st S36).st S47).st S51).st S55
  replace h24 := ((h24.st S47).st S51).st S55
  refine ewp_lop (σ := (List (List Int)) × Int) (X := (Option Addr × Nat)) hL59 (fun (s60 : (List (List Int)) × Int) (x61 : (Option Addr × Nat)) => [(1, (.int .i64 q25)), (2, (.pointer (some ⟨g20, 0, none⟩))), (6, (.slice x61.1 s60.1.length x61.2)), (7, (.int .i64 s60.2))]) _ (fun s60 x61 w' => ∃ O' : Lab, Bs w A w' O' ∧ Lc 2 w' O' g20 26 [(.slice A9 x0.vars.length c10), (.slice A12 x0.init.length c13), (.slice A15 x0.goal.length c16), (.slice A18 x0.ops.length c19)] ∧ Vb w' (Fr 0 w' O') (.slice A9 x0.vars.length c10) x0.vars ∧ Vb w' (Fr 0 w' O') (.slice A12 x0.init.length c13) x0.init ∧ Vb w' (Fr 0 w' O') (.slice A15 x0.goal.length c16) x0.goal ∧ Vb w' (Fr 0 w' O') (.slice A18 x0.ops.length c19) x0.ops ∧ Rw 4 w' O' 22 (.slice x61.1 s60.1.length x61.2) s60.1 ∧ inI64 s60.2) _ ((some ⟨g52, 0, none⟩), 1) ⟨O54, hB, h24, h8, h11, h14, h17, h56, (show inI64 (0) from by decide)⟩ ⟨rfl, rfl, rfl, rfl, trivial⟩ ?_
  rintro s60 x61 w64 cc66 ⟨O65, hB, h24, h8, h11, h14, h17, h76, r78⟩ hf68 hret69 hbrk70
  refine ewp_seq (ewp_seq ?_)
  obtain ⟨y79, hy80, hf68⟩ := bs hf68
  refine ewp_join (fun l' w' => ∃ (x82 : Unit) (O' : Lab), subs l' [(1, (.int .i64 q25)), (2, (.pointer (some ⟨g20, 0, none⟩))), (6, (.slice x61.1 s60.1.length x61.2)), (7, (.int .i64 s60.2)), (27, (.bool y79))] ∧ Bs w A w' O' ∧ Lc 2 w' O' g20 26 [(.slice A9 x0.vars.length c10), (.slice A12 x0.init.length c13), (.slice A15 x0.goal.length c16), (.slice A18 x0.ops.length c19)] ∧ Vb w' (Fr 0 w' O') (.slice A9 x0.vars.length c10) x0.vars ∧ Vb w' (Fr 0 w' O') (.slice A12 x0.init.length c13) x0.init ∧ Vb w' (Fr 0 w' O') (.slice A15 x0.goal.length c16) x0.goal ∧ Vb w' (Fr 0 w' O') (.slice A18 x0.ops.length c19) x0.ops ∧ Rw 4 w' O' 22 (.slice x61.1 s60.1.length x61.2) s60.1) ?_ ?_
  ·
   refine ewp_region (o_mv rfl rfl (o_mv rfl rfl (o_ln rfl rfl ?_)))
   have l84 : s60.1.length ≤ 9223372036854775807 := Nat.le_trans h76.len.2.1 h76.len.2.2
   have r83 : inI64 (s60.1.length : Int) := rngNat l84
   refine o_ltS rfl rfl rfl (fun c85 => ?_) fun c85 => ?_
   ·
    replace hy80 := ip hy80 c85
    refine o_mv rfl rfl (owp_yes rfl rfl (o_mv rfl rfl (owp_yes rfl rfl (o_ln rfl rfl ?_))))
    have l87 : s60.1.length ≤ 9223372036854775807 := Nat.le_trans h76.len.2.1 h76.len.2.2
    have r86 : inI64 (s60.1.length : Int) := rngNat l87
    refine owp_yes rfl rfl (o_mv rfl rfl (owp_yes rfl rfl (o_leS rfl rfl rfl (fun c88 => ?_) fun c88 => ?_)))
    ·
     replace hy80 := ip hy80 c88
     refine o_pt rfl rfl rfl (o_z ?_)
     obtain rfl := sm hy80
     exact ⟨(), _, ⟨rfl, rfl, rfl, rfl, rfl, trivial⟩, hB, h24, h8, h11, h14, h17, h76⟩
    replace hy80 := im hy80 c88
    refine o_pt rfl rfl rfl (o_z ?_)
    obtain rfl := sm hy80
    exact ⟨(), _, ⟨rfl, rfl, rfl, rfl, rfl, trivial⟩, hB, h24, h8, h11, h14, h17, h76⟩
   replace hy80 := im hy80 c85
   refine o_mv rfl rfl (owp_no rfl rfl rfl rfl (owp_no rfl rfl rfl rfl (owp_no rfl rfl rfl rfl (owp_no rfl rfl rfl rfl (o_pf rfl rfl rfl (o_z ?_))))))
   obtain rfl := sm hy80
   exact ⟨(), _, ⟨rfl, rfl, rfl, rfl, rfl, trivial⟩, hB, h24, h8, h11, h14, h17, h76⟩
  rintro l89 w90 ⟨x82, O91, hs92, hB, h24, h8, h11, h14, h17, h76⟩
  refine ewp_sub _ hs92 ?_
  refine ewp_cond rfl (fun c93 => ?_) (fun c93 => ?_)
  ·
   replace hf68 := ip hf68 c93
   refine ewp_skip (ewp_seq (ewp_block (ewp_seq (ewp_region (o_fa rfl rfl (o_ld (hc := Blk.cell (i := 3) (h24.1) rfl) rfl rfl ?_))))))
   refine o_ln rfl rfl ?_
   have l95 : x0.ops.length ≤ 9223372036854775807 := Nat.le_trans h17.len.2.1 h17.len.2.2
   have r94 : inI64 (x0.ops.length : Int) := rngNat l95
   refine o_mv rfl rfl (o_z ?_)
   obtain ⟨res96, hL97, hf68⟩ := bs hf68
   refine ewp_join (aft res96 (fun (s98 : (List (List Int))) (x99 : (Option Addr × Nat)) => [(1, (.int .i64 q25)), (2, (.pointer (some ⟨g20, 0, none⟩))), (6, (.slice x99.1 s98.length x99.2)), (7, (.int .i64 s60.2))]) (fun s98 x99 w' => ∃ O' : Lab, Bs w A w' O' ∧ Lc 2 w' O' g20 26 [(.slice A9 x0.vars.length c10), (.slice A12 x0.init.length c13), (.slice A15 x0.goal.length c16), (.slice A18 x0.ops.length c19)] ∧ Vb w' (Fr 0 w' O') (.slice A9 x0.vars.length c10) x0.vars ∧ Vb w' (Fr 0 w' O') (.slice A12 x0.init.length c13) x0.init ∧ Vb w' (Fr 0 w' O') (.slice A15 x0.goal.length c16) x0.goal ∧ Vb w' (Fr 0 w' O') (.slice A18 x0.ops.length c19) x0.ops ∧ Rw 4 w' O' 22 (.slice x99.1 s98.length x99.2) s98)) ?_ ?_
   ·
    refine ewp_block (ewp_rng (σ := (List (List Int))) (X := (Option Addr × Nat)) (x0.ops.length) hL97 rfl l95 (fun (s98 : (List (List Int))) (x99 : (Option Addr × Nat)) => [(1, (.int .i64 q25)), (2, (.pointer (some ⟨g20, 0, none⟩))), (6, (.slice x99.1 s98.length x99.2)), (7, (.int .i64 s60.2))]) _ (fun s98 x99 w' => ∃ O' : Lab, Bs w A w' O' ∧ Lc 2 w' O' g20 26 [(.slice A9 x0.vars.length c10), (.slice A12 x0.init.length c13), (.slice A15 x0.goal.length c16), (.slice A18 x0.ops.length c19)] ∧ Vb w' (Fr 0 w' O') (.slice A9 x0.vars.length c10) x0.vars ∧ Vb w' (Fr 0 w' O') (.slice A12 x0.init.length c13) x0.init ∧ Vb w' (Fr 0 w' O') (.slice A15 x0.goal.length c16) x0.goal ∧ Vb w' (Fr 0 w' O') (.slice A18 x0.ops.length c19) x0.ops ∧ Rw 4 w' O' 22 (.slice x99.1 s98.length x99.2) s98) _ (x61.1, x61.2) ⟨O91, hB, h24, h8, h11, h14, h17, h76⟩ ⟨rfl, rfl, rfl, rfl, rfl, rfl, trivial⟩ (fun _ _ => ⟨rfl, rfl⟩) (fun _ _ => ⟨rfl, rfl, rfl, rfl, trivial⟩) (fun _ _ _ ⟨O', hB, h24, h8, h11, h14, h17, h113⟩ => ⟨O', hB, h24, h8, h11, h14, h17, h113⟩) ⟨rfl, rfl, rfl⟩ ⟨rfl, rfl⟩ ?_)
    rintro k100 a101 s98 x99 w102 cc104 hx105 ⟨O103, hB, h24, h8, h11, h14, h17, h113⟩ hf106 hret107 hbrk108
    have rk100 : inI64 (k100 : Int) := rngK hx105 l95
    refine ewp_seq (ewp_region (o_mv rfl rfl (o_as rfl rfl (o_z ?_))))
    refine ewp_seq (ewp_drawX [] O103 ?_)
    refine x_pre (fuel := 6) [] [(0, true), (1, true), (2, true), (3, true), (4, true), (5, true)] (by kernel_rfl) rfl ?_
    refine h_laB (hl := rfl) (hb := fun w' ⟨O', hq⟩ => ((h24.st hq (by decide)).1).cellsAt) rfl rfl rfl ?_
    refine h_mv rfl rfl rfl (h_mv rfl rfl rfl ?_)
    obtain ⟨a115, e116, hf106⟩ := bs hf106
    obtain ⟨p118, x117⟩ := atI_some' e116
    obtain ⟨b119, o120, ce121, hA122, hF125, hl123, hd124, v126, rfl, h127⟩ := h113.elemF x117
    replace h127 := Vb.of_slice h127
    obtain ⟨A128, c129, rfl⟩ := h127.form
    refine h_iaE (hA := hA122) (hj := (Int.toNat_of_nonneg p118).symm) (hlt := hl123) rfl rfl rfl rfl ?_
    refine h_ldC (hc := fun w' ⟨O', hq⟩ => cat0 (cellsAt_agree (hq.agree (i := 4) (by decide)) hF125 hd124)) rfl rfl rfl ?_
    refine h_mv rfl rfl rfl (hwp_nilT ?_)
    refine x_one (i := 6) (by kernel_rfl) rfl ?_
    obtain ⟨q130, e131, hf106⟩ := bs hf106
    refine l_call (O := O103) (R := fun w' F v => T2 w' F v q130) (c_base_Apply Fr.lt (Vb.ofAgg (cs := [(.slice A9 x0.vars.length c10), (.slice A12 x0.init.length c13), (.slice A15 x0.goal.length c16), (.slice A18 x0.ops.length c19)]) (x := x0) rfl ⟨_, _, _, _, rfl, h8, h11, h14, h17⟩) h127 rk100 e131) rfl rfl fun v136 w132 O133 S134 h135 => ?_
    obtain ⟨v137, v138, rfl, h139, h140⟩ := h135
    obtain ⟨A141, c142, rfl⟩ := h139.form
    obtain rfl := h140.bool
    have hZ := S134.lst [] (fun _ h => h.elim)
    refine x_go [] hZ (by kernel_rfl) ?_
    refine x_pre (fuel := 0) [] [(7, true), (8, true), (9, true), (10, true), (11, true)] (by kernel_rfl) rfl ?_
    refine h_mv rfl rfl rfl (h_ex rfl rfl rfl rfl (h_ex rfl rfl rfl rfl (h_as rfl rfl rfl (h_as rfl rfl rfl (hwp_nilT ?_)))))
    refine x_nil (by kernel_rfl) ?_
    refine ewp_seq ?_
    obtain ⟨y143, hy144, hf106⟩ := bs hf106
    refine ewp_join (fun l' w' => ∃ (x146 : Unit) (O' : Lab), subs l' [(1, (.int .i64 q25)), (2, (.pointer (some ⟨g20, 0, none⟩))), (6, (.slice x99.1 s98.length x99.2)), (7, (.int .i64 s60.2)), (9, (.slice A141 q130.1.length c142)), (32, (.int .i64 (x0.ops.length : Int))), (33, (.int .i64 (k100 : Int))), (52, (.bool y143))] ∧ Bs w A w' O' ∧ Lc 2 w' O' g20 26 [(.slice A9 x0.vars.length c10), (.slice A12 x0.init.length c13), (.slice A15 x0.goal.length c16), (.slice A18 x0.ops.length c19)] ∧ Vb w' (Fr 0 w' O') (.slice A9 x0.vars.length c10) x0.vars ∧ Vb w' (Fr 0 w' O') (.slice A12 x0.init.length c13) x0.init ∧ Vb w' (Fr 0 w' O') (.slice A15 x0.goal.length c16) x0.goal ∧ Vb w' (Fr 0 w' O') (.slice A18 x0.ops.length c19) x0.ops ∧ Rw 4 w' O' 22 (.slice x99.1 s98.length x99.2) s98 ∧ Vb w' (Fr 0 w' O') (.slice A141 q130.1.length c142) q130.1) ?_ ?_
    ·
     refine ewp_region (o_mv rfl rfl (o_mv rfl rfl ?_))
     rcases Bool.eq_false_or_eq_true q130.2 with c147 | c147
     ·
      try simp only [c147]
      replace hy144 := ip hy144 c147
      refine owp_yes rfl rfl (o_mv rfl rfl (owp_yes rfl rfl (o_mv rfl rfl (owp_yes rfl rfl ?_))))
      obtain ⟨q148, e149, hy144⟩ := bs hy144
      replace h113 := h113.st S134
      refine l_callA (O := O133) (A := All w132) (R := fun w' F v => Vb w' F v q148) (c_ref25_Find (fun _ h => h) (h113).all (Vb.mono (F := Fr 0 w132 O133) h139 Fr.lt) e149) rfl rfl fun v154 w150 O151 S152 h153 => ?_
      obtain ⟨rfl, r155⟩ := h153.int
      refine owp_yes rfl rfl (o_ltS rfl rfl rfl (fun c156 => ?_) fun c156 => ?_)
      ·
       replace hy144 := ip hy144 c156
       refine o_pt rfl rfl rfl (o_z ?_)
       obtain rfl := sm hy144
       replace hB := (hB.st S134).st S152
       replace h8 := (h8.st S134).st S152
       replace h11 := (h11.st S134).st S152
       replace h14 := (h14.st S134).st S152
       replace h17 := (h17.st S134).st S152
       replace h24 := (h24.st S134).st S152
       replace h113 := h113.st S152
       replace h139 := h139.st S152
       exact ⟨(), _, ⟨rfl, rfl, rfl, rfl, rfl, rfl, rfl, rfl, trivial⟩, hB, h24, h8, h11, h14, h17, h113, h139⟩
      replace hy144 := im hy144 c156
      refine o_pt rfl rfl rfl (o_z ?_)
      obtain rfl := sm hy144
      replace hB := (hB.st S134).st S152
      replace h8 := (h8.st S134).st S152
      replace h11 := (h11.st S134).st S152
      replace h14 := (h14.st S134).st S152
      replace h17 := (h17.st S134).st S152
      replace h24 := (h24.st S134).st S152
      replace h113 := h113.st S152
      replace h139 := h139.st S152
      exact ⟨(), _, ⟨rfl, rfl, rfl, rfl, rfl, rfl, rfl, rfl, trivial⟩, hB, h24, h8, h11, h14, h17, h113, h139⟩
     try simp only [c147]
     replace hy144 := im' hy144 c147
     refine owp_no rfl rfl rfl rfl (owp_no rfl rfl rfl rfl (owp_no rfl rfl rfl rfl (owp_no rfl rfl rfl rfl (o_pf rfl rfl rfl (o_z ?_)))))
     obtain rfl := sm hy144
     replace hB := hB.st S134
     replace h8 := h8.st S134
     replace h11 := h11.st S134
     replace h14 := h14.st S134
     replace h17 := h17.st S134
     replace h24 := h24.st S134
     replace h113 := h113.st S134
     exact ⟨(), _, ⟨rfl, rfl, rfl, rfl, rfl, rfl, rfl, rfl, trivial⟩, hB, h24, h8, h11, h14, h17, h113, h139⟩
    replace hB := hB.st S134
    replace h8 := h8.st S134
    replace h11 := h11.st S134
    replace h14 := h14.st S134
    replace h17 := h17.st S134
    replace h24 := h24.st S134
    replace h113 := h113.st S134
    rintro l157 w158 ⟨x146, O159, hs160, hB, h24, h8, h11, h14, h17, h113, h139⟩
    refine ewp_sub _ hs160 ?_
    refine ewp_cond rfl (fun c161 => ?_) (fun c161 => ?_)
    ·
     replace hf106 := ip hf106 c161
     refine ewp_region (o_mv rfl rfl (o_mv rfl rfl ?_))
     obtain ⟨u162, e163, hf106⟩ := bs hf106
     obtain ⟨e163, e164, e165⟩ := appI_some e163
     refine l_append1 rfl (a := q130.1) h113 h139 (fun _ => rfl) rfl (by decide) (by decide) e164 e165 ⟨rfl, rfl⟩ fun g166 A167 c168 w169 O170 S171 h172 => ?_
     rw [← e163] at h172 ⊢
     refine o_as rfl rfl (o_z ?_)
     obtain rfl := sm hf106
     replace hB := hB.st S171
     replace h8 := h8.st S171
     replace h11 := h11.st S171
     replace h14 := h14.st S171
     replace h17 := h17.st S171
     replace h24 := h24.st S171
     exact show Exists _ from ⟨_, (A167, c168), rfl, ⟨rfl, rfl, rfl, rfl, rfl, rfl, trivial⟩, _, hB, h24, h8, h11, h14, h17, h172⟩
    replace hf106 := im' hf106 c161
    refine ewp_skip ?_
    obtain rfl := sm hf106
    exact show Exists _ from ⟨_, (x99.1, x99.2), rfl, ⟨rfl, rfl, rfl, rfl, rfl, rfl, trivial⟩, _, hB, h24, h8, h11, h14, h17, h113⟩
   rintro l174 w175 ⟨s178, x179, rfl, hs177, O176, hB, h24, h8, h11, h14, h17, h113⟩
   replace hf68 := fin_done hf68
   refine ewp_sub _ hs177 ?_
   refine ewp_region (o_mv rfl rfl ?_)
   obtain ⟨n180, e181, hf68⟩ := bs hf68
   have r182 := (chkI_rng e181)
   refine o_adE (he := e181) rfl rfl rfl ?_
   refine o_as rfl rfl (o_z ?_)
   obtain rfl := sm hf68
   exact show Exists _ from ⟨_, (x179.1, x179.2), rfl, ⟨rfl, rfl, rfl, rfl, trivial⟩, _, hB, h24, h8, h11, h14, h17, h113, r182⟩
  replace hf68 := im' hf68 c93
  refine ewp_exit ?_
  obtain rfl := sm hf68
  exact show Exists _ from ⟨_, (x61.1, x61.2), hbrk70 _ rfl, ⟨rfl, rfl, trivial⟩, _, hB, h76, r78⟩
 replace hB := (((((hB.st S23).st S29).st S36).st S47).st S51).st S55
 rintro l183 w184 ⟨s187, x188, rfl, hs186, O185, hB, h76, r78⟩
 replace hm := fin_done hm
 refine ewp_sub _ hs186 ?_
 refine ewp_seq ?_
 obtain ⟨y189, hy190, hm⟩ := bs hm
 refine ewp_join (fun l' w' => ∃ (x192 : Unit) (O' : Lab), subs l' [(4, (.slice x188.1 s187.1.length x188.2)), (5, (.bool y189))] ∧ Bs w A w' O' ∧ Rw 4 w' O' 22 (.slice x188.1 s187.1.length x188.2) s187.1) ?_ ?_
 ·
  refine ewp_region (o_mv rfl rfl (o_mv rfl rfl (o_ln rfl rfl ?_)))
  have l194 : s187.1.length ≤ 9223372036854775807 := Nat.le_trans h76.len.2.1 h76.len.2.2
  have r193 : inI64 (s187.1.length : Int) := rngNat l194
  refine o_mv rfl rfl (o_leS rfl rfl rfl (fun c195 => ?_) fun c195 => ?_)
  ·
   replace hy190 := ip hy190 c195
   refine o_as rfl rfl (o_as rfl rfl (o_z ?_))
   obtain rfl := sm hy190
   exact ⟨(), _, ⟨rfl, rfl, trivial⟩, hB, h76⟩
  replace hy190 := im hy190 c195
  refine o_as rfl rfl (o_as rfl rfl (o_z ?_))
  obtain rfl := sm hy190
  exact ⟨(), _, ⟨rfl, rfl, trivial⟩, hB, h76⟩
 rintro l196 w197 ⟨x192, O198, hs199, hB, h76⟩
 refine ewp_sub _ hs199 ?_
 refine ewp_ret ?_
 obtain ⟨O200, S201, h76⟩ := h76.freeze
 obtain rfl := sm hm
 replace hB := hB.st S201
 exact ret2 rfl (res_tmp rfl) (res_tmp rfl) ⟨hB.ext, _, _, rfl, (Vb.mono (F := Fr 0 w197 O200) h76 hB.out), vBool⟩
end
section
section
variable {α σ ρ β : Type}
theorem lop_wf' {f : σ → Option (Ctl σ ρ)} (I : σ → Prop) (B : σ → Prop) (R : ρ → Prop) (μ : σ → Nat) (h : ∀ s, I s → (∃ s', f s = some (.next s') ∧ I s' ∧ μ s' < μ s) ∨ (∃ s', f s = some (.brk s') ∧ B s') ∨ ∃ r, f s = some (.ret r) ∧ R r) :
    ∀ s, I s → (∃ s', lop f s = some (.done s') ∧ B s') ∨ ∃ r, lop f s = some (.ret r) ∧ R r := by
  have key : ∀ (n : Nat) s, I s → μ s < n → (∃ s', lop f s = some (.done s') ∧ B s') ∨ ∃ r, lop f s = some (.ret r) ∧ R r := by
    intro n
    induction n with
    | zero => intro s _ hn; omega
    | succ n ih =>
      intro s hI hn
      rw [lop_eq]
      rcases h s hI with ⟨s', h1, h2, h3⟩ | ⟨s', h1, h2⟩ | ⟨r, h1, h2⟩
      · rw [h1]; exact ih s' h2 (by omega)
      · rw [h1]; exact .inl ⟨s', rfl, h2⟩
      · rw [h1]; exact .inr ⟨r, rfl, h2⟩
  exact fun s hI => key (μ s + 1) s hI (by omega)
/-- A loop, and what is said of what comes behind it. -/
theorem lop_ex {f : σ → Option (Ctl σ ρ)} {s₀ : σ} {k : Fin σ ρ → Option β} {P : β → Prop} (I : σ → Prop) (B : σ → Prop) (R : ρ → Prop) (μ : σ → Nat) (h0 : I s₀)
    (h : ∀ s, I s → (∃ s', f s = some (.next s') ∧ I s' ∧ μ s' < μ s) ∨ (∃ s', f s = some (.brk s') ∧ B s') ∨ ∃ r, f s = some (.ret r) ∧ R r)
    (hb : ∀ s, B s → ∃ r, k (.done s) = some r ∧ P r) (hr : ∀ q, R q → ∃ r, k (.ret q) = some r ∧ P r) : ∃ r, bnd (lop f s₀) k = some r ∧ P r := by
  rcases lop_wf' I B R μ h s₀ h0 with ⟨s, h1, h2⟩ | ⟨q, h1, h2⟩
  · rw [h1, bnd_some]; exact hb s h2
  · rw [h1, bnd_some]; exact hr q h2
theorem rng_ex {f : Nat → α → σ → Option (Ctl σ ρ)} {xs : List α} {s₀ : σ} {k : Fin σ ρ → Option β} {P : β → Prop} (I : Nat → σ → Prop) (R : ρ → Prop) (h0 : I 0 s₀)
    (h : ∀ i x s, xs[i]? = some x → I i s → (∃ s', f i x s = some (.next s') ∧ I (i + 1) s') ∨ ∃ q, f i x s = some (.ret q) ∧ R q)
    (hb : ∀ s, I xs.length s → ∃ r, k (.done s) = some r ∧ P r) (hr : ∀ q, R q → ∃ r, k (.ret q) = some r ∧ P r) : ∃ r, bnd (rng f xs 0 s₀) k = some r ∧ P r := by
  have key : ∀ (ys : List α) (j : Nat) (s : σ), (∀ i, ys[i]? = xs[j + i]?) → j + ys.length = xs.length → I j s → ∃ r, bnd (rng f ys j s) k = some r ∧ P r := by
    intro ys
    induction ys with
    | nil => intro j s _ hl hI; exact hb s (by simp at hl; rw [← hl]; exact hI)
    | cons y ys ih =>
      intro j s hg hl hI
      have hy : xs[j]? = some y := by have := hg 0; simpa using this.symm
      simp only [rng]
      rcases h j y s hy hI with ⟨s', h1, h2⟩ | ⟨q, h1, h2⟩
      · rw [h1]
        exact ih (j + 1) s' (fun i => by have := hg (i + 1); rw [show j + 1 + i = j + (i + 1) from by omega, ← this]; simp) (by simp at hl; omega) h2
      · rw [h1, bnd_some]; exact hr q h2
  exact key xs 0 s₀ (fun i => by rw [Nat.zero_add]) (by omega) h0
theorem rng_bnd {f : Nat → α → σ → Option (Ctl σ ρ)} {xs : List α} {s₀ : σ} {k : Fin σ ρ → Option β} {r : Option β} (I : Nat → σ → Prop) (h0 : I 0 s₀)
    (h : ∀ i x s, xs[i]? = some x → I i s → ∃ s', f i x s = some (.next s') ∧ I (i + 1) s') (hb : ∀ s, I xs.length s → k (.done s) = r) : bnd (rng f xs 0 s₀) k = r := by
  obtain ⟨s, h1, h2⟩ := rng_all I h0 h
  rw [h1, bnd_some]
  exact hb s h2
end
end
section
open Go Go.RowKit
def Inf : Int := 1125899906842624
theorem take_mem {α : Type} {l : List α} {k : Nat} {x y : α} (h : l[k]? = some x) : y ∈ l.take (k + 1) ↔ y ∈ l.take k ∨ y = x := by
  rw [List.take_add_one, h, List.mem_append]; simp
end
section
open Go Go.RowKit
theorem take_get' {α : Type} {l : List α} {m i : Nat} {x : α} (h : (l.take m)[i]? = some x) : l[i]? = some x := by
  by_cases hi : i < m
  · rwa [List.getElem?_take_of_lt hi] at h
  · rw [List.getElem?_take_eq_none (by omega)] at h; cases h
/-- Comes first: by key, tie, number. -/
def bfr (x y : QEn) : Prop := x.key < y.key ∨ (x.key = y.key ∧ (x.tie < y.tie ∨ (x.tie = y.tie ∧ x.number < y.number)))
instance (x y : QEn) : Decidable (bfr x y) := by unfold bfr; infer_instance
/-- Does not come first. -/
def nb (x y : QEn) : Prop := ¬ bfr x y
theorem nb_trans {x y z : QEn} (h1 : nb x y) (h2 : nb y z) : nb x z := by unfold nb bfr at *; omega
theorem nb_of {x y : QEn} (h : bfr x y) : nb y x := by unfold nb bfr at *; omega
theorem nb_rfl (x : QEn) : nb x x := by unfold nb bfr; omega
def HeapOk (l : List QEn) : Prop := ∀ (j : Nat) x y, 0 < j → l[j]? = some x → l[(j - 1) / 2]? = some y → nb x y
def Over (l : List QEn) (i : Nat) : Prop := ∀ (j : Nat) x y, 0 < i → 0 < j → (j - 1) / 2 = i → l[j]? = some x → l[(i - 1) / 2]? = some y → nb x y
def UpI (l : List QEn) (i : Nat) : Prop := (∀ (j : Nat) x y, 0 < j → j ≠ i → l[j]? = some x → l[(j - 1) / 2]? = some y → nb x y) ∧ Over l i
def DownI (l : List QEn) (i : Nat) : Prop := (∀ (j : Nat) x y, 0 < j → (j - 1) / 2 ≠ i → l[j]? = some x → l[(j - 1) / 2]? = some y → nb x y) ∧ Over l i
theorem swp_get {l : List QEn} {i j : Nat} {a b : QEn} (hi : l[i]? = some a) (hj : l[j]? = some b) (hne : i ≠ j) (k : Nat) : ((l.set i b).set j a)[k]? = if k = j then some a else if k = i then some b else l[k]? := by
  by_cases h1 : k = j
  · subst h1; rw [if_pos rfl, List.getElem?_set_self (by simpa using lt_of_get hj)]
  · rw [if_neg h1, List.getElem?_set_ne (by omega)]
    by_cases h2 : k = i
    · subst h2; rw [if_pos rfl, List.getElem?_set_self (lt_of_get hi)]
    · rw [if_neg h2, List.getElem?_set_ne (by omega)]
theorem swp_perm {l : List QEn} {i j : Nat} {a b : QEn} (hi : l[i]? = some a) (hj : l[j]? = some b) : ((l.set i b).set j a).Perm l := by
  have h1 := lt_of_get hi
  have h2 := lt_of_get hj
  have e1 : l[i] = a := by rw [List.getElem?_eq_getElem h1] at hi; exact Option.some.inj hi
  have e2 : l[j] = b := by rw [List.getElem?_eq_getElem h2] at hj; exact Option.some.inj hj
  rw [← e1, ← e2]
  exact List.set_set_perm h1 h2
theorem UpI.step {l : List QEn} {i : Nat} {a b : QEn} (h : UpI l i) (h0 : 0 < i) (hi : l[i]? = some a) (hj : l[(i - 1) / 2]? = some b) (hb : bfr a b) : UpI ((l.set i b).set ((i - 1) / 2) a) ((i - 1) / 2) := by
  have hne : i ≠ (i - 1) / 2 := by omega
  constructor
  · intro j x y hj0 hjp hx hy
    rw [swp_get hi hj hne, if_neg hjp] at hx
    rw [swp_get hi hj hne] at hy
    by_cases e1 : j = i
    · subst e1
      rw [if_pos rfl] at hx hy
      obtain rfl := Option.some.inj hx
      obtain rfl := Option.some.inj hy
      exact nb_of hb
    · rw [if_neg e1] at hx
      by_cases e2 : (j - 1) / 2 = (i - 1) / 2
      · rw [if_pos e2] at hy
        obtain rfl := Option.some.inj hy
        have := h.1 j x b hj0 e1 hx (by rw [e2]; exact hj)
        exact nb_trans this (nb_of hb)
      · rw [if_neg e2] at hy
        by_cases e3 : (j - 1) / 2 = i
        · rw [if_pos e3] at hy
          obtain rfl := Option.some.inj hy
          exact h.2 j x b h0 hj0 e3 hx hj
        · rw [if_neg e3] at hy
          exact h.1 j x y hj0 e1 hx hy
  · intro j x y hp0 hj0 hjp hx hy
    rw [swp_get hi hj hne] at hx hy
    have n1 : ((i - 1) / 2 - 1) / 2 ≠ (i - 1) / 2 := by omega
    have n2 : ((i - 1) / 2 - 1) / 2 ≠ i := by omega
    rw [if_neg n1, if_neg n2] at hy
    have hpp := h.1 ((i - 1) / 2) b y hp0 (by omega) hj hy
    rw [if_neg (by omega)] at hx
    by_cases e1 : j = i
    · subst e1
      rw [if_pos rfl] at hx
      obtain rfl := Option.some.inj hx
      exact hpp
    · rw [if_neg e1] at hx
      exact nb_trans (h.1 j x b hj0 e1 hx (by rw [hjp]; exact hj)) hpp
theorem UpI.heap {l : List QEn} {i : Nat} (h : UpI l i) (hi : i = 0 ∨ ∀ x y, l[i]? = some x → l[(i - 1) / 2]? = some y → nb x y) : HeapOk l := fun j x y hj hx hy => by
  by_cases e : j = i
  · subst e
    rcases hi with h0 | h1
    · omega
    · exact h1 x y hx hy
  · exact h.1 j x y hj e hx hy
theorem DownI.step {l : List QEn} {i c : Nat} {a b : QEn} (h : DownI l i) (hc : c = 2 * i + 1 ∨ c = 2 * i + 2) (hi : l[i]? = some a) (hj : l[c]? = some b) (hb : bfr b a) (hs : ∀ (j : Nat) x, 0 < j → (j - 1) / 2 = i → l[j]? = some x → nb x b) : DownI ((l.set i b).set c a) c := by
  have hne : i ≠ c := by omega
  have hcp : (c - 1) / 2 = i := by omega
  constructor
  · intro j x y hj0 hjp hx hy
    rw [swp_get hi hj hne] at hx hy
    rw [if_neg hjp] at hy
    by_cases e1 : j = c
    · subst e1
      rw [if_pos rfl] at hx
      rw [if_pos hcp] at hy
      obtain rfl := Option.some.inj hx
      obtain rfl := Option.some.inj hy
      exact nb_of hb
    · rw [if_neg e1] at hx
      by_cases e2 : j = i
      · subst e2
        rw [if_pos rfl] at hx
        rw [if_neg (by omega)] at hy
        obtain rfl := Option.some.inj hx
        exact h.2 c _ y hj0 (by omega) hcp hj hy
      · rw [if_neg e2] at hx
        by_cases e3 : (j - 1) / 2 = i
        · rw [if_pos e3] at hy
          obtain rfl := Option.some.inj hy
          exact hs j x hj0 e3 hx
        · rw [if_neg e3] at hy
          exact h.1 j x y hj0 e3 hx hy
  · intro j x y hc0 hj0 hjc hx hy
    rw [swp_get hi hj hne] at hx hy
    rw [if_neg (by omega), if_neg (by omega)] at hx
    rw [if_neg (by omega), if_pos hcp] at hy
    obtain rfl := Option.some.inj hy
    exact h.1 j x _ hj0 (by omega) hx (by rw [hjc]; exact hj)
theorem DownI.heap {l : List QEn} {i : Nat} (h : DownI l i) (hi : ∀ (j : Nat) x y, 0 < j → (j - 1) / 2 = i → l[j]? = some x → l[i]? = some y → nb x y) : HeapOk l := fun j x y hj hx hy => by
  by_cases e : (j - 1) / 2 = i
  · exact hi j x y hj e hx (by rw [← e]; exact hy)
  · exact h.1 j x y hj e hx hy
theorem heap_root {l : List QEn} (h : HeapOk l) {e : QEn} (he : l[0]? = some e) : ∀ x ∈ l, nb x e := by
  have key : ∀ (n j : Nat) x, j ≤ n → l[j]? = some x → nb x e := by
    intro n
    induction n with
    | zero =>
      intro j x hj hx
      have hj0 : j = 0 := by omega
      rw [hj0, he] at hx
      rw [← Option.some.inj hx]
      exact nb_rfl _
    | succ n ih =>
      intro j x hj hx
      by_cases h0 : j = 0
      · exact ih j x (by omega) hx
      · obtain ⟨y, hy⟩ := some_of_lt (l := l) (k := (j - 1) / 2) (by have := lt_of_get hx; omega)
        exact nb_trans (h j x y (by omega) hx hy) (ih ((j - 1) / 2) y (by omega) hy)
  intro x hx
  obtain ⟨j, hj⟩ := List.getElem?_of_mem hx
  exact key j j x (by omega) hj
end
section
set_option linter.unusedVariables false
open Go Go.RowKit
/-- Costs, then numbers of steps. -/
def lle (c k c' k' : Int) : Prop := c < c' ∨ (c = c' ∧ k ≤ k')
instance (c k c' k' : Int) : Decidable (lle c k c' k') := by unfold lle; infer_instance
theorem lle_trans {a b c d e f : Int} (h1 : lle a b c d) (h2 : lle c d e f) : lle a b e f := by unfold lle at *; omega
theorem lle_rfl (a b : Int) : lle a b a b := by unfold lle; omega
/-- A function but for one place. -/
def upd {α : Type} (f : Nat → α) (m : Nat) (x : α) : Nat → α := fun j => if j = m then x else f j
theorem upd_self {α : Type} (f : Nat → α) (m : Nat) (x : α) : upd f m x m = x := if_pos rfl
theorem upd_ne {α : Type} {f : Nat → α} {m : Nat} {x : α} {j : Nat} (h : j ≠ m) : upd f m x j = f j := if_neg h
/-- Ways from the sources with their costs and numbers of steps. -/
inductive Lx (S : Nat → Prop) (A : Nat → List (Nat × Int)) : Nat → Int → Int → Prop
  | src {i : Nat} : S i → Lx S A i 0 0
  | step {i : Nat} {c k : Int} {j : Nat} {w : Int} : Lx S A i c k → (j, w) ∈ A i → Lx S A j (c + w) (k + 1)
theorem Lx.mono {S S' : Nat → Prop} {A : Nat → List (Nat × Int)} (hS : ∀ i, S i → S' i) {i : Nat} {c k : Int} (h : Lx S A i c k) : Lx S' A i c k := by
  induction h with
  | src h => exact .src (hS _ h)
  | step _ hm ih => exact .step ih hm
structure ArcsOk (n : Nat) (A : Nat → List (Nat × Int)) : Prop where
  to : ∀ i p, p ∈ A i → i < n ∧ p.1 < n
  wt : ∀ i p, p ∈ A i → 0 ≤ p.2 ∧ p.2 ≤ 1048576
def sumF (g : Nat → Nat) : Nat → Nat
  | 0 => 0
  | n + 1 => sumF g n + g n
theorem sumF_congr {g g' : Nat → Nat} : ∀ {n : Nat}, (∀ j, j < n → g' j = g j) → sumF g' n = sumF g n
  | 0, _ => rfl
  | n + 1, h => by
    have h1 := sumF_congr (n := n) fun j hj => h j (by omega)
    have h2 := h n (by omega)
    simp only [sumF]; omega
theorem sumF_upd {g g' : Nat → Nat} {i : Nat} : ∀ {n : Nat}, i < n → (∀ j, j ≠ i → g' j = g j) → sumF g' n + g i = sumF g n + g' i
  | 0, h, _ => by omega
  | n + 1, h, he => by
    by_cases e : i = n
    · subst e
      have := sumF_congr (g := g) (g' := g') (n := i) fun j hj => he j (by omega)
      simp only [sumF]; omega
    · have h1 := sumF_upd (n := n) (by omega) he
      have h2 := he n (by omega)
      simp only [sumF]; omega
theorem sumF_max {g : Nat → Nat} {m : Nat} : ∀ {n : Nat}, (∀ j, j < n → g j ≤ m) → sumF g n ≤ n * m
  | 0, _ => by simp [sumF]
  | n + 1, h => by
    have h1 := sumF_max (n := n) fun j hj => h j (by omega)
    have h2 := h n (by omega)
    simp only [sumF, Nat.succ_mul]; omega
def nScan (f : Nat → Bool) (n : Nat) : Nat := sumF (fun i => if f i = true then 1 else 0) n
/-- How many arcs are still to be looked at. -/
def nRem (A : Nat → List (Nat × Int)) (f : Nat → Bool) (n : Nat) : Nat := sumF (fun i => if f i = true then 0 else (A i).length) n
theorem nScan_le (f : Nat → Bool) (n : Nat) : nScan f n ≤ n := by
  have := sumF_max (g := fun i => if f i = true then 1 else 0) (m := 1) (n := n) fun j _ => by split <;> omega
  unfold nScan; omega
theorem nScan_upd {f : Nat → Bool} {n i : Nat} (hi : i < n) (hf : f i = false) : nScan (upd f i true) n = nScan f n + 1 := by
  have := sumF_upd (g := fun i => if f i = true then 1 else 0) (g' := fun j => if upd f i true j = true then 1 else 0) hi fun j hj => by rw [upd_ne hj]
  rw [upd_self, if_pos rfl, hf, if_neg (by simp)] at this
  unfold nScan; omega
theorem nRem_upd {A : Nat → List (Nat × Int)} {f : Nat → Bool} {n i : Nat} (hi : i < n) (hf : f i = false) : nRem A (upd f i true) n + (A i).length = nRem A f n := by
  have := sumF_upd (g := fun i => if f i = true then 0 else (A i).length) (g' := fun j => if upd f i true j = true then 0 else (A j).length) hi fun j hj => by rw [upd_ne hj]
  rw [upd_self, if_pos rfl, hf, if_neg (by simp)] at this
  unfold nRem; omega
structure DjI (n : Nat) (A : Nat → List (Nat × Int)) (S : Nat → Prop) (D : Nat → Nat × Int → Prop) (d k : Nat → Int) (f : Nat → Bool) (hp : List QEn) : Prop where
  src : ∀ i, S i → i < n ∧ d i = 0 ∧ k i = 0
  real : ∀ i, d i ≠ Inf → Lx S A i (d i) (k i)
  bnd : ∀ i, d i ≠ Inf → i < n ∧ 0 ≤ d i ∧ d i ≤ (nScan f n : Int) * 1048576 ∧ 0 ≤ k i ∧ k i ≤ (nScan f n : Int)
  inf : ∀ i, d i = Inf → k i = Inf
  ent : ∀ e ∈ hp, ∃ i : Nat, e.item = (i : Int) ∧ i < n ∧ d i ≠ Inf ∧ lle (d i) (k i) e.key e.tie
  opn : ∀ i, f i = false → d i ≠ Inf → ∃ e ∈ hp, e.key = d i ∧ e.tie = k i ∧ e.item = (i : Int)
  low : ∀ j, f j = true → ∀ e ∈ hp, lle (d j) (k j) e.key e.tie
  fin : ∀ j, f j = true → d j ≠ Inf
  old : ∀ (j : Nat) e, f j = true → e ∈ hp → e.item = (j : Int) → e.key = d j → e.tie = k j → False
  uni : hp.Pairwise (fun a b => ¬(a.key = b.key ∧ a.tie = b.tie ∧ a.item = b.item))
  rel : ∀ j p, f j = true → p ∈ A j → D j p → d p.1 ≠ Inf ∧ lle (d p.1) (k p.1) (d j + p.2) (k j + 1)
/-- Least costs, and the fewest steps of ways with these. -/
structure LexP (n : Nat) (A : Nat → List (Nat × Int)) (S : Nat → Prop) (d k : Nat → Int) : Prop where
  real : ∀ i, d i ≠ Inf → Lx S A i (d i) (k i)
  low : ∀ i c q, Lx S A i c q → d i ≠ Inf ∧ lle (d i) (k i) c q
theorem uni_perm {hp hp' : List QEn} (h : hp'.Perm hp) (hu : hp.Pairwise (fun a b => ¬(a.key = b.key ∧ a.tie = b.tie ∧ a.item = b.item))) : hp'.Pairwise (fun a b => ¬(a.key = b.key ∧ a.tie = b.tie ∧ a.item = b.item)) :=
  (h.pairwise_iff fun {a b} hab hc => hab ⟨hc.1.symm, hc.2.1.symm, hc.2.2.symm⟩).2 hu
section
variable {n : Nat} {A : Nat → List (Nat × Int)} {S : Nat → Prop} {D : Nat → Nat × Int → Prop} {d k : Nat → Int} {f : Nat → Bool} {hp hp' : List QEn} {e : QEn}
theorem dj_start : DjI n A (fun _ => False) (fun _ _ => True) (fun _ => Inf) (fun _ => Inf) (fun _ => false) [] :=
  ⟨fun _ h => h.elim, fun _ h => (h rfl).elim, fun _ h => (h rfl).elim, fun _ _ => rfl, fun _ h => (by simp at h), fun _ _ h => (h rfl).elim, fun _ h => (by simp at h), fun _ h => (by simp at h), fun _ _ h => (by simp at h), List.Pairwise.nil, fun _ _ h => (by simp at h)⟩
/-- One more source. -/
theorem DjI.source (h : DjI n A S D d k (fun _ => false) hp) {i : Nat} (hi : i < n) (hd : d i = Inf) (hh : hp'.Perm (e :: hp)) (e1 : e.key = 0) (e2 : e.tie = 0) (e3 : e.item = (i : Int)) : DjI n A (fun j => S j ∨ j = i) D (upd d i 0) (upd k i 0) (fun _ => false) hp' := by
  have hI : Inf ≠ 0 := by unfold Inf; omega
  refine ⟨?_, ?_, ?_, ?_, ?_, ?_, fun _ h => (by simp at h), fun _ h => (by simp at h), fun _ _ h => (by simp at h), uni_perm hh (List.pairwise_cons.2 ⟨fun x hx hc => ?_, h.uni⟩), fun _ _ h => (by simp at h)⟩
  · intro j hj
    by_cases e : j = i
    · subst e; exact ⟨hi, upd_self .., upd_self ..⟩
    · rw [upd_ne e, upd_ne e]; exact h.src j (hj.resolve_right e)
  · intro j hj
    by_cases e : j = i
    · subst e; rw [upd_self, upd_self]; exact .src (.inr rfl)
    · rw [upd_ne e] at hj; rw [upd_ne e, upd_ne e]; exact (h.real j hj).mono fun _ => .inl
  · intro j hj
    by_cases e : j = i
    · subst e; rw [upd_self, upd_self]; exact ⟨hi, by omega, by omega, by omega, by omega⟩
    · rw [upd_ne e] at hj; rw [upd_ne e, upd_ne e]; exact h.bnd j hj
  · intro j hj
    by_cases e : j = i
    · subst e; rw [upd_self] at hj; exact (hI hj.symm).elim
    · rw [upd_ne e] at hj; rw [upd_ne e]; exact h.inf j hj
  · intro x hx
    rcases List.mem_cons.1 (hh.mem_iff.1 hx) with rfl | hx
    · exact ⟨i, e3, hi, by rw [upd_self]; exact hI.symm, by rw [upd_self, upd_self, e1, e2]; exact lle_rfl _ _⟩
    · obtain ⟨j, a, b, c, g⟩ := h.ent x hx
      have e : j ≠ i := fun e => c (by rw [e]; exact hd)
      exact ⟨j, a, b, by rw [upd_ne e]; exact c, by rw [upd_ne e, upd_ne e]; exact g⟩
  · intro j _ hj
    by_cases e : j = i
    · subst e; exact ⟨_, hh.mem_iff.2 List.mem_cons_self, by rw [upd_self]; exact e1, by rw [upd_self]; exact e2, e3⟩
    · rw [upd_ne e] at hj
      obtain ⟨x, m, r⟩ := h.opn j rfl hj
      exact ⟨x, hh.mem_iff.2 (List.mem_cons_of_mem _ m), by rw [upd_ne e, upd_ne e]; exact r⟩
  · obtain ⟨j, a, _, c, _⟩ := h.ent x hx
    have : j = i := by omega
    subst this
    exact c hd
/-- An entry that is out of date is thrown away. -/
theorem DjI.drop (h : DjI n A S D d k f hp) (hh : hp.Perm (e :: hp')) {i : Nat} (hi : e.item = (i : Int)) (hd : ¬(e.key = d i ∧ e.tie = k i)) : DjI n A S D d k f hp' :=
  { h with
    ent := fun x hx => h.ent x (hh.mem_iff.2 (List.mem_cons_of_mem _ hx))
    opn := fun j hj hc => by
      obtain ⟨x, m, a, b, c⟩ := h.opn j hj hc
      rcases List.mem_cons.1 (hh.mem_iff.1 m) with rfl | m
      · have : j = i := by omega
        subst this
        exact (hd ⟨a, b⟩).elim
      · exact ⟨x, m, a, b, c⟩
    low := fun j hj x hx => h.low j hj x (hh.mem_iff.2 (List.mem_cons_of_mem _ hx))
    old := fun j x hj hx => h.old j x hj (hh.mem_iff.2 (List.mem_cons_of_mem _ hx))
    uni := (List.pairwise_cons.1 (uni_perm hh.symm h.uni)).2 }
/-- A node begins to be looked at. -/
theorem DjI.mark (h : DjI n A S (fun _ _ => True) d k f hp) (hh : hp.Perm (e :: hp')) (hmin : ∀ x ∈ hp, nb x e) {i : Nat} (hi : e.item = (i : Int)) (h1 : e.key = d i) (h2 : e.tie = k i) :
    f i = false ∧ i < n ∧ d i ≠ Inf ∧ nScan (upd f i true) n = nScan f n + 1 ∧ nRem A (upd f i true) n + (A i).length = nRem A f n ∧ (∀ j, upd f i true j = true → lle (d j) (k j) (d i) (k i)) ∧ DjI n A S (fun j _ => j ≠ i) d k (upd f i true) hp' := by
  have he : e ∈ hp := hh.mem_iff.2 List.mem_cons_self
  have hsub : ∀ x, x ∈ hp' → x ∈ hp := fun x hx => hh.mem_iff.2 (List.mem_cons_of_mem _ hx)
  obtain ⟨i', a, b, c, _⟩ := h.ent e he
  have e0 : i' = i := by omega
  subst e0
  have hf : f i' = false := by
    cases hb : f i' with
    | false => rfl
    | true => exact (h.old i' e hb he hi h1 h2).elim
  have hn := nScan_upd b hf
  have hl : ∀ x ∈ hp, lle (d i') (k i') x.key x.tie := fun x hx => by
    have := hmin x hx
    rw [← h1, ← h2]
    unfold nb bfr at this
    unfold lle
    omega
  have hu : ∀ j, upd f i' true j = true → j = i' ∨ f j = true := fun j hj => by
    by_cases e : j = i'
    · exact .inl e
    · rw [upd_ne e] at hj; exact .inr hj
  refine ⟨hf, b, c, hn, nRem_upd b hf, fun j hj => ?_, ⟨h.src, h.real, fun j hj => ?_, h.inf, fun x hx => h.ent x (hsub x hx), fun j hj hc => ?_, fun j hj x hx => ?_, fun j hj => ?_, fun j x hj hx e1 e2 e3 => ?_, (List.pairwise_cons.1 (uni_perm hh.symm h.uni)).2, fun j p hj hp hne => ?_⟩⟩
  · rcases hu j hj with rfl | hj
    · exact lle_rfl _ _
    · have := h.low j hj e he
      rwa [h1, h2] at this
  · have := h.bnd j hj
    rw [hn]
    omega
  · have e : j ≠ i' := fun e => by subst e; rw [upd_self] at hj; cases hj
    rw [upd_ne e] at hj
    obtain ⟨x, m, r1, r2, r3⟩ := h.opn j hj hc
    rcases List.mem_cons.1 (hh.mem_iff.1 m) with rfl | m
    · omega
    · exact ⟨x, m, r1, r2, r3⟩
  · rcases hu j hj with rfl | hj
    · exact hl x (hsub x hx)
    · exact h.low j hj x (hsub x hx)
  · rcases hu j hj with rfl | hj
    · exact c
    · exact h.fin j hj
  · rcases hu j hj with rfl | hj
    · exact (List.pairwise_cons.1 (uni_perm hh.symm h.uni)).1 x hx ⟨by omega, by omega, by omega⟩
    · exact h.old j x hj (hsub x hx) e1 e2 e3
  · rcases hu j hj with rfl | hj
    · exact (hne rfl).elim
    · exact h.rel j p hj hp trivial
/-- An arc that betters nothing. -/
theorem DjI.keep (h : DjI n A S D d k f hp) {D' : Nat → Nat × Int → Prop} {i : Nat} {p : Nat × Int} (hD : ∀ j q, D' j q → D j q ∨ (j = i ∧ q = p)) (hm : d p.1 ≠ Inf) (hl : lle (d p.1) (k p.1) (d i + p.2) (k i + 1)) : DjI n A S D' d k f hp :=
  { h with
    rel := fun j q hj hq hd => by
      rcases hD j q hd with hd | ⟨rfl, rfl⟩
      · exact h.rel j q hj hq hd
      · exact ⟨hm, hl⟩ }
/-- An arc that betters a node. -/
theorem DjI.better (h : DjI n A S D d k f hp) (hA : ArcsOk n A) {D' : Nat → Nat × Int → Prop} {i : Nat} {p : Nat × Int} (hD : ∀ j q, D' j q → D j q ∨ (j = i ∧ q = p)) (hf : f i = true) (hcur : ∀ j, f j = true → lle (d j) (k j) (d i) (k i)) (hb : d i + 1048576 ≤ (nScan f n : Int) * 1048576) (hb2 : k i + 1 ≤ (nScan f n : Int)) (hp0 : p ∈ A i)
    (hl : ¬ lle (d p.1) (k p.1) (d i + p.2) (k i + 1)) (hh : hp'.Perm (e :: hp)) (e1 : e.key = d i + p.2) (e2 : e.tie = k i + 1) (e3 : e.item = (p.1 : Int)) (hx : d i + p.2 ≠ Inf) : p.1 ≠ i ∧ DjI n A S D' (upd d p.1 (d i + p.2)) (upd k p.1 (k i + 1)) f hp' := by
  obtain ⟨m, w⟩ := p
  dsimp only at *
  have hw := hA.wt i _ hp0
  have hmn := (hA.to i _ hp0).2
  dsimp only at hw hmn
  have hdi := h.fin i hf
  have hbi := h.bnd i hdi
  have hmf : ∀ j, f j = true → j ≠ m := fun j hj e => by
    subst e
    have := hcur j hj
    unfold lle at this hl
    omega
  have hmi := hmf i hf
  refine ⟨Ne.symm hmi, fun j hj => ?_, fun j hj => ?_, fun j hj => ?_, fun j hj => ?_, fun x hx' => ?_, fun j hj hc => ?_, fun j hj x hx' => ?_, fun j hj => ?_, fun j x hj hx' f1 f2 f3 => ?_, uni_perm hh (List.pairwise_cons.2 ⟨fun x hx' hc => ?_, h.uni⟩), fun j q hj hq hd => ?_⟩
  · obtain ⟨a, b, c⟩ := h.src j hj
    have e : j ≠ m := fun e => by subst e; unfold lle at hl; omega
    rw [upd_ne e, upd_ne e]; exact ⟨a, b, c⟩
  · by_cases e : j = m
    · subst e; rw [upd_self, upd_self]; exact .step (h.real i hdi) hp0
    · rw [upd_ne e] at hj; rw [upd_ne e, upd_ne e]; exact h.real j hj
  · by_cases e : j = m
    · subst e; rw [upd_self, upd_self]; exact ⟨hmn, by omega, by omega, by omega, by omega⟩
    · rw [upd_ne e] at hj; rw [upd_ne e, upd_ne e]; exact h.bnd j hj
  · by_cases e : j = m
    · subst e; rw [upd_self] at hj; exact (hx hj).elim
    · rw [upd_ne e] at hj; rw [upd_ne e]; exact h.inf j hj
  · rcases List.mem_cons.1 (hh.mem_iff.1 hx') with rfl | hx'
    · exact ⟨m, e3, hmn, by rw [upd_self]; exact hx, by rw [upd_self, upd_self, e1, e2]; exact lle_rfl _ _⟩
    · obtain ⟨j, a, b, c, g⟩ := h.ent x hx'
      by_cases e : j = m
      · subst e
        exact ⟨j, a, b, by rw [upd_self]; exact hx, by rw [upd_self, upd_self]; unfold lle at *; omega⟩
      · exact ⟨j, a, b, by rw [upd_ne e]; exact c, by rw [upd_ne e, upd_ne e]; exact g⟩
  · by_cases e : j = m
    · subst e; exact ⟨_, hh.mem_iff.2 List.mem_cons_self, by rw [upd_self]; exact e1, by rw [upd_self]; exact e2, e3⟩
    · rw [upd_ne e] at hc
      obtain ⟨x, m, r⟩ := h.opn j hj hc
      exact ⟨x, hh.mem_iff.2 (List.mem_cons_of_mem _ m), by rw [upd_ne e, upd_ne e]; exact r⟩
  · rw [upd_ne (hmf j hj), upd_ne (hmf j hj)]
    rcases List.mem_cons.1 (hh.mem_iff.1 hx') with rfl | hx'
    · have := hcur j hj
      rw [e1, e2]
      unfold lle at *
      omega
    · exact h.low j hj x hx'
  · rw [upd_ne (hmf j hj)]; exact h.fin j hj
  · have e := hmf j hj
    rw [upd_ne e] at f2 f3
    rcases List.mem_cons.1 (hh.mem_iff.1 hx') with rfl | hx'
    · omega
    · exact h.old j x hj hx' f1 f2 f3
  · obtain ⟨j, a, _, c, g⟩ := h.ent x hx'
    have : j = m := by omega
    subst this
    obtain ⟨c1, c2, c3⟩ := hc
    rw [← c1, ← c2, e1, e2] at g
    exact hl g
  · have e := hmf j hj
    rw [upd_ne e, upd_ne e]
    rcases hD j q hd with hd | ⟨rfl, rfl⟩
    · obtain ⟨r1, r2⟩ := h.rel j q hj hq hd
      by_cases e : q.1 = m
      · rw [e] at r1 r2 ⊢
        rw [upd_self, upd_self]
        exact ⟨hx, by unfold lle at *; omega⟩
      · rw [upd_ne e, upd_ne e]; exact ⟨r1, r2⟩
    · dsimp only
      rw [upd_self, upd_self]; exact ⟨hx, lle_rfl _ _⟩
/-- The queue is empty. -/
theorem DjI.done (h : DjI n A S (fun _ _ => True) d k f []) : LexP n A S d k := by
  have hI : Inf ≠ 0 := by unfold Inf; omega
  refine ⟨h.real, fun i c q hx => ?_⟩
  induction hx with
  | src hs => obtain ⟨_, a, b⟩ := h.src _ hs; rw [a, b]; exact ⟨hI.symm, lle_rfl _ _⟩
  | @step i c q j w _ hm ih =>
    have hf : f i = true := by
      cases hb : f i with
      | true => rfl
      | false => obtain ⟨x, m, _⟩ := h.opn i hb ih.1; simp at m
    obtain ⟨r1, r2⟩ := h.rel i _ hf hm trivial
    refine ⟨r1, lle_trans r2 ?_⟩
    have := ih.2
    unfold lle at *
    omega
end
end
section
open Go Go.RowKit
theorem before_eq (x y : QEn) : m_pqueue_before x y = some (decide (bfr x y)) := by
  unfold m_pqueue_before bfr
  by_cases h1 : x.key = y.key
  · by_cases h2 : x.tie = y.tie
    · by_cases h3 : x.number < y.number <;> simp [h1, h2, h3, bnd]
    · by_cases h3 : x.tie < y.tie <;> simp [h1, h2, h3, bnd]
  · by_cases h3 : x.key < y.key <;> simp [h1, h3, bnd]
theorem up_eq {q : Que} {i : Nat} (hi : i < q.heap.length) (hl : q.heap.length ≤ 1000000) (h : UpI q.heap i) : ∃ r, m_pqueue_Queue_up q (i : Int) = some r ∧ HeapOk r.heap ∧ r.heap.Perm q.heap ∧ r.next = q.next := by
  unfold m_pqueue_Queue_up
  refine lop_ex (fun s => ∃ i : Nat, s.1 = (i : Int) ∧ i < s.2.heap.length ∧ UpI s.2.heap i ∧ s.2.heap.Perm q.heap ∧ s.2.next = q.next) (fun s => HeapOk s.2.heap ∧ s.2.heap.Perm q.heap ∧ s.2.next = q.next) (fun s => HeapOk s.heap ∧ s.heap.Perm q.heap ∧ s.next = q.next) (fun s => s.1.toNat) ⟨i, rfl, hi, h, List.Perm.refl _, rfl⟩ ?_ (fun s hs => ⟨_, rfl, hs⟩) (fun s hs => ⟨_, rfl, hs⟩)
  rintro ⟨c, s⟩ ⟨i, hc, hi, hu, hp, hn⟩
  dsimp only at hc hi hu hp hn ⊢
  subst hc
  have hlen := hp.length_eq
  by_cases h0 : 0 < (i : Int)
  · rw [if_pos h0, chkI_eq (by unfold inI64; omega), bnd_some]
    have hq : quoI ((i : Int) - 1) 2 = some (((i - 1) / 2 : Nat) : Int) := by
      unfold quoI; rw [if_pos (by omega)]; congr 1; omega
    obtain ⟨a, ha⟩ := some_of_lt (l := s.heap) (k := i) hi
    obtain ⟨b, hb⟩ := some_of_lt (l := s.heap) (k := (i - 1) / 2) (by omega)
    rw [hq, bnd_some, atI_eq, ha, bnd_some, atI_eq, hb, bnd_some, before_eq, bnd_some]
    by_cases hab : bfr a b
    · rw [decide_eq_true hab, if_t, bnd_some, bnd_some, bnd_some, atI_eq, Int.toNat_natCast, List.getElem?_set_ne (by omega), hb, bnd_some, Int.toNat_natCast]
      refine .inl ⟨_, rfl, ⟨(i - 1) / 2, rfl, by simp; omega, hu.step (by omega) ha hb hab, (swp_perm ha hb).trans hp, hn⟩, ?_⟩
      dsimp only
      omega
    · rw [decide_eq_false hab, if_f]
      refine .inr (.inr ⟨_, rfl, hu.heap (.inr fun x y hx hy => ?_), hp, hn⟩)
      rw [ha] at hx
      rw [hb] at hy
      obtain rfl := Option.some.inj hx
      obtain rfl := Option.some.inj hy
      exact hab
  · rw [if_neg h0]
    exact .inr (.inl ⟨_, rfl, hu.heap (.inl (by omega)), hp, hn⟩)
theorem push_eq {q : Que} (h : HeapOk q.heap) (hl : q.heap.length < 65536) (hn : 0 ≤ q.next ∧ q.next ≤ 1000000000) (k t i : Int) : ∃ r, m_pqueue_Queue_Push q k t i = some r ∧ r.1 = ⟨0⟩ ∧ HeapOk r.2.heap ∧ r.2.heap.Perm (⟨k, t, i, q.next⟩ :: q.heap) ∧ r.2.next = q.next + 1 := by
  unfold m_pqueue_Queue_Push
  rw [if_neg (by omega), appI_eq (by simp; omega) (by simp; omega), bnd_some, chkI_eq (by unfold inI64; omega), bnd_some, chkI_eq (by unfold inI64; simp; omega), bnd_some]
  have hlen : (((q.heap ++ [(⟨k, t, i, q.next⟩ : QEn)]).length : Int) - 1) = ((q.heap.length : Nat) : Int) := by simp
  rw [hlen]
  obtain ⟨r, r1, r2, r3, r4⟩ := up_eq (q := ⟨q.heap ++ [⟨k, t, i, q.next⟩], q.next + 1⟩) (i := q.heap.length) (by simp) (by simp; omega) ⟨fun j x y hj hji hx hy => by
    dsimp only at hx hy
    have hjl : j < q.heap.length := by have := lt_of_get hx; simp at this; omega
    rw [List.getElem?_append_left hjl] at hx
    rw [List.getElem?_append_left (by omega)] at hy
    exact h j x y hj hx hy, fun j x y h1 h2 h3 hx hy => by
    dsimp only at hx
    have := lt_of_get hx
    simp at this
    omega⟩
  rw [r1, bnd_some]
  exact ⟨_, rfl, rfl, r2, r3.trans (List.perm_append_comm (l₁ := q.heap) (l₂ := [_])), r4⟩
theorem down_eq {q : Que} (hl : q.heap.length ≤ 1000000) (h : DownI q.heap 0) : ∃ r, m_pqueue_Queue_down q 0 = some r ∧ HeapOk r.heap ∧ r.heap.Perm q.heap ∧ r.next = q.next := by
  unfold m_pqueue_Queue_down
  refine lop_ex (fun s => ∃ i : Nat, s.1 = (i : Int) ∧ DownI s.2.heap i ∧ i ≤ s.2.heap.length ∧ s.2.heap.Perm q.heap ∧ s.2.next = q.next) (fun _ => False) (fun s => HeapOk s.heap ∧ s.heap.Perm q.heap ∧ s.next = q.next) (fun s => s.2.heap.length - s.1.toNat) ⟨0, rfl, h, by omega, List.Perm.refl _, rfl⟩ ?_ (fun s hs => hs.elim) (fun s hs => ⟨_, rfl, hs⟩)
  rintro ⟨c, s⟩ ⟨i, hc, hd, hi, hp, hn⟩
  dsimp only at hc hd hi hp hn ⊢
  subst hc
  have hlen := hp.length_eq
  rw [chkI_eq (by unfold inI64; omega), bnd_some, chkI_eq (by unfold inI64; omega), bnd_some]
  by_cases h1 : (s.heap.length : Int) ≤ 2 * (i : Int) + 1
  · rw [if_pos h1]
    refine .inr (.inr ⟨_, rfl, hd.heap fun j x y hj hji hx _ => ?_, hp, hn⟩)
    have := lt_of_get hx
    omega
  rw [if_neg h1]
  obtain ⟨a, ha⟩ := some_of_lt (l := s.heap) (k := i) (by omega)
  obtain ⟨b, hb⟩ := some_of_lt (l := s.heap) (k := 2 * i + 1) (by omega)
  have cast1 : 2 * (i : Int) + 1 = ((2 * i + 1 : Nat) : Int) := by omega
  have cast2 : 2 * (i : Int) + 1 + 1 = ((2 * i + 2 : Nat) : Int) := by omega
  have rest : ∀ (c : Nat) (d : QEn), (c = 2 * i + 1 ∨ c = 2 * i + 2) → s.heap[c]? = some d → (∀ (j : Nat) x, 0 < j → (j - 1) / 2 = i → s.heap[j]? = some x → nb x d) → (∃ s', (bnd (atI s.heap (c : Int)) fun a138 => bnd (atI s.heap (i : Int)) fun a153 => bnd (m_pqueue_before a138 a153) fun q168 => if q168 = true then bnd (atI s.heap (c : Int)) fun a180 => bnd (atI s.heap (i : Int)) fun a195 => bnd (atI s.heap (i : Int)) fun _ => bnd (atI (s.heap.set ((i : Int)).toNat a180) (c : Int)) fun _ => some (Ctl.next (ρ := Que) ((c : Int), (⟨((s.heap.set ((i : Int)).toNat a180).set ((c : Int)).toNat a195), s.next⟩ : Que))) else some (.ret s)) = some (.next s') ∧ (∃ i : Nat, s'.1 = (i : Int) ∧ DownI s'.2.heap i ∧ i ≤ s'.2.heap.length ∧ s'.2.heap.Perm q.heap ∧ s'.2.next = q.next) ∧ s'.2.heap.length - s'.1.toNat < s.heap.length - ((i : Int)).toNat) ∨ (∃ s', (bnd (atI s.heap (c : Int)) fun a138 => bnd (atI s.heap (i : Int)) fun a153 => bnd (m_pqueue_before a138 a153) fun q168 => if q168 = true then bnd (atI s.heap (c : Int)) fun a180 => bnd (atI s.heap (i : Int)) fun a195 => bnd (atI s.heap (i : Int)) fun _ => bnd (atI (s.heap.set ((i : Int)).toNat a180) (c : Int)) fun _ => some (Ctl.next (ρ := Que) ((c : Int), (⟨((s.heap.set ((i : Int)).toNat a180).set ((c : Int)).toNat a195), s.next⟩ : Que))) else some (.ret s)) = some (.brk s') ∧ False) ∨ ∃ r, (bnd (atI s.heap (c : Int)) fun a138 => bnd (atI s.heap (i : Int)) fun a153 => bnd (m_pqueue_before a138 a153) fun q168 => if q168 = true then bnd (atI s.heap (c : Int)) fun a180 => bnd (atI s.heap (i : Int)) fun a195 => bnd (atI s.heap (i : Int)) fun _ => bnd (atI (s.heap.set ((i : Int)).toNat a180) (c : Int)) fun _ => some (Ctl.next (ρ := Que) ((c : Int), (⟨((s.heap.set ((i : Int)).toNat a180).set ((c : Int)).toNat a195), s.next⟩ : Que))) else some (.ret s)) = some (.ret r) ∧ HeapOk r.heap ∧ r.heap.Perm q.heap ∧ r.next = q.next := by
    intro c d hc hd' hs
    have hcl := lt_of_get hd'
    rw [atI_eq, hd', bnd_some, atI_eq, ha, bnd_some, before_eq, bnd_some]
    by_cases hda : bfr d a
    · rw [decide_eq_true hda, if_t, bnd_some, bnd_some, bnd_some, atI_eq, Int.toNat_natCast, List.getElem?_set_ne (by omega), hd', bnd_some, Int.toNat_natCast]
      refine .inl ⟨_, rfl, ⟨c, rfl, hd.step hc ha hd' hda hs, by simp; omega, (swp_perm ha hd').trans hp, hn⟩, ?_⟩
      simp
      omega
    · rw [decide_eq_false hda, if_f]
      refine .inr (.inr ⟨_, rfl, hd.heap fun j x y hj hji hx hy => ?_, hp, hn⟩)
      rw [ha] at hy
      obtain rfl := Option.some.inj hy
      exact nb_trans (hs j x hj hji hx) hda
  rw [chkI_eq (by unfold inI64; omega), bnd_some]
  by_cases h2 : 2 * (i : Int) + 1 + 1 < (s.heap.length : Int)
  · obtain ⟨d, hd'⟩ := some_of_lt (l := s.heap) (k := 2 * i + 2) (by omega)
    rw [if_pos h2, bnd_some, cast2, cast1, atI_eq, hd', bnd_some, atI_eq, hb, bnd_some, before_eq, bnd_some]
    by_cases hdb : bfr d b
    · rw [decide_eq_true hdb, if_t, bnd_some, if_t, bnd_some, bnd_some]
      refine rest (2 * i + 2) d (.inr rfl) hd' fun j x hj hji hx => ?_
      have : j = 2 * i + 1 ∨ j = 2 * i + 2 := by omega
      rcases this with rfl | rfl
      · rw [hb] at hx; obtain rfl := Option.some.inj hx; exact nb_of hdb
      · rw [hd'] at hx; obtain rfl := Option.some.inj hx; exact nb_rfl _
    · rw [decide_eq_false hdb, if_f, bnd_some, if_f, bnd_some]
      refine rest (2 * i + 1) b (.inl rfl) hb fun j x hj hji hx => ?_
      have : j = 2 * i + 1 ∨ j = 2 * i + 2 := by omega
      rcases this with rfl | rfl
      · rw [hb] at hx; obtain rfl := Option.some.inj hx; exact nb_rfl _
      · rw [hd'] at hx; obtain rfl := Option.some.inj hx; exact hdb
  · rw [if_neg h2, bnd_some, if_f, bnd_some, cast1]
    refine rest (2 * i + 1) b (.inl rfl) hb fun j x hj hji hx => ?_
    have : j = 2 * i + 1 := by have := lt_of_get hx; omega
    subst this
    rw [hb] at hx; obtain rfl := Option.some.inj hx; exact nb_rfl _
theorem pop_eq {q : Que} (h : HeapOk q.heap) (h0 : 0 < q.heap.length) (hl : q.heap.length ≤ 1000000) : ∃ r, m_pqueue_Queue_Pop q = some r ∧ ∃ (e : QEn) (q' : Que), r = (e.key, e.tie, e.item, ⟨0⟩, q') ∧ HeapOk q'.heap ∧ q.heap.Perm (e :: q'.heap) ∧ (∀ x ∈ q.heap, nb x e) ∧ q'.next = q.next := by
  obtain ⟨e, he⟩ := some_of_lt (l := q.heap) (k := 0) h0
  obtain ⟨z, hz⟩ := some_of_lt (l := q.heap) (k := q.heap.length - 1) (by omega)
  have at0 : atI q.heap 0 = some e := by rw [show (0 : Int) = ((0 : Nat) : Int) from rfl, atI_eq]; exact he
  have cz : ((q.heap.length : Int) - 1) = ((q.heap.length - 1 : Nat) : Int) := by omega
  unfold m_pqueue_Queue_Pop m_pqueue_Queue_Peek
  rw [if_neg (by omega), at0, bnd_some, bnd_some, if_neg (by simp), chkI_eq (by unfold inI64; omega), bnd_some, cz, atI_eq, hz, bnd_some, bnd_some]
  unfold cutI
  rw [if_pos (by simp), bnd_some]
  simp only [Int.toNat_zero, List.drop_zero, Int.toNat_natCast]
  have hperm : q.heap.Perm (e :: (q.heap.set 0 z).take (q.heap.length - 1)) := by
    cases hq : q.heap with
    | nil => rw [hq] at h0; simp at h0
    | cons a tl =>
      rw [hq] at he hz
      simp at he
      subst he
      cases htl : tl.reverse with
      | nil =>
        have : tl = [] := by simpa using htl
        subst this
        simp
      | cons w r =>
        have htl' : tl = r.reverse ++ [w] := by have := congrArg List.reverse htl; simpa using this
        subst htl'
        simp at hz
        subst hz
        simp
  obtain ⟨r, r1, r2, r3, r4⟩ := down_eq (q := ⟨(q.heap.set 0 z).take (q.heap.length - 1), q.next⟩) (by simp; omega) ⟨fun j x y hj hjp hx hy => by
    dsimp only at hx hy
    have hx' := take_get' hx
    have hy' := take_get' hy
    rw [List.getElem?_set_ne (by omega)] at hx' hy'
    exact h j x y hj hx' hy', fun j x y h1 => by omega⟩
  rw [r1, bnd_some]
  exact ⟨_, rfl, e, r, rfl, r2, hperm.trans (List.Perm.cons _ r3.symm), heap_root h he, r4⟩
end
section
set_option linter.unusedVariables false
set_option linter.unusedSimpArgs false
open Go Go.RowKit
/-- A list of bounds as a function. -/
def gI (l : List Int) (i : Nat) : Int := (l[i]?).getD Inf
theorem gI_get {l : List Int} {i : Nat} (h : i < l.length) : l[i]? = some (gI l i) := by unfold gI; rw [List.getElem?_eq_getElem h]; rfl
theorem gI_set {l : List Int} {m : Nat} {x : Int} (h : m < l.length) : gI (l.set m x) = upd (gI l) m x := by
  funext j
  unfold gI upd
  by_cases e : j = m
  · subst e; rw [if_pos rfl, List.getElem?_set_self h]; rfl
  · rw [if_neg e, List.getElem?_set_ne (Ne.symm e)]
theorem gI_at {l : List Int} {i : Nat} (h : i < l.length) : atI l (i : Int) = some (gI l i) := by rw [atI_eq, gI_get h]
theorem gI_rep (n : Nat) : gI (List.replicate n Inf) = fun _ => Inf := by
  funext j
  unfold gI
  rw [List.getElem?_replicate]
  split <;> rfl
/-- The arcs of a node. -/
def arcA (rows : List (List Arc)) (i : Nat) : List (Nat × Int) := ((rows[i]?).getD []).map fun a => (a.dst.toNat, a.weight)
abbrev LQ := List Int × List Int × Que
noncomputable def shIn (x0 : List (List Arc)) (c k : Int) : Arc → LQ → Option (Ctl LQ (Ctl LQ (List Int × List Int))) := fun a s => bnd (chkI (c + a.weight)) fun n1 => bnd (chkI (k + 1)) fun n2 => bnd (bnd (atI s.1 a.dst) fun a385 => if a385 < n1 then (some true) else (bnd (atI s.1 a.dst) fun a398 => if n1 = a398 then (bnd (atI s.2.1 a.dst) fun a411 => if a411 ≤ n2 then (some true) else (some false)) else (some false)) : Option Bool) fun y381 => if y381 = true then (some (.next (s.1, s.2.1, s.2.2))) else (bnd (atI s.1 a.dst) fun _ => bnd (atI s.2.1 a.dst) fun _ => bnd (m_pqueue_Queue_Push s.2.2 n1 n2 a.dst) fun q457 => if q457.1.n ≠ 0 then (bnd (m_explore_relaxed x0 (s.1.set (a.dst : Int).toNat n1) (s.2.1.set (a.dst : Int).toNat n2)) fun q472 => some (.ret (.ret (q472.1, q472.2)))) else (some (.next ((s.1.set (a.dst : Int).toNat n1), (s.2.1.set (a.dst : Int).toNat n2), q457.2))))
noncomputable def shF (x0 : List (List Arc)) : LQ → Option (Ctl LQ (List Int × List Int)) := fun s226 => bnd (m_pqueue_Queue_Len s226.2.2) fun q249 => if 0 < q249 then (bnd (m_pqueue_Queue_Pop s226.2.2) fun q260 => if q260.2.2.2.1.n ≠ 0 then (some (.brk (s226.1, s226.2.1, q260.2.2.2.2))) else (bnd (bnd (atI s226.1 q260.2.2.1) fun a285 => if q260.1 ≠ a285 then (some true) else (bnd (atI s226.2.1 q260.2.2.1) fun a298 => if q260.2.1 ≠ a298 then (some true) else (some false)) : Option Bool) fun y281 => if y281 = true then (some (.next (s226.1, s226.2.1, q260.2.2.2.2))) else (bnd (atI x0 q260.2.2.1) fun a316 => bnd (rng (ρ := Ctl LQ ((List Int) × (List Int))) (fun (_ : Nat) (a338 : Arc) (s335 : LQ) => shIn x0 q260.1 q260.2.1 a338 s335) a316 0 (s226.1, s226.2.1, q260.2.2.2.2)) fun res333 => fin res333 fun (s491 : LQ) => some (.next (s491.1, s491.2.1, s491.2.2))))) else (some (.brk (s226.1, s226.2.1, s226.2.2)))
noncomputable def shE : Fin LQ (List Int × List Int) → Option (List Int × List Int) := fun res224 => fin res224 fun (s497 : LQ) => some (s497.1, s497.2.1)
noncomputable def shS : Int → LQ → Option (Ctl LQ (List Int × List Int)) := fun a152 s149 => bnd (atI s149.1 a152) fun _ => bnd (atI s149.2.1 a152) fun _ => bnd (m_pqueue_Queue_Push s149.2.2 0 0 a152) fun q208 => some (.next ((s149.1.set (a152 : Int).toNat 0), (s149.2.1.set (a152 : Int).toNat 0), q208.2))
theorem sh_unf (x0 : List (List Arc)) (x1 : List Int) : m_explore_shortest x0 x1 = bnd (mkI 8 (0 : Int) (x0.length : Int)) fun u7 => bnd (mkI 8 (0 : Int) (x0.length : Int)) fun u9 => bnd (some (u7, u9) : Option ((List Int) × (List Int))) fun y11 => bnd (rngN (ρ := (List Int) × (List Int)) (fun (k77 : Nat) (s75 : (List Int) × (List Int)) => bnd (s75.1[k77]?) fun a104 => bnd (s75.2[k77]?) fun a116 => some (.next ((s75.1.set k77 1125899906842624), (s75.2.set k77 1125899906842624)))) y11.1.length (y11.1, y11.2)) fun res73 => fin res73 fun (s132 : (List Int) × (List Int)) => bnd (m_pqueue_New) fun q134 => bnd q134 fun o144 => bnd (rng (ρ := (List Int) × (List Int)) (fun (_ : Nat) (a152 : Int) (s149 : LQ) => shS a152 s149) x1 0 (s132.1, s132.2, o144)) fun res147 => fin res147 fun (s222 : LQ) => bnd (lop (shF x0) (s222.1, s222.2.1, s222.2.2)) shE := rfl
/-- What is true between two turns of the queue. -/
structure ShI (n : Nat) (A : Nat → List (Nat × Int)) (S : Nat → Prop) (D : Nat → Nat × Int → Prop) (f : Nat → Bool) (s : LQ) : Prop where
  dj : DjI n A S D (gI s.1) (gI s.2.1) f s.2.2.heap
  l1 : s.1.length = n
  l2 : s.2.1.length = n
  hp : HeapOk s.2.2.heap
structure RowsOk (n : Nat) (rows : List (List Arc)) : Prop where
  len : rows.length = n
  few : n ≤ 600
  ok : ∀ (i : Nat) r a, rows[i]? = some r → a ∈ r → 0 ≤ a.dst ∧ a.dst < (n : Int) ∧ 0 ≤ a.weight ∧ a.weight ≤ 1048576
section
variable {n : Nat} {rows : List (List Arc)} {S : Nat → Prop} {D : Nat → Nat × Int → Prop} {f : Nat → Bool} {s : LQ}
theorem RowsOk.arcs (h : RowsOk n rows) : ArcsOk n (arcA rows) := by
  have key : ∀ i p, p ∈ arcA rows i → ∃ r a, rows[i]? = some r ∧ a ∈ r ∧ p = (a.dst.toNat, a.weight) := fun i p hp => by
    unfold arcA at hp
    cases hr : rows[i]? with
    | none => rw [hr] at hp; simp at hp
    | some r =>
      rw [hr] at hp
      obtain ⟨a, ha, rfl⟩ := List.mem_map.1 hp
      exact ⟨r, a, rfl, ha, rfl⟩
  refine ⟨fun i p hp => ?_, fun i p hp => ?_⟩
  · obtain ⟨r, a, h1, h2, rfl⟩ := key i p hp
    have := h.ok i r a h1 h2
    have hl := lt_of_get h1
    rw [h.len] at hl
    exact ⟨hl, by dsimp only; omega⟩
  · obtain ⟨r, a, h1, h2, rfl⟩ := key i p hp
    have := h.ok i r a h1 h2
    exact ⟨by dsimp only; omega, by dsimp only; omega⟩
theorem sh_arc (h : RowsOk n rows) {i : Nat} {row : List Arc} (hr : rows[i]? = some row) {m : Nat} {a : Arc} (ha : row[m]? = some a) (hI : ShI n (arcA rows) S (fun j p => j ≠ i ∨ p ∈ (arcA rows i).take m) f s) {c k : Int} (hc : gI s.1 i = c) (hk : gI s.2.1 i = k) (hf : f i = true)
    (hcur : ∀ j, f j = true → lle (gI s.1 j) (gI s.2.1 j) c k) (hb : c + 1048576 ≤ (nScan f n : Int) * 1048576) (hb2 : k + 1 ≤ (nScan f n : Int)) (hl : s.2.2.heap.length < 65536) (hn : 0 ≤ s.2.2.next ∧ s.2.2.next ≤ 1000000000) :
    ∃ s', shIn rows c k a s = some (.next s') ∧ ShI n (arcA rows) S (fun j p => j ≠ i ∨ p ∈ (arcA rows i).take (m + 1)) f s' ∧ gI s'.1 i = c ∧ gI s'.2.1 i = k ∧ (∀ j, f j = true → lle (gI s'.1 j) (gI s'.2.1 j) c k) ∧ s'.2.2.heap.length ≤ s.2.2.heap.length + 1 ∧ s.2.2.next ≤ s'.2.2.next ∧ s'.2.2.next ≤ s.2.2.next + 1 := by
  obtain ⟨dl, kl, q⟩ := s
  obtain ⟨hD, h1, h2, h3⟩ := hI
  dsimp only at *
  have hAm : (arcA rows i)[m]? = some (a.dst.toNat, a.weight) := by unfold arcA; rw [hr]; simp [ha]
  have hmem := List.mem_of_getElem? hAm
  have hok := h.ok i row a hr (List.mem_of_getElem? ha)
  have hA := h.arcs
  have hns := nScan_le f n
  have hfew := h.few
  have hdi := hD.fin i hf
  have hbi := hD.bnd i hdi
  rw [hc, hk] at hbi
  obtain ⟨j, hj⟩ : ∃ j : Nat, a.dst = (j : Int) := ⟨a.dst.toNat, by omega⟩
  have hjn : j < n := by omega
  have hDD : ∀ u v, (u ≠ i ∨ v ∈ (arcA rows i).take (m + 1)) → (u ≠ i ∨ v ∈ (arcA rows i).take m) ∨ (u = i ∧ v = (j, a.weight)) := fun u v hv => by
    rcases hv with hv | hv
    · exact .inl (.inl hv)
    · rcases (take_mem hAm).1 hv with hv | hv
      · exact .inl (.inr hv)
      · by_cases e : u = i
        · exact .inr ⟨e, by rw [hv, hj]; rfl⟩
        · exact .inl (.inl e)
  have hmem' : (j, a.weight) ∈ arcA rows i := by rw [hj] at hmem; exact hmem
  unfold shIn
  dsimp only
  have hwc : c + a.weight < Inf := by unfold Inf; omega
  have hr1 : inI64 (c + a.weight) := by unfold inI64; unfold Inf at hwc; omega
  have hr2 : inI64 (k + 1) := by unfold inI64; omega
  rw [chkI_eq hr1, bnd_some, chkI_eq hr2, bnd_some, hj, gI_at (by omega : j < dl.length), bnd_some, bnd_some, gI_at (by omega : j < kl.length), bnd_some]
  by_cases hle : lle (gI dl j) (gI kl j) (c + a.weight) (k + 1)
  · have e : (if gI dl j < c + a.weight then some true else if c + a.weight = gI dl j then if gI kl j ≤ k + 1 then some true else some false else some false) = some true := by
      unfold lle at hle
      by_cases e1 : gI dl j < c + a.weight
      · rw [if_pos e1]
      · rw [if_neg e1, if_pos (by omega), if_pos (by omega)]
    rw [e, bnd_some, if_t]
    refine ⟨_, rfl, ⟨?_, h1, h2, h3⟩, hc, hk, hcur, by dsimp only; omega, by dsimp only; omega, by dsimp only; omega⟩
    exact hD.keep hDD (by unfold lle at hle; dsimp only; omega) (by rw [hc, hk]; exact hle)
  · have e : (if gI dl j < c + a.weight then some true else if c + a.weight = gI dl j then if gI kl j ≤ k + 1 then some true else some false else some false) = some false := by
      unfold lle at hle
      rw [if_neg (by omega)]
      by_cases e1 : c + a.weight = gI dl j
      · rw [if_pos e1, if_neg (by omega)]
      · rw [if_neg e1]
    obtain ⟨r, p1, p2, p3, p4, p5⟩ := push_eq h3 hl hn (c + a.weight) (k + 1) (j : Int)
    rw [e, bnd_some, if_f, p1, bnd_some, bnd_some, bnd_some, p2, if_neg (by decide), Int.toNat_natCast]
    obtain ⟨b1, b2⟩ := hD.better hA (D' := fun u v => u ≠ i ∨ v ∈ (arcA rows i).take (m + 1)) hDD hf (by rw [hc, hk]; exact hcur) (by rw [hc]; exact hb) (by rw [hk]; exact hb2) hmem' (by rw [hc, hk]; exact hle) p4 (by dsimp only; rw [hc]) (by dsimp only; rw [hk]) rfl (by rw [hc]; omega)
    dsimp only at b1 b2
    rw [hc, hk, ← gI_set (by omega), ← gI_set (by omega)] at b2
    have hij : i ≠ j := fun e => b1 e.symm
    refine ⟨_, rfl, ⟨b2, by simp [h1], by simp [h2], p3⟩, ?_, ?_, ?_, ?_, ?_, ?_⟩
    · dsimp only; rw [gI_set (by omega), upd_ne hij]; exact hc
    · dsimp only; rw [gI_set (by omega), upd_ne hij]; exact hk
    · intro u hu
      dsimp only
      have hcu := hcur u hu
      rw [gI_set (by omega), gI_set (by omega)]
      have hne : u ≠ j := fun e => by subst e; unfold lle at hcu hle; omega
      rw [upd_ne hne, upd_ne hne]; exact hcu
    · have := p4.length_eq; simp at this; dsimp only; omega
    · dsimp only; omega
    · dsimp only; omega
theorem sh_loop (h : RowsOk n rows) : ∀ (N : Nat) (s : LQ) (f : Nat → Bool), ShI n (arcA rows) S (fun _ _ => True) f s → s.2.2.heap.length + nRem (arcA rows) f n ≤ 60000 → 0 ≤ s.2.2.next → s.2.2.next + nRem (arcA rows) f n ≤ 60000 → s.2.2.heap.length + nRem (arcA rows) f n < N →
    ∃ s', lop (shF rows) s = some (.done s') ∧ s'.1.length = n ∧ s'.2.1.length = n ∧ LexP n (arcA rows) S (gI s'.1) (gI s'.2.1) ∧ (∀ i, gI s'.1 i = Inf → gI s'.2.1 i = Inf) ∧ ∀ i, gI s'.1 i ≠ Inf → i < n ∧ 0 ≤ gI s'.1 i ∧ gI s'.1 i ≤ 600 * 1048576 ∧ 0 ≤ gI s'.2.1 i ∧ gI s'.2.1 i ≤ 600
  | 0, _, _, _, _, _, _, h0 => absurd h0 (by omega)
  | N + 1, (dl, kl, q), f, hI, hm, hn0, hn1, h0 => by
    obtain ⟨hD, h1, h2, h3⟩ := hI
    dsimp only at *
    rw [lop_eq]
    unfold shF
    have hlen : m_pqueue_Queue_Len q = some (q.heap.length : Int) := rfl
    dsimp only
    rw [hlen, bnd_some]
    by_cases hz : q.heap.length = 0
    · rw [if_neg (by omega)]
      have hnil : q.heap = [] := List.length_eq_zero_iff.1 hz
      rw [hnil] at hD
      refine ⟨_, rfl, h1, h2, hD.done, hD.inf, fun i hi => ?_⟩
      have := hD.bnd i hi
      have hns := nScan_le f n
      have := h.few
      dsimp only at *
      omega
    · rw [if_pos (by omega)]
      obtain ⟨r, r1, e, q', rfl, q1, q2, q3, q4⟩ := pop_eq h3 (by omega) (by omega)
      rw [r1, bnd_some]
      dsimp only
      rw [if_neg (by decide)]
      obtain ⟨i, hi, hin, hdi, _⟩ := hD.ent e (q2.mem_iff.2 List.mem_cons_self)
      have hql := q2.length_eq
      rw [List.length_cons] at hql
      rw [hi, gI_at (by omega), bnd_some, gI_at (by omega), bnd_some]
      by_cases hs : e.key = gI dl i ∧ e.tie = gI kl i
      · rw [if_neg (by simp [hs.1]), if_neg (by simp [hs.2]), bnd_some, if_f]
        obtain ⟨m1, m2, m3, m4, m5, m6, m7⟩ := hD.mark q2 q3 hi hs.1 hs.2
        obtain ⟨row, hrow⟩ := some_of_lt (l := rows) (k := i) (by rw [h.len]; exact m2)
        rw [atI_eq, hrow, bnd_some]
        have hAl : (arcA rows i).length = row.length := by unfold arcA; rw [hrow]; simp
        have hbi := hD.bnd i m3
        obtain ⟨s', s1, s2, s3, s4, s5, s6, s7, s8⟩ := rng_all (ρ := Ctl LQ (List Int × List Int)) (f := fun (_ : Nat) (a338 : Arc) (s335 : LQ) => shIn rows e.key e.tie a338 s335) (xs := row) (s₀ := (dl, kl, q'))
          (fun m s => ShI n (arcA rows) S (fun j p => j ≠ i ∨ p ∈ (arcA rows i).take m) (upd f i true) s ∧ gI s.1 i = e.key ∧ gI s.2.1 i = e.tie ∧ (∀ j, upd f i true j = true → lle (gI s.1 j) (gI s.2.1 j) e.key e.tie) ∧ s.2.2.heap.length ≤ q'.heap.length + m ∧ q'.next ≤ s.2.2.next ∧ s.2.2.next ≤ q'.next + m)
          ⟨⟨{ m7 with rel := fun j p hj hp hd => m7.rel j p hj hp (hd.resolve_right (by simp)) }, h1, h2, q1⟩, hs.1.symm, hs.2.symm, fun j hj => by rw [hs.1, hs.2]; exact m6 j hj, by simp, by simp, by simp⟩
          (fun m a s hma hI => by
            obtain ⟨i1, i2, i3, i4, i5, i6, i7⟩ := hI
            have hml := lt_of_get hma
            obtain ⟨s', t1, t2, t3, t4, t5, t6, t7, t8⟩ := sh_arc h hrow hma i1 i2 i3 (upd_self ..) i4 (by rw [m4, hs.1]; omega) (by rw [m4, hs.2]; omega) (by omega) ⟨by omega, by omega⟩
            exact ⟨s', t1, t2, t3, t4, t5, by omega, by omega, by omega⟩)
        rw [s1, bnd_some, fin_d]
        dsimp only at s2 s6 s7 s8 ⊢
        refine sh_loop h N (s'.1, s'.2.1, s'.2.2) (upd f i true) ⟨{ s2.dj with rel := fun j p hj hp _ => s2.dj.rel j p hj hp ?_ }, s2.l1, s2.l2, s2.hp⟩ ?_ ?_ ?_ ?_
        · by_cases ej : j = i
          · subst ej; exact .inr (by rw [List.take_of_length_le (by omega)]; exact hp)
          · exact .inl ej
        all_goals dsimp only; omega
      · have e2 : (if e.key ≠ gI dl i then some true else if e.tie ≠ gI kl i then some true else some false) = some true := by
          by_cases e1 : e.key = gI dl i
          · rw [if_neg (by simp [e1]), if_pos (fun hh => hs ⟨e1, hh⟩)]
          · rw [if_pos e1]
        rw [e2, bnd_some, if_t]
        refine sh_loop h N (dl, kl, q') f ⟨hD.drop q2 hi hs, h1, h2, q1⟩ ?_ ?_ ?_ ?_
        all_goals dsimp only; omega
theorem infs_eq {n : Nat} (hn : n ≤ 1000000) : rngN (ρ := (List Int) × (List Int)) (fun (k77 : Nat) (s75 : (List Int) × (List Int)) => bnd (s75.1[k77]?) fun a104 => bnd (s75.2[k77]?) fun a116 => some (.next ((s75.1.set k77 1125899906842624), (s75.2.set k77 1125899906842624)))) n (List.replicate n (0 : Int), List.replicate n (0 : Int)) = some (.done (List.replicate n Inf, List.replicate n Inf)) := by
  have key : ∀ k, k < n → (List.replicate k Inf ++ List.replicate (n - k) 0)[k]? = some 0 ∧ (List.replicate k Inf ++ List.replicate (n - k) 0).set k 1125899906842624 = List.replicate (k + 1) Inf ++ List.replicate (n - (k + 1)) 0 := fun k hk => by
    refine ⟨by rw [List.getElem?_append_right (by simp), List.getElem?_replicate, if_pos (by simp; omega)], ?_⟩
    apply List.ext_getElem?
    intro j
    rcases Nat.lt_trichotomy j k with h | h | h
    · rw [List.getElem?_set_ne (by omega), List.getElem?_append_left (by simp; omega), List.getElem?_append_left (by simp; omega)]
      rw [List.getElem?_replicate, List.getElem?_replicate, if_pos (by omega), if_pos (by omega)]
    · subst h
      rw [List.getElem?_set_self (by simp; omega), List.getElem?_append_left (by simp)]
      simp [Inf]
    · rw [List.getElem?_set_ne (by omega), List.getElem?_append_right (by simp; omega), List.getElem?_append_right (by simp; omega)]
      simp only [List.length_replicate, List.getElem?_replicate]
      by_cases hj : j < n
      · rw [if_pos (by omega), if_pos (by omega)]
      · rw [if_neg (by omega), if_neg (by omega)]
  rw [rngN_from (fun k => (List.replicate k Inf ++ List.replicate (n - k) 0, List.replicate k Inf ++ List.replicate (n - k) 0)) (by simp) (fun k hk => ?_)]
  · simp
  · obtain ⟨e1, e2⟩ := key k hk
    dsimp only
    rw [e1, bnd_some, bnd_some, e2]
theorem shortest_eq (h : RowsOk n rows) (hT : nRem (arcA rows) (fun _ => false) n ≤ 50000) {src : List Int} (hs : ∀ x ∈ src, 0 ≤ x ∧ x < (n : Int)) (hsn : src.Nodup) (hsl : src.length ≤ 1000) :
    ∃ d k, m_explore_shortest rows src = some (d, k) ∧ d.length = n ∧ k.length = n ∧ LexP n (arcA rows) (fun i => (i : Int) ∈ src) (gI d) (gI k) ∧ (∀ i, gI d i = Inf → gI k i = Inf) ∧ ∀ i, gI d i ≠ Inf → i < n ∧ 0 ≤ gI d i ∧ gI d i ≤ 600 * 1048576 ∧ 0 ≤ gI k i ∧ gI k i ≤ 600 := by
  have hfew := h.few
  rw [sh_unf, h.len, mkI_eq (by omega) (by omega), bnd_some, bnd_some, bnd_some]
  dsimp only
  rw [List.length_replicate, infs_eq (by omega), bnd_some, fin_d]
  obtain ⟨q0, hq0, hh0, hn0⟩ : ∃ q0 : Que, m_pqueue_New = some (some q0) ∧ q0.heap = [] ∧ q0.next = 0 := ⟨⟨[], 0⟩, rfl, rfl, rfl⟩
  rw [hq0, bnd_some, bnd_some]
  obtain ⟨s1, e1, e2, e3, e4, e5⟩ := rng_all (ρ := (List Int) × (List Int)) (f := fun (_ : Nat) (a152 : Int) (s149 : LQ) => shS a152 s149) (xs := src) (s₀ := ((List.replicate n Inf, List.replicate n Inf).1, (List.replicate n Inf, List.replicate n Inf).2, q0))
    (fun m s => ShI n (arcA rows) (fun j => (j : Int) ∈ src.take m) (fun _ _ => True) (fun _ => false) s ∧ (∀ j : Nat, ¬ (j : Int) ∈ src.take m → gI s.1 j = Inf) ∧ s.2.2.heap.length = m ∧ s.2.2.next = (m : Int))
    ⟨⟨by dsimp only; rw [gI_rep, hh0]; simpa using dj_start, by simp, by simp, by dsimp only; rw [hh0]; intro j x y _ hx; simp at hx⟩, fun j _ => by dsimp only; rw [gI_rep], by dsimp only; rw [hh0]; rfl, by dsimp only; rw [hn0]; rfl⟩
    (fun m x s hx hI => by
      obtain ⟨⟨hD, h1, h2, h3⟩, hinf, hl, hnx⟩ := hI
      obtain ⟨dl, kl, q⟩ := s
      dsimp only at *
      have hm := lt_of_get hx
      obtain ⟨x0, x1⟩ := hs x (List.mem_of_getElem? hx)
      obtain ⟨j, rfl⟩ : ∃ j : Nat, x = (j : Int) := ⟨x.toNat, by omega⟩
      have hnot : ¬ (j : Int) ∈ src.take m := fun hh => by
        obtain ⟨i, hi⟩ := List.getElem?_of_mem hh
        have hi1 := lt_of_get hi
        rw [List.length_take] at hi1
        replace hi1 : i < m := by omega
        have hi2 := take_get' hi
        obtain ⟨b1, c1⟩ := List.getElem?_eq_some_iff.1 hi2
        obtain ⟨b2, c2⟩ := List.getElem?_eq_some_iff.1 hx
        have := (List.pairwise_iff_getElem.1 hsn) i m b1 b2 hi1
        exact this (by rw [c1, c2])
      obtain ⟨r, p1, p2, p3, p4, p5⟩ := push_eq (q := q) h3 (by omega) (by omega) 0 0 (j : Int)
      unfold shS
      dsimp only
      rw [gI_at (by omega), bnd_some, gI_at (by omega), bnd_some, p1, bnd_some, Int.toNat_natCast]
      have hsrc := hD.source (by omega) (hinf j hnot) p4 rfl rfl rfl
      rw [← gI_set (by omega), ← gI_set (by omega)] at hsrc
      refine ⟨_, rfl, ⟨?_, by simp [h1], by simp [h2], p3⟩, ?_, ?_, ?_⟩
      · have e : (fun i : Nat => (i : Int) ∈ src.take (m + 1)) = fun i : Nat => (i : Int) ∈ src.take m ∨ i = j := by
          funext i
          rw [take_mem hx]
          apply propext
          constructor <;> rintro (a | a)
          · exact .inl a
          · exact .inr (by omega)
          · exact .inl a
          · exact .inr (by omega)
        rw [e]; exact hsrc
      · intro i hi
        rw [take_mem hx] at hi
        dsimp only
        rw [gI_set (by omega), upd_ne (fun e => hi (.inr (by omega)))]
        exact hinf i (fun hh => hi (.inl hh))
      · have := p4.length_eq; simp at this; dsimp only; omega
      · dsimp only; omega)
  rw [e1, bnd_some, fin_d]
  rw [List.take_length] at e2
  obtain ⟨s2, g1, g2, g3, g4, g5, g6⟩ := sh_loop h (s1.2.2.heap.length + nRem (arcA rows) (fun _ => false) n + 1) (s1.1, s1.2.1, s1.2.2) (fun _ => false) e2 (by dsimp only; omega) (by dsimp only; omega) (by dsimp only; omega) (by dsimp only; omega)
  rw [g1, bnd_some]
  exact ⟨s2.1, s2.2.1, rfl, g2, g3, g4, g5, g6⟩
end
end
section
set_option linter.unusedVariables false
set_option linter.unusedSimpArgs false
open Go Go.RowKit
/-- The cost of an edge. -/
def costE (t : Tsk) (e : Edj) : Int := match t.ops[e.label.toNat]? with | some o => o.cost | none => 0
/-- Edges between n states. -/
structure EdgesOk (t : Tsk) (n : Nat) (es : List Edj) : Prop where
  ok : ∀ e ∈ es, 0 ≤ e.src ∧ e.src < (n : Int) ∧ 0 ≤ e.dst ∧ e.dst < (n : Int) ∧ 0 ≤ e.label ∧ e.label < (t.ops.length : Int)
  few : es.length ≤ 48000
def fwdR (t : Tsk) (es : List Edj) (i : Nat) : List Arc := (es.filter fun e => decide (e.src = (i : Int))).map fun e => ⟨e.src, e.dst, costE t e⟩
def bwdR (t : Tsk) (es : List Edj) (i : Nat) : List Arc := (es.filter fun e => decide (e.dst = (i : Int))).map fun e => ⟨e.dst, e.src, costE t e⟩
/-- The edges out of a state, and into it. -/
def fwdA (t : Tsk) (es : List Edj) (i : Nat) : List (Nat × Int) := (es.filter fun e => decide (e.src = (i : Int))).map fun e => (e.dst.toNat, costE t e)
def bwdA (t : Tsk) (es : List Edj) (i : Nat) : List (Nat × Int) := (es.filter fun e => decide (e.dst = (i : Int))).map fun e => (e.src.toNat, costE t e)
theorem costE_ok {t : Tsk} (hok : TaskOk t) {n : Nat} {es : List Edj} (h : EdgesOk t n es) {e : Edj} (he : e ∈ es) : ∃ o, atI t.ops e.label = some o ∧ costE t e = o.cost ∧ 0 ≤ costE t e ∧ costE t e ≤ 1048576 := by
  obtain ⟨_, _, _, _, h1, h2⟩ := h.ok e he
  obtain ⟨j, hj⟩ : ∃ j : Nat, e.label = (j : Int) := ⟨e.label.toNat, by omega⟩
  obtain ⟨o, ho⟩ := some_of_lt (l := t.ops) (k := j) (by omega)
  have hc : costE t e = o.cost := by unfold costE; rw [hj, Int.toNat_natCast, ho]
  have := hok.2.2.2.2.2 j o ho
  exact ⟨o, by rw [hj, atI_eq, ho], hc, by rw [hc]; exact this.1, by rw [hc]; exact this.2.1⟩
/-- A list of lists by number. -/
structure RowsAre (n : Nat) (rows : List (List Arc)) (g : Nat → List Arc) : Prop where
  len : rows.length = n
  at_ : ∀ i, i < n → rows[i]? = some (g i)
theorem RowsAre.congr {n : Nat} {rows : List (List Arc)} {g g' : Nat → List Arc} (h : RowsAre n rows g) (he : ∀ i, i < n → g i = g' i) : RowsAre n rows g' := ⟨h.len, fun i hi => by rw [h.at_ i hi, he i hi]⟩
theorem RowsAre.rep (n : Nat) : RowsAre n (List.replicate n []) fun _ => [] := ⟨by simp, fun i hi => by rw [List.getElem?_replicate, if_pos hi]⟩
theorem RowsAre.set {n : Nat} {rows : List (List Arc)} {g : Nat → List Arc} (h : RowsAre n rows g) {j : Nat} (hj : j < n) (r : List Arc) : RowsAre n (rows.set j r) (upd g j r) := ⟨by simp [h.len], fun i hi => by
  by_cases e : i = j
  · subst e; rw [upd_self, List.getElem?_set_self (by rw [h.len]; exact hi)]
  · rw [upd_ne e, List.getElem?_set_ne (Ne.symm e)]; exact h.at_ i hi⟩
theorem RowsAre.nRem_le {n : Nat} {rows : List (List Arc)} {g : Nat → List Arc} (h : RowsAre n rows g) {f : Nat → Nat} (hf : ∀ i, i < n → (g i).length = f i) : nRem (arcA rows) (fun _ => false) n = sumF f n := by
  unfold nRem
  refine sumF_congr fun j hj => ?_
  rw [if_neg (by simp)]
  unfold arcA
  rw [h.at_ j hj]
  simp [hf j hj]
theorem sumF_filter {α : Type} (key : α → Int) (n : Nat) : ∀ (l : List α), sumF (fun i => (l.filter fun e => decide (key e = (i : Int))).length) n ≤ l.length
  | [] => by
    have : ∀ n, sumF (fun i => (([] : List α).filter fun e => decide (key e = (i : Int))).length) n = 0 := fun n => by
      induction n with
      | zero => rfl
      | succ n ih => simp [sumF] at ih ⊢; exact ih
    rw [this]; exact Nat.zero_le _
  | e :: l => by
    have h := sumF_filter key n l
    have key2 : ∀ m, sumF (fun i => ((e :: l).filter fun e => decide (key e = (i : Int))).length) m ≤ sumF (fun i => (l.filter fun e => decide (key e = (i : Int))).length) m + if 0 ≤ key e ∧ key e < (m : Int) then 1 else 0 := fun m => by
      induction m with
      | zero => simp [sumF]
      | succ m ih =>
        simp only [sumF]
        rw [List.filter_cons]
        by_cases hk : key e = (m : Int)
        · rw [if_pos (decide_eq_true hk), List.length_cons, if_pos (by omega)]
          rw [if_neg (by omega)] at ih
          omega
        · rw [if_neg (by simp [hk])]
          by_cases hl : 0 ≤ key e ∧ key e < (m : Int)
          · rw [if_pos (by omega)]; rw [if_pos hl] at ih; omega
          · rw [if_neg (by omega)]; rw [if_neg hl] at ih; omega
    have := key2 n
    rw [List.length_cons]
    split at this <;> omega
theorem RowsAre.ok {t : Tsk} (hok : TaskOk t) {n : Nat} (hn : n ≤ 600) {es : List Edj} (he : EdgesOk t n es) {rows : List (List Arc)} : (RowsAre n rows (fwdR t es) → RowsOk n rows ∧ nRem (arcA rows) (fun _ => false) n ≤ es.length ∧ ∀ i, i < n → arcA rows i = fwdA t es i) ∧
    (RowsAre n rows (bwdR t es) → RowsOk n rows ∧ nRem (arcA rows) (fun _ => false) n ≤ es.length ∧ ∀ i, i < n → arcA rows i = bwdA t es i) := by
  refine ⟨fun h => ⟨⟨h.len, hn, fun i r a hr ha => ?_⟩, ?_, fun i hi => ?_⟩, fun h => ⟨⟨h.len, hn, fun i r a hr ha => ?_⟩, ?_, fun i hi => ?_⟩⟩
  · have hi := lt_of_get hr
    rw [h.len] at hi
    rw [h.at_ i hi] at hr
    obtain rfl := Option.some.inj hr
    obtain ⟨e, hm, rfl⟩ := List.mem_map.1 ha
    have hmem := (List.mem_filter.1 hm).1
    obtain ⟨_, _, _, c1, c2⟩ := costE_ok hok he hmem
    have := he.ok e hmem
    dsimp only; omega
  · rw [h.nRem_le (f := fun i => (es.filter fun e => decide (e.src = (i : Int))).length) (fun i _ => by unfold fwdR; rw [List.length_map])]
    exact sumF_filter (fun e : Edj => e.src) n es
  · unfold arcA fwdA; rw [h.at_ i hi]; unfold fwdR; simp
  · have hi := lt_of_get hr
    rw [h.len] at hi
    rw [h.at_ i hi] at hr
    obtain rfl := Option.some.inj hr
    obtain ⟨e, hm, rfl⟩ := List.mem_map.1 ha
    have hmem := (List.mem_filter.1 hm).1
    obtain ⟨_, _, _, c1, c2⟩ := costE_ok hok he hmem
    have := he.ok e hmem
    dsimp only; omega
  · rw [h.nRem_le (f := fun i => (es.filter fun e => decide (e.dst = (i : Int))).length) (fun i _ => by unfold bwdR; rw [List.length_map])]
    exact sumF_filter (fun e : Edj => e.dst) n es
  · unfold arcA bwdA; rw [h.at_ i hi]; unfold bwdR; simp
theorem fwdA_out {t : Tsk} {n : Nat} {es : List Edj} (he : EdgesOk t n es) {i : Nat} (hi : ¬ i < n) : fwdA t es i = [] ∧ bwdA t es i = [] := by
  unfold fwdA bwdA
  rw [List.filter_eq_nil_iff.2 fun e hm => by have := he.ok e hm; simp; omega, List.filter_eq_nil_iff.2 fun e hm => by have := he.ok e hm; simp; omega]
  exact ⟨rfl, rfl⟩
theorem arcA_out {n : Nat} {rows : List (List Arc)} (h : rows.length = n) {i : Nat} (hi : ¬ i < n) : arcA rows i = [] := by
  unfold arcA; rw [List.getElem?_eq_none (by omega)]; rfl
/-- The numbers of the goal states. -/
def goalIx (gs : List Bool) : List Int := (((List.range gs.length).filter fun i => (gs[i]?).getD false).map fun i : Nat => (i : Int))
theorem goals_loop {ρ : Type} {gs : List Bool} (hl : gs.length ≤ 1000000) : rng (ρ := ρ) (fun (k446 : Nat) (a447 : Bool) (s444 : (List Int)) => if a447 = true then (bnd (appI 8 s444 [(k446 : Int)]) fun u469 => some (.next u469)) else (some (.next s444))) gs 0 ([] : List Int) = some (.done (goalIx gs)) := by
  refine rng_from (fun m => ((List.range m).filter fun i => (gs[i]?).getD false).map fun i : Nat => (i : Int)) (by simp) fun m b hb => ?_
  have hm := lt_of_get hb
  have hlen : (((List.range m).filter fun i => (gs[i]?).getD false).map fun i : Nat => (i : Int)).length ≤ m := by
    rw [List.length_map]
    exact Nat.le_trans (List.length_filter_le _ _) (by simp)
  rw [List.range_succ, List.filter_append]
  cases b with
  | true =>
    rw [if_pos rfl, appI_eq (by simp at hlen ⊢; omega) (by simp at hlen ⊢; omega), bnd_some]
    simp [hb]
  | false => rw [if_neg (by simp)]; simp [hb]
theorem mem_goalIx {gs : List Bool} {x : Int} : x ∈ goalIx gs ↔ ∃ i : Nat, x = (i : Int) ∧ gs[i]? = some true := by
  unfold goalIx
  rw [List.mem_map]
  constructor
  · rintro ⟨i, hi, rfl⟩
    obtain ⟨h1, h2⟩ := List.mem_filter.1 hi
    refine ⟨i, rfl, ?_⟩
    cases hg : gs[i]? with
    | none => rw [hg] at h2; simp at h2
    | some b => rw [hg] at h2; simp at h2; rw [h2]
  · rintro ⟨i, rfl, hi⟩
    exact ⟨i, List.mem_filter.2 ⟨List.mem_range.2 (lt_of_get hi), by rw [hi]; rfl⟩, rfl⟩
theorem goalIx_nodup (gs : List Bool) : (goalIx gs).Nodup := by
  unfold goalIx
  unfold List.Nodup
  rw [List.pairwise_map]
  exact ((List.nodup_range).sublist List.filter_sublist).imp fun h e => h (by omega)
theorem goalIx_len (gs : List Bool) : (goalIx gs).length ≤ gs.length := by
  unfold goalIx
  rw [List.length_map]
  exact Nat.le_trans (List.length_filter_le _ _) (by simp)
noncomputable def meaF (t : Tsk) : Edj → (List (List Arc)) × (List (List Arc)) → Option (Ctl ((List (List Arc)) × (List (List Arc))) Spa) := fun a180 s177 => bnd (atI t.ops a180.label) fun a258 => bnd (atI s177.1 a180.src) fun a279 => bnd (appI 24 a279 [(⟨a180.src, a180.dst, a258.cost⟩ : Arc)]) fun u304 => bnd (atI s177.1 a180.src) fun a315 => bnd (atI s177.2 a180.dst) fun a330 => bnd (appI 24 a330 [(⟨a180.dst, a180.src, a258.cost⟩ : Arc)]) fun u355 => bnd (atI s177.2 a180.dst) fun a366 => some (.next ((s177.1.set (a180.src : Int).toNat u304), (s177.2.set (a180.dst : Int).toNat u355)))
theorem mea_unf (x0 : Spa) : m_explore_Space_measure x0 = bnd (m_registry_Registry_Len x0.states) fun q45 => bnd (mkI 24 ([] : List Arc) q45) fun u55 => bnd (mkI 24 ([] : List Arc) q45) fun u57 => bnd (some (u55, u57) : Option ((List (List Arc)) × (List (List Arc)))) fun y59 => bnd (rng (ρ := Spa) (fun (_ : Nat) (a180 : Edj) (s177 : (List (List Arc)) × (List (List Arc))) => meaF x0.t a180 s177) x0.edges 0 (y59.1, y59.2)) fun res175 => fin res175 fun (s390 : (List (List Arc)) × (List (List Arc))) => bnd (rng (ρ := Spa) (fun (k446 : Nat) (a447 : Bool) (s444 : (List Int)) => if a447 = true then (bnd (appI 8 s444 [(k446 : Int)]) fun u469 => some (.next u469)) else (some (.next s444))) x0.goals 0 ([] : List Int)) fun res442 => fin res442 fun (s485 : (List Int)) => bnd (m_explore_shortest s390.1 ([0] : List Int)) fun q497 => bnd (m_explore_shortest s390.2 s485) fun q561 => some (⟨(⟨x0.t.vars, x0.t.init, x0.t.goal, x0.t.ops⟩ : Tsk), x0.states, x0.edges, x0.goals, q497.1, q561.1, q561.2⟩ : Spa) := rfl
theorem fwdR_step {t : Tsk} {es : List Edj} {m : Nat} {e : Edj} (he : es[m]? = some e) (i : Nat) : fwdR t (es.take (m + 1)) i = fwdR t (es.take m) i ++ if e.src = (i : Int) then [⟨e.src, e.dst, costE t e⟩] else [] := by
  unfold fwdR
  rw [List.take_add_one, he, List.filter_append, List.map_append]
  by_cases h : e.src = (i : Int)
  · rw [if_pos h]; simp [h]
  · rw [if_neg h]; simp [h]
theorem bwdR_step {t : Tsk} {es : List Edj} {m : Nat} {e : Edj} (he : es[m]? = some e) (i : Nat) : bwdR t (es.take (m + 1)) i = bwdR t (es.take m) i ++ if e.dst = (i : Int) then [⟨e.dst, e.src, costE t e⟩] else [] := by
  unfold bwdR
  rw [List.take_add_one, he, List.filter_append, List.map_append]
  by_cases h : e.dst = (i : Int)
  · rw [if_pos h]; simp [h]
  · rw [if_neg h]; simp [h]
theorem fwdR_len (t : Tsk) (es : List Edj) (i : Nat) : (fwdR t es i).length ≤ es.length := by unfold fwdR; rw [List.length_map]; exact List.length_filter_le _ _
theorem bwdR_len (t : Tsk) (es : List Edj) (i : Nat) : (bwdR t es i).length ≤ es.length := by unfold bwdR; rw [List.length_map]; exact List.length_filter_le _ _
/-- What the space knows. -/
structure SpaOk (t : Tsk) (n : Nat) (es : List Edj) (gs : List Bool) (x : Spa) : Prop where
  t_ : x.t = t
  ed : x.edges = es
  go : x.goals = gs
  cl : x.costs.length = n
  dl : x.distances.length = n
  sl : x.steps.length = n
  cost : ∃ k, LexP n (fwdA t es) (fun i => i = 0) (gI x.costs) k ∧ ∀ i, gI x.costs i ≠ Inf → i < n ∧ 0 ≤ gI x.costs i ∧ gI x.costs i ≤ 600 * 1048576
  dist : LexP n (bwdA t es) (fun i => gs[i]? = some true) (gI x.distances) (gI x.steps)
  inf : ∀ i, gI x.distances i = Inf → gI x.steps i = Inf
  bnd : ∀ i, gI x.distances i ≠ Inf → i < n ∧ 0 ≤ gI x.distances i ∧ gI x.distances i ≤ 600 * 1048576 ∧ 0 ≤ gI x.steps i ∧ gI x.steps i ≤ 600
theorem LexP.arcs {n : Nat} {A A' : Nat → List (Nat × Int)} {S S' : Nat → Prop} {d k : Nat → Int} (h : LexP n A S d k) (hA : A = A') (hS : S = S') : LexP n A' S' d k := by subst hA; subst hS; exact h
theorem measure_eq {t : Tsk} (hok : TaskOk t) {n : Nat} (hn : n ≤ 600) (hn0 : 0 < n) {x : Spa} (ht : x.t = t) (hlen : x.states.entries.length = n) (he : EdgesOk t n x.edges) (hg : x.goals.length = n) :
    ∃ r, m_explore_Space_measure x = some r ∧ r.states = x.states ∧ SpaOk t n x.edges x.goals r := by
  rw [mea_unf, show m_registry_Registry_Len x.states = some (x.states.entries.length : Int) from rfl, bnd_some, hlen, mkI_eq (by omega) (by omega), bnd_some, bnd_some, bnd_some, ht]
  dsimp only
  obtain ⟨s, e1, e2, e3⟩ := rng_all (ρ := Spa) (f := fun (_ : Nat) (a180 : Edj) (s177 : (List (List Arc)) × (List (List Arc))) => meaF t a180 s177) (xs := x.edges) (s₀ := (List.replicate n [], List.replicate n []))
    (fun m s => RowsAre n s.1 (fwdR t (x.edges.take m)) ∧ RowsAre n s.2 (bwdR t (x.edges.take m))) ⟨(RowsAre.rep n).congr fun i _ => by simp [fwdR], (RowsAre.rep n).congr fun i _ => by simp [bwdR]⟩
    (fun m e s hm hI => by
      obtain ⟨hF, hB⟩ := hI
      have hmem := List.mem_of_getElem? hm
      obtain ⟨s1, s2, d1, d2, _, _⟩ := he.ok e hmem
      obtain ⟨o, o1, o2, _⟩ := costE_ok hok he hmem
      obtain ⟨i, hi⟩ : ∃ i : Nat, e.src = (i : Int) := ⟨e.src.toNat, by omega⟩
      obtain ⟨j, hj⟩ : ∃ j : Nat, e.dst = (j : Int) := ⟨e.dst.toNat, by omega⟩
      have hml := lt_of_get hm
      have hfew := he.few
      have fl := fwdR_len t (x.edges.take m) i
      have bl := bwdR_len t (x.edges.take m) j
      rw [List.length_take] at fl bl
      unfold meaF
      rw [o1, bnd_some, hi, hj, atI_eq, hF.at_ i (by omega), bnd_some, appI_eq (by rw [List.length_singleton]; omega) (by rw [List.length_singleton]; omega), bnd_some, bnd_some, atI_eq, hB.at_ j (by omega), bnd_some, appI_eq (by rw [List.length_singleton]; omega) (by rw [List.length_singleton]; omega), bnd_some, bnd_some, Int.toNat_natCast, Int.toNat_natCast]
      refine ⟨_, rfl, (hF.set (by omega) _).congr fun u _ => ?_, (hB.set (by omega) _).congr fun u _ => ?_⟩
      · rw [fwdR_step hm]
        by_cases hu : u = i
        · subst hu; rw [upd_self, if_pos hi, o2, hi, hj]
        · rw [upd_ne hu, if_neg (by omega), List.append_nil]
      · rw [bwdR_step hm]
        by_cases hu : u = j
        · subst hu; rw [upd_self, if_pos hj, o2, hi, hj]
        · rw [upd_ne hu, if_neg (by omega), List.append_nil])
  rw [List.take_length] at e2 e3
  rw [e1, bnd_some, fin_d, goals_loop (by omega), bnd_some, fin_d]
  obtain ⟨f1, f2, f3⟩ := (RowsAre.ok hok hn he).1 e2
  obtain ⟨b1, b2, b3⟩ := (RowsAre.ok hok hn he).2 e3
  have hfew := he.few
  obtain ⟨c, k, c1, c2, _, c3, _, c4⟩ := shortest_eq f1 (by omega) (src := [0]) (fun x hx => by simp at hx; omega) (by simp) (by simp)
  obtain ⟨d, l, d1, d2, d3, d4, d5, d6⟩ := shortest_eq b1 (by omega) (src := goalIx x.goals) (fun y hy => by
    obtain ⟨i, rfl, hi⟩ := mem_goalIx.1 hy
    have := lt_of_get hi
    omega) (goalIx_nodup _) (by have := goalIx_len x.goals; omega)
  rw [c1, bnd_some, d1, bnd_some]
  have hfA : arcA s.1 = fwdA t x.edges := funext fun i => by
    by_cases hi : i < n
    · exact f3 i hi
    · rw [arcA_out e2.len hi, (fwdA_out he hi).1]
  have hbA : arcA s.2 = bwdA t x.edges := funext fun i => by
    by_cases hi : i < n
    · exact b3 i hi
    · rw [arcA_out e3.len hi, (fwdA_out he hi).2]
  refine ⟨_, rfl, rfl, rfl, rfl, rfl, c2, d2, d3, ⟨gI k, c3.arcs hfA (funext fun i => by simp), fun i hi => ?_⟩, d4.arcs hbA (funext fun i => propext ⟨fun hh => ?_, fun hh => mem_goalIx.2 ⟨i, rfl, hh⟩⟩), d5, d6⟩
  · have := c4 i hi; exact ⟨this.1, this.2.1, this.2.2.1⟩
  · obtain ⟨j, hj, hg⟩ := mem_goalIx.1 hh
    obtain rfl : i = j := by omega
    exact hg
end
section
open Go Go.RowKit
theorem ex_next {σ ρ : Type} {x : Option (Ctl σ ρ)} {I : σ → Prop} (h : ∃ r, x = some r ∧ ∃ s', r = Ctl.next s' ∧ I s') : ∃ s', x = some (.next s') ∧ I s' := by
  obtain ⟨_, h1, s', rfl, h2⟩ := h
  exact ⟨s', h1, h2⟩
def FldOk (W : Nat) (f : PFd) (n : Int) : Prop := ∃ k b w : Nat, f = ⟨k, b, w, n⟩ ∧ k < W ∧ b + w ≤ 64 ∧ w ≤ 6 ∧ n ≤ 2 ^ w
/-- Fields that lie behind one another, one for each variable. -/
def PkOk (vars : List Int) (p : Pkr) : Prop := p.fields.length = vars.length ∧ (∃ W : Nat, p.words = (W : Int) ∧ 1 ≤ W ∧ W ≤ vars.length + 1 ∧ ∀ (i : Nat) f n, p.fields[i]? = some f → vars[i]? = some n → FldOk W f n) ∧
  ∀ (i j : Nat) f g, i < j → p.fields[i]? = some f → p.fields[j]? = some g → f.word < g.word ∨ (f.word = g.word ∧ f.bit + f.width ≤ g.bit)
theorem shl_one : ∀ {w : Nat}, w ≤ 6 → shlI 1 (w : Int) = some ((2 ^ w : Nat) : Int) := by
  intro w h
  have : w = 0 ∨ w = 1 ∨ w = 2 ∨ w = 3 ∨ w = 4 ∨ w = 5 ∨ w = 6 := by omega
  rcases this with rfl | rfl | rfl | rfl | rfl | rfl | rfl <;> rfl
theorem pow_le6 {w : Nat} {n : Int} (hw : w ≤ 6) (h : ((2 ^ w : Nat) : Int) < n) (hn : n ≤ 64) : w < 6 := by
  rcases Nat.lt_or_ge w 6 with hh | hh
  · exact hh
  · obtain rfl : w = 6 := by omega
    simp at h; omega
/-- All fields lie before a place. -/
def PkI (vars : List Int) (B W : Nat) (fs : List PFd) : Prop := (∀ (i : Nat) f n, fs[i]? = some f → vars[i]? = some n → FldOk W f n) ∧
  (∀ (i j : Nat) f g, i < j → fs[i]? = some f → fs[j]? = some g → f.word < g.word ∨ (f.word = g.word ∧ f.bit + f.width ≤ g.bit)) ∧ ∀ (i : Nat) f, fs[i]? = some f → f.word + 1 < (W : Int) ∨ (f.word + 1 = (W : Int) ∧ f.bit + f.width ≤ (B : Int))
theorem PkI.over {vars : List Int} {B W : Nat} {fs : List PFd} (h : PkI vars B W fs) : PkI vars 0 (W + 1) fs :=
  ⟨fun i f n hf hn => by obtain ⟨k, b, w, e, e1, e2⟩ := h.1 i f n hf hn; exact ⟨k, b, w, e, by omega, e2⟩, h.2.1, fun i f hf => by have := h.2.2 i f hf; omega⟩
theorem app_get {α : Type} {l : List α} {x y : α} {i : Nat} (h : (l ++ [x])[i]? = some y) : l[i]? = some y ∨ (i = l.length ∧ y = x) := by
  rcases Nat.lt_trichotomy i l.length with hi | hi | hi
  · rw [List.getElem?_append_left hi] at h; exact .inl h
  · subst hi; simp at h; exact .inr ⟨rfl, h.symm⟩
  · rw [List.getElem?_append_right (by omega)] at h
    rw [List.getElem?_eq_none (by simp; omega)] at h
    cases h
theorem PkI.add {vars : List Int} {B W w : Nat} {fs : List PFd} {n : Int} (h : PkI vars B W fs) (hW : 1 ≤ W) (hn : vars[fs.length]? = some n) (hB : B + w ≤ 64) (hw : w ≤ 6) (hnw : n ≤ 2 ^ w) : PkI vars (B + w) W (fs ++ [⟨(W : Int) - 1, (B : Int), (w : Int), n⟩]) := by
  refine ⟨fun i f n' hf hn' => ?_, fun i j f g hij hf hg => ?_, fun i f hf => ?_⟩
  · rcases app_get hf with hh | ⟨rfl, rfl⟩
    · exact h.1 i f n' hh hn'
    · rw [hn] at hn'
      obtain rfl := Option.some.inj hn'
      exact ⟨W - 1, B, w, by congr 1; omega, by omega, hB, hw, hnw⟩
  · rcases app_get hg with hh | ⟨rfl, rfl⟩
    · rcases app_get hf with hk | ⟨rfl, rfl⟩
      · exact h.2.1 i j f g hij hk hh
      · have := lt_of_get hh; omega
    · rcases app_get hf with hk | ⟨rfl, rfl⟩
      · have := h.2.2 i f hk
        dsimp only
        omega
      · omega
  · rcases app_get hf with hh | ⟨rfl, rfl⟩
    · have := h.2.2 i f hh; omega
    · dsimp only; omega
/-- The packer of proper variables. -/
theorem packNew_eq {vars : List Int} (hl : vars.length ≤ 64) (hv : ∀ (i : Nat) n, vars[i]? = some n → 1 ≤ n ∧ n ≤ 64) : ∃ r, m_pack_New vars = some r ∧ ∃ p, r = (some p, ⟨0⟩) ∧ PkOk vars p := by
  unfold m_pack_New
  rw [if_neg (by omega)]
  refine rng_ex (fun m s => ∃ B W : Nat, s.1 = (B : Int) ∧ B ≤ 64 ∧ s.2.words = (W : Int) ∧ 1 ≤ W ∧ W ≤ m + 1 ∧ s.2.fields.length = m ∧ PkI vars B W s.2.fields) (fun _ => False)
    ⟨0, 1, rfl, by omega, rfl, by omega, by omega, rfl, fun i f n h => by simp at h, fun i j f g _ h => by simp at h, fun i f h => by simp at h⟩ ?_ ?_ (fun q hq => hq.elim)
  · rintro m n ⟨s1, s2⟩ hm ⟨B, W, hs1, hB, hW, hW1, hWm, hlen, hI⟩
    dsimp only at hs1 hW hlen hI
    subst hs1
    obtain ⟨hn1, hn2⟩ := hv m n hm
    have hml := lt_of_get hm
    refine .inl (ex_next ?_)
    rw [if_neg (by omega), if_neg (by omega), bnd_some, if_f]
    refine lop_ex (fun c => ∃ w : Nat, c = (w : Int) ∧ w ≤ 6) (fun c => ∃ w : Nat, c = (w : Int) ∧ w ≤ 6 ∧ n ≤ 2 ^ w) (fun _ => False) (fun c => 7 - c.toNat) ⟨0, rfl, by omega⟩ ?_ ?_ (fun q hq => hq.elim)
    · rintro c ⟨w, rfl, hw⟩
      rw [shl_one hw, bnd_some]
      by_cases hlt : ((2 ^ w : Nat) : Int) < n
      · have := pow_le6 hw hlt hn2
        rw [if_pos hlt, chkI_eq (by unfold inI64; omega), bnd_some]
        exact .inl ⟨_, rfl, ⟨w + 1, by omega, by omega⟩, by omega⟩
      · rw [if_neg hlt]
        refine .inr (.inl ⟨_, rfl, w, rfl, hw, ?_⟩)
        have : ((2 ^ w : Nat) : Int) = (2 : Int) ^ w := by simp
        omega
    · rintro c ⟨w, rfl, hw, hnw⟩
      rw [fin_d, chkI_eq (by unfold inI64; omega), bnd_some]
      have fin' : ∀ (B' W' : Nat) (q : Pkr), B' + w ≤ 64 → 1 ≤ W' → W' ≤ m + 2 → q.words = (W' : Int) → q.fields = s2.fields → PkI vars B' W' s2.fields → ∃ r, (bnd (chkI (q.words - 1)) fun n133 => bnd (appI 32 q.fields [(⟨n133, (B' : Int), (w : Int), n⟩ : PFd)]) fun u142 => bnd (chkI ((B' : Int) + (w : Int))) fun n155 => some (Ctl.next (ρ := (Option Pkr) × Err) (n155, (⟨u142, q.words⟩ : Pkr)))) = some r ∧ ∃ s', r = Ctl.next s' ∧ ∃ B W : Nat, s'.1 = (B : Int) ∧ B ≤ 64 ∧ s'.2.words = (W : Int) ∧ 1 ≤ W ∧ W ≤ m + 1 + 1 ∧ s'.2.fields.length = m + 1 ∧ PkI vars B W s'.2.fields := by
        intro B' W' q hB' hW' hWm' hq1 hq2 hI'
        rw [hq1, hq2, chkI_eq (by unfold inI64; omega), bnd_some, appI_eq (by simp; omega) (by simp; omega), bnd_some, chkI_eq (by unfold inI64; omega), bnd_some]
        exact ⟨_, rfl, _, rfl, B' + w, W', by simp, hB', rfl, hW', by omega, by simp [hlen], hI'.add hW' (by rw [hlen]; exact hm) hB' hw hnw⟩
      by_cases hover : 64 < (B : Int) + (w : Int)
      · rw [if_pos hover]
        dsimp only
        rw [hW, chkI_eq (by unfold inI64; omega), bnd_some, bnd_some]
        exact fin' 0 (W + 1) ⟨s2.fields, (W : Int) + 1⟩ (by omega) (by omega) (by omega) (by simp) rfl hI.over
      · rw [if_neg hover, bnd_some]
        exact fin' B W s2 (by omega) hW1 (by omega) hW rfl hI
  · rintro ⟨s1, s2⟩ ⟨B, W, hs1, hB, hW, hW1, hWm, hlen, hI⟩
    exact ⟨_, rfl, s2, rfl, hlen, ⟨W, hW, hW1, hWm, hI.1⟩, hI.2.1⟩
/-- A bit that a field's value sets. -/
def InF (f : PFd) (x : Int) (k c : Nat) : Prop := f.word = (k : Int) ∧ f.bit ≤ (c : Int) ∧ (c : Int) < f.bit + f.width ∧ x.toNat.testBit (c - f.bit.toNat) = true
def Bits (fs : List PFd) (s : List Int) (p : Nat → Prop) (ws : List U64) : Prop := ∀ (k c : Nat) a, ws[k]? = some a → c < 64 → (a.getLsbD c = true ↔ ∃ (i : Nat) (f : PFd) (x : Int), p i ∧ fs[i]? = some f ∧ s[i]? = some x ∧ InF f x k c)
theorem ones {w : Nat} (h : w ≤ 6) : ((1 : U64) <<< w) - (1 : U64) = BitVec.ofNat 64 (2 ^ w - 1) := by
  have : w = 0 ∨ w = 1 ∨ w = 2 ∨ w = 3 ∨ w = 4 ∨ w = 5 ∨ w = 6 := by omega
  rcases this with rfl | rfl | rfl | rfl | rfl | rfl | rfl <;> rfl
theorem mask_bit {w b c : Nat} (hw : w ≤ 6) (hc : c < 64) : ((((1 : U64) <<< w) - (1 : U64)) <<< b).getLsbD c = (decide (b ≤ c) && decide (c < b + w)) := by
  rw [ones hw, BitVec.getLsbD_shiftLeft, BitVec.getLsbD_ofNat, Nat.testBit_two_pow_sub_one]
  by_cases h1 : b ≤ c <;> by_cases h2 : c < b + w <;> simp [h1, h2, hc] <;> omega
theorem val_bit {x : Int} {w j : Nat} (h0 : 0 ≤ x) (h1 : x < 2 ^ w) (ht : x.toNat.testBit j = true) : j < w := by
  rcases Nat.lt_or_ge j w with h | h
  · exact h
  · have h2 : x.toNat < 2 ^ w := by
      have : ((2 ^ w : Nat) : Int) = (2 : Int) ^ w := by simp
      omega
    rw [Nat.testBit_lt_two_pow (Nat.lt_of_lt_of_le h2 (Nat.pow_le_pow_right (by omega) h))] at ht
    cases ht
theorem PkOk.field {vars : List Int} {p : Pkr} (h : PkOk vars p) {s : List Int} (hs : StateOk vars s) {i : Nat} {f : PFd} (hf : p.fields[i]? = some f) : ∃ (k b w : Nat) (n x : Int), f = ⟨k, b, w, n⟩ ∧ (k : Int) < p.words ∧ b + w ≤ 64 ∧ w ≤ 6 ∧ s[i]? = some x ∧ 0 ≤ x ∧ x < n ∧ x < 2 ^ w := by
  obtain ⟨h1, ⟨W, hW, _, _, h2⟩, h3⟩ := h
  have hi := lt_of_get hf
  obtain ⟨n, hn⟩ := some_of_lt (l := vars) (k := i) (by omega)
  obtain ⟨x, hx⟩ := some_of_lt (l := s) (k := i) (by have := hs.1; omega)
  obtain ⟨k, b, w, e, e1, e2, e3, e4⟩ := h2 i f n hf hn
  have := hs.2 i x n hx hn
  exact ⟨k, b, w, n, x, e, by omega, e2, e3, hx, this.1, this.2, by omega⟩
theorem PkOk.same {vars : List Int} {p : Pkr} (h : PkOk vars p) {i j : Nat} {f g : PFd} {k c : Nat} (hf : p.fields[i]? = some f) (hg : p.fields[j]? = some g) (h1 : f.word = (k : Int) ∧ f.bit ≤ (c : Int) ∧ (c : Int) < f.bit + f.width) (h2 : g.word = (k : Int) ∧ g.bit ≤ (c : Int) ∧ (c : Int) < g.bit + g.width) : i = j := by
  rcases Nat.lt_trichotomy i j with hh | hh | hh
  · have := h.2.2 i j f g hh hf hg; omega
  · exact hh
  · have := h.2.2 j i g f hh hg hf; omega
theorem pack_eq {vars : List Int} {p : Pkr} (h : PkOk vars p) (hl : vars.length ≤ 64) {s : List Int} (hs : StateOk vars s) : ∃ r, m_pack_Packer_Pack p s = some r ∧ r.2 = ⟨0⟩ ∧ (r.1.length : Int) = p.words ∧ Bits p.fields s (fun _ => True) r.1 := by
  obtain ⟨W, hW, hW1, hW2, _⟩ := h.2.1
  unfold m_pack_Packer_Pack
  rw [if_neg (by have := h.1; have := hs.1; omega), hW, mkI_eq (by omega) (by omega), bnd_some]
  refine rng_ex (fun m ws => (ws.length : Int) = (W : Int) ∧ Bits p.fields s (fun i => i < m) ws) (fun _ => False) ⟨by simp, ?_⟩ ?_ ?_ (fun q hq => hq.elim)
  · intro k c a ha _
    have := List.eq_of_mem_replicate (List.mem_of_getElem? ha)
    subst this
    constructor
    · intro hh; simp at hh
    · rintro ⟨i, _, _, hi, _⟩; omega
  · rintro m f ws hm ⟨hwl, hb⟩
    refine .inl (ex_next ?_)
    obtain ⟨k, b, w, n, x, rfl, hk, hbw, hw, hx, hx0, hxn, hxw⟩ := h.field hs hm
    dsimp only
    obtain ⟨a, ha⟩ := some_of_lt (l := ws) (k := k) (by omega)
    rw [hx, bnd_some, if_neg (by omega), bnd_some, if_neg (by omega), bnd_some, if_f, atI_eq, ha, bnd_some, bnd_some]
    unfold shlU
    rw [if_pos (by omega), bnd_some, bnd_some]
    refine ⟨_, rfl, _, rfl, by simpa using hwl, ?_⟩
    simp only [Int.toNat_natCast]
    have hxb : ∀ c : Nat, c < 64 → ((a ||| (BitVec.ofInt 64 x <<< b)).getLsbD c = true ↔ a.getLsbD c = true ∨ (b ≤ c ∧ x.toNat.testBit (c - b) = true)) := by
      intro c hc
      have hofi : BitVec.ofInt 64 x = BitVec.ofNat 64 x.toNat := by
        rw [← BitVec.ofInt_natCast, Int.toNat_of_nonneg hx0]
      rw [BitVec.getLsbD_or, BitVec.getLsbD_shiftLeft, hofi, BitVec.getLsbD_ofNat]
      by_cases h1 : b ≤ c
      · have : c - b < 64 := by omega
        simp [hc, h1, this, Nat.not_lt.2 h1]
      · simp [hc, h1, Nat.lt_of_not_le h1]
    intro k' c a' ha' hc
    by_cases e : k = k'
    · subst e
      rw [List.getElem?_set_self (lt_of_get ha)] at ha'
      obtain rfl := Option.some.inj ha'
      rw [hxb c hc, hb k c a ha hc]
      constructor
      · rintro (⟨i, f, y, hi, hr⟩ | ⟨h1, h2⟩)
        · exact ⟨i, f, y, by omega, hr⟩
        · have := val_bit hx0 hxw h2
          exact ⟨m, _, x, by omega, hm, hx, rfl, by dsimp only; omega, by dsimp only; omega, by simpa using h2⟩
      · rintro ⟨i, f, y, hi, hf, hy, hin⟩
        by_cases he : i = m
        · subst he
          rw [hm] at hf
          obtain rfl := Option.some.inj hf
          rw [hx] at hy
          obtain rfl := Option.some.inj hy
          obtain ⟨_, i2, i3, i4⟩ := hin
          dsimp only at i2 i3 i4
          exact .inr ⟨by omega, by simpa using i4⟩
        · exact .inl ⟨i, f, y, by omega, hf, hy, hin⟩
    · rw [List.getElem?_set_ne e] at ha'
      rw [hb k' c a' ha' hc]
      constructor
      · rintro ⟨i, f, y, hi, hr⟩; exact ⟨i, f, y, by omega, hr⟩
      · rintro ⟨i, f, y, hi, hf, hy, hin⟩
        by_cases he : i = m
        · subst he
          rw [hm] at hf
          obtain rfl := Option.some.inj hf
          have := hin.1
          dsimp only at this
          omega
        · exact ⟨i, f, y, by omega, hf, hy, hin⟩
  · rintro ws ⟨hwl, hb⟩
    refine ⟨_, rfl, rfl, hwl, fun k c a ha hc => ?_⟩
    rw [hb k c a ha hc]
    constructor
    · rintro ⟨i, f, x, _, hr⟩; exact ⟨i, f, x, trivial, hr⟩
    · rintro ⟨i, f, x, _, hf, hr⟩; exact ⟨i, f, x, lt_of_get hf, hf, hr⟩
theorem mask_eq {k b w : Nat} {n : Int} : m_pack_field_mask ⟨k, b, w, n⟩ = some ((((1 : U64) <<< w) - (1 : U64)) <<< b) := by
  unfold m_pack_field_mask shlU
  dsimp only
  rw [if_pos (by omega), bnd_some, if_pos (by omega), bnd_some]
  simp
theorem get_eq {vars : List Int} {p : Pkr} (h : PkOk vars p) {s : List Int} (hs : StateOk vars s) {ws : List U64} (hwl : (ws.length : Int) = p.words) (hb : Bits p.fields s (fun _ => True) ws) {i : Nat} {f : PFd} {x : Int} (hf : p.fields[i]? = some f) (hx : s[i]? = some x) : m_pack_field_get f ws = some x := by
  obtain ⟨k, b, w, n, x', rfl, hk, hbw, hw, hx', hx0, hxn, hxw⟩ := h.field hs hf
  rw [hx] at hx'
  obtain rfl := Option.some.inj hx'
  obtain ⟨a, ha⟩ := some_of_lt (l := ws) (k := k) (by omega)
  unfold m_pack_field_get
  dsimp only
  rw [atI_eq, ha, bnd_some, mask_eq, bnd_some]
  unfold shrU
  rw [if_pos (by omega), bnd_some]
  have hval : (a &&& ((((1 : U64) <<< w) - (1 : U64)) <<< b)) >>> b = BitVec.ofNat 64 x.toNat := by
    apply BitVec.eq_of_getLsbD_eq
    intro j hj
    rw [BitVec.getLsbD_ushiftRight, BitVec.getLsbD_and, BitVec.getLsbD_ofNat]
    by_cases hjb : b + j < 64
    · rw [mask_bit hw hjb]
      by_cases hjw : j < w
      · have h1 := hb k (b + j) a ha hjb
        have h2 : a.getLsbD (b + j) = x.toNat.testBit j := by
          cases ht : x.toNat.testBit j with
          | true => exact h1.2 ⟨i, _, x, trivial, hf, hx, rfl, by dsimp only; omega, by dsimp only; omega, by simpa using ht⟩
          | false =>
            cases hg : a.getLsbD (b + j) with
            | false => rfl
            | true =>
              obtain ⟨i', f', x', _, hf', hx', hin⟩ := h1.1 hg
              have hii := h.same (k := k) (c := b + j) hf hf' ⟨rfl, by dsimp only; omega, by dsimp only; omega⟩ ⟨hin.1, hin.2.1, hin.2.2.1⟩
              subst hii
              rw [hf] at hf'
              obtain rfl := Option.some.inj hf'
              rw [hx] at hx'
              obtain rfl := Option.some.inj hx'
              have := hin.2.2.2
              simp at this
              rw [this] at ht
              cases ht
        rw [h2]
        simp [hj, hjw]
      · have hf0 : x.toNat.testBit j = false := by
          cases ht : x.toNat.testBit j with
          | false => rfl
          | true => exact absurd (val_bit hx0 hxw ht) hjw
        simp [hf0, hjw]
    · have hf0 : x.toNat.testBit j = false := by
        cases ht : x.toNat.testBit j with
        | false => rfl
        | true => have := val_bit hx0 hxw ht; omega
      rw [BitVec.getLsbD_of_ge _ _ (by omega)]
      simp [hf0]
  have h64 : (2 : Int) ^ w ≤ 64 := by
    have : w = 0 ∨ w = 1 ∨ w = 2 ∨ w = 3 ∨ w = 4 ∨ w = 5 ∨ w = 6 := by omega
    rcases this with rfl | rfl | rfl | rfl | rfl | rfl | rfl <;> decide
  simp only [Int.toNat_natCast]
  rw [hval]
  congr 1
  rw [BitVec.toInt_eq_toNat_of_lt (by rw [BitVec.toNat_ofNat]; omega), BitVec.toNat_ofNat]
  omega
theorem unpack_eq {vars : List Int} {p : Pkr} (h : PkOk vars p) (hl : vars.length ≤ 64) {s : List Int} (hs : StateOk vars s) {ws : List U64} (hwl : (ws.length : Int) = p.words) (hb : Bits p.fields s (fun _ => True) ws) : m_pack_Packer_Unpack p ws = some (s, ⟨0⟩) := by
  obtain ⟨W, hW, hW1, hW2, _⟩ := h.2.1
  have hsl := hs.1
  have hfl := h.1
  unfold m_pack_Packer_Unpack
  rw [if_neg (by omega), mkI_eq (by omega) (by omega), bnd_some]
  unfold m_slices_Clone_Luint64_uint64
  rw [if_pos (by omega), bnd_some]
  refine rng_bnd (fun m st => st.1.length = s.length ∧ (∀ (i : Nat) x, i < m → s[i]? = some x → st.1[i]? = some x) ∧ st.2.length = ws.length ∧ Bits p.fields s (fun i => m ≤ i) st.2) ⟨by simp; omega, fun i x hi => by omega, rfl, ?_⟩ ?_ ?_
  · intro k c a ha hc
    rw [hb k c a ha hc]
    constructor
    · rintro ⟨i, f, x, _, hr⟩; exact ⟨i, f, x, by omega, hr⟩
    · rintro ⟨i, f, x, _, hr⟩; exact ⟨i, f, x, trivial, hr⟩
  · rintro m f ⟨out, rest⟩ hm ⟨i1, i2, i3, i4⟩
    dsimp only at i1 i2 i3 i4 ⊢
    obtain ⟨k, b, w, n, x, rfl, hk, hbw, hw, hx, hx0, hxn, hxw⟩ := h.field hs hm
    have hml := lt_of_get hx
    obtain ⟨u, hu⟩ := some_of_lt (l := out) (k := m) (by omega)
    obtain ⟨a, ha⟩ := some_of_lt (l := rest) (k := k) (by omega)
    rw [get_eq h hs hwl hb hm hx, bnd_some, hu, bnd_some, List.getElem?_set_self (by omega), bnd_some]
    dsimp only
    rw [if_neg (by omega), atI_eq, ha, bnd_some, mask_eq, bnd_some, bnd_some]
    refine ⟨_, rfl, by simpa using i1, fun i y hi hy => ?_, by simpa using i3, ?_⟩
    · by_cases e : i = m
      · subst e
        rw [hx] at hy
        obtain rfl := Option.some.inj hy
        exact List.getElem?_set_self (by omega)
      · show (out.set m x)[i]? = _
        rw [List.getElem?_set_ne (by omega)]
        exact i2 i y (by omega) hy
    · show Bits p.fields s _ (rest.set ((k : Int)).toNat _)
      simp only [Int.toNat_natCast]
      intro k' c a' ha' hc
      by_cases e : k = k'
      · subst e
        rw [List.getElem?_set_self (lt_of_get ha)] at ha'
        obtain rfl := Option.some.inj ha'
        rw [BitVec.getLsbD_and, BitVec.getLsbD_not, mask_bit hw hc]
        have h1 := i4 k c a ha hc
        constructor
        · intro hh
          simp only [Bool.and_eq_true, Bool.not_eq_true', decide_eq_true_eq] at hh
          obtain ⟨i, f, y, hi, hf, hy, hin⟩ := h1.1 hh.1
          refine ⟨i, f, y, ?_, hf, hy, hin⟩
          rcases Nat.lt_or_ge m i with hlt | hge
          · exact hlt
          · exfalso
            obtain rfl : i = m := by omega
            rw [hm] at hf
            obtain rfl := Option.some.inj hf
            obtain ⟨_, j2, j3, _⟩ := hin
            dsimp only at j2 j3
            have h2 := hh.2.2
            rw [show decide (b ≤ c) = true from by simp; omega, show decide (c < b + w) = true from by simp; omega] at h2
            cases h2
        · rintro ⟨i, f, y, hi, hf, hy, hin⟩
          have hg := h1.2 ⟨i, f, y, by omega, hf, hy, hin⟩
          have hno : ¬ (b ≤ c ∧ c < b + w) := fun hh => by
            have := h.same (k := k) (c := c) hm hf ⟨rfl, by dsimp only; omega, by dsimp only; omega⟩ ⟨hin.1, hin.2.1, hin.2.2.1⟩
            omega
          rw [hg]
          by_cases q1 : b ≤ c
          · have q2 : ¬ c < b + w := fun hh => hno ⟨q1, hh⟩
            simp [hc, q1, q2]
          · simp [hc, q1]
      · rw [List.getElem?_set_ne e] at ha'
        rw [i4 k' c a' ha' hc]
        constructor
        · rintro ⟨i, f, y, hi, hf, hy, hin⟩
          refine ⟨i, f, y, ?_, hf, hy, hin⟩
          rcases Nat.lt_or_ge m i with hlt | hge
          · exact hlt
          · exfalso
            obtain rfl : i = m := by omega
            rw [hm] at hf
            obtain rfl := Option.some.inj hf
            have := hin.1
            dsimp only at this
            omega
        · rintro ⟨i, f, y, hi, hr⟩; exact ⟨i, f, y, by omega, hr⟩
  · rintro ⟨out, rest⟩ ⟨i1, i2, i3, i4⟩
    dsimp only at i1 i2 i3 i4
    rw [fin_d]
    dsimp only
    have hout : out = s := by
      apply List.ext_getElem?
      intro i
      rcases Nat.lt_or_ge i s.length with hi | hi
      · obtain ⟨x, hx⟩ := some_of_lt (l := s) (k := i) hi
        rw [hx]; exact i2 i x (by omega) hx
      · rw [List.getElem?_eq_none hi, List.getElem?_eq_none (by omega)]
    subst hout
    refine rng_bnd (fun _ _ => True) trivial (fun k a _ hk _ => ⟨(), ?_, trivial⟩) (fun _ _ => rfl)
    obtain ⟨a', ha'⟩ := some_of_lt (l := rest) (k := k) (by have := lt_of_get hk; omega)
    rw [ha', bnd_some]
    have hz : a' = 0 := by
      apply BitVec.eq_of_getLsbD_eq
      intro c hc
      cases hg : a'.getLsbD c with
      | false => simp
      | true =>
        obtain ⟨i, f, x, hi, hf, _⟩ := (i4 k c a' ha' hc).1 hg
        have := lt_of_get hf
        omega
    subst hz
    rw [if_neg (by simp)]
theorem pack_inj {vars : List Int} {p : Pkr} (h : PkOk vars p) (hl : vars.length ≤ 64) {s s' : List Int} (hs : StateOk vars s) (hs' : StateOk vars s') {ws : List U64} (h1 : m_pack_Packer_Pack p s = some (ws, ⟨0⟩)) (h2 : m_pack_Packer_Pack p s' = some (ws, ⟨0⟩)) : s = s' := by
  obtain ⟨r, r1, r2, r3, r4⟩ := pack_eq h hl hs
  obtain ⟨q, q1, q2, q3, q4⟩ := pack_eq h hl hs'
  rw [h1] at r1
  rw [h2] at q1
  obtain rfl := Option.some.inj r1
  obtain rfl := Option.some.inj q1
  have e1 := unpack_eq h hl hs r3 r4
  have e2 := unpack_eq h hl hs' q3 q4
  rw [e1] at e2
  have := Option.some.inj e2
  exact congrArg Prod.fst this
end
section
open Go Go.RowKit
theorem mget_mput {K V : Type} [MKey K] (z : V) (k k' : K) (v : V) : ∀ l : List (K × V), mget z (mput l k v) k' = if k = k' then v else mget z l k'
  | [] => by simp only [mput, mget]
  | p :: r => by
    have ih := mget_mput z k k' v r
    simp only [mput]
    by_cases h1 : p.1 = k
    · rw [if_pos h1]
      simp only [mget]
      by_cases h2 : k = k'
      · rw [if_pos h2, if_pos h2]
      · rw [if_neg h2, if_neg h2, if_neg (by rw [h1]; exact h2)]
    · rw [if_neg h1]
      simp only [mget, ih]
      by_cases h2 : k = k'
      · rw [if_pos h2, if_pos h2, if_neg (by rw [← h2]; exact h1)]
      · rw [if_neg h2, if_neg h2]
theorem hash_some (p : Pkr) (ws : List U64) : ∃ h, m_pack_Packer_Hash p ws = some h := by
  have : ∃ r, m_pack_Packer_Hash p ws = some r ∧ True := by
    unfold m_pack_Packer_Hash
    refine rng_ex (fun _ _ => True) (fun _ => False) trivial (fun i x s _ _ => .inl ?_) (fun s _ => ?_) (fun q hq => hq.elim)
    · exact ⟨_, rfl, trivial⟩
    · exact ⟨_, rfl, trivial⟩
  obtain ⟨h, h1, _⟩ := this
  exact ⟨h, h1⟩
theorem eqU_eq (a b : List U64) : m_slices_Equal_Luint64_uint64 a b = some (decide (a = b)) := by
  unfold m_slices_Equal_Luint64_uint64
  by_cases hl : (a.length : Int) = (b.length : Int)
  · rw [if_neg (by omega)]
    have : ∃ r, (bnd (rng (ρ := Bool) (fun (k18 : Nat) (a19 : U64) (_ : Unit) => bnd (b[k18]?) fun a36 => if (a19.toNat : Int) ≠ (a36.toNat : Int) then (some (.ret false)) else (some (.next ()))) a 0 ()) fun res14 => fin res14 fun (_ : Unit) => some true) = some r ∧ r = decide (a = b) := by
      refine rng_ex (fun m _ => ∀ (i : Nat), i < m → a[i]? = b[i]?) (fun r => r = false ∧ a ≠ b) (fun i hi => by omega) ?_ ?_ ?_
      · intro i x _ hx hI
        obtain ⟨y, hy⟩ := some_of_lt (l := b) (k := i) (by have := lt_of_get hx; omega)
        rw [hy, bnd_some]
        by_cases he : x = y
        · subst he
          rw [if_neg (by simp)]
          refine .inl ⟨(), rfl, fun j hj => ?_⟩
          by_cases e : j = i
          · subst e; rw [hx, hy]
          · exact hI j (by omega)
        · rw [if_pos (fun h => he (BitVec.eq_of_toNat_eq (by omega)))]
          refine .inr ⟨_, rfl, rfl, fun h => he ?_⟩
          rw [h, hy] at hx
          exact (Option.some.inj hx).symm
      · intro _ hI
        refine ⟨_, rfl, ?_⟩
        symm
        rw [decide_eq_true_eq]
        apply List.ext_getElem?
        intro i
        rcases Nat.lt_or_ge i a.length with h | h
        · exact hI i h
        · rw [List.getElem?_eq_none h, List.getElem?_eq_none (by omega)]
      · rintro q ⟨rfl, hne⟩
        exact ⟨_, rfl, by simp [hne]⟩
    obtain ⟨r, h1, h2⟩ := this
    rw [h1, h2]
  · rw [if_pos hl]
    congr 1
    symm
    rw [decide_eq_false_iff_not]
    exact fun h => hl (by rw [h])
/-- A registry that holds these states. -/
structure RegI (vars : List Int) (r : Reg) (L : List (List Int)) : Prop where
  pk : PkOk vars r.packer
  len : r.entries.length = L.length
  st : ∀ (i : Nat) s, L[i]? = some s → StateOk vars s
  words : ∀ (i : Nat) s e, L[i]? = some s → r.entries[i]? = some e → m_pack_Packer_Pack r.packer s = some (e.words, ⟨0⟩)
  nodup : ∀ (i j : Nat) s, L[i]? = some s → L[j]? = some s → i = j
  tab : ∀ (i : Nat) e, r.entries[i]? = some e → ∃ h, m_pack_Packer_Hash r.packer e.words = some h ∧ (i : Int) ∈ mget ([] : List Int) r.table.l h
  val : ∀ h a, a ∈ mget ([] : List Int) r.table.l h → ∃ i : Nat, a = (i : Int) ∧ i < L.length
  few : ∀ h, (mget ([] : List Int) r.table.l h).length ≤ L.length
def links (r : Reg) : List RLk := r.entries.map (·.link)
theorem regNew_eq {vars : List Int} (hl : vars.length ≤ 64) (hv : ∀ (i : Nat) n, vars[i]? = some n → 1 ≤ n ∧ n ≤ 64) : ∃ r, m_registry_New vars = some r ∧ ∃ q, r = (some q, ⟨0⟩) ∧ RegI vars q [] ∧ links q = [] := by
  obtain ⟨r, h1, p, rfl, hp⟩ := packNew_eq hl hv
  unfold m_registry_New
  rw [h1, bnd_some, if_neg (by simp), bnd_some]
  exact ⟨_, rfl, _, rfl, ⟨hp, rfl, fun i s h => by simp at h, fun i s e h => by simp at h, fun i j s h => by simp at h, fun i e h => by simp at h, fun h a ha => by simp [mget] at ha, fun h => by simp [mget]⟩, rfl⟩
theorem regFind_eq {vars : List Int} (hl : vars.length ≤ 64) {r : Reg} {L : List (List Int)} (h : RegI vars r L) {s : List Int} (hs : StateOk vars s) : ∃ (ws : List U64) (hh : Int), m_pack_Packer_Pack r.packer s = some (ws, ⟨0⟩) ∧ m_pack_Packer_Hash r.packer ws = some hh ∧
    ((∃ i : Nat, L[i]? = some s ∧ m_registry_Registry_find r s = some (ws, hh, (i : Int), ⟨0⟩)) ∨ ((∀ i : Nat, L[i]? ≠ some s) ∧ m_registry_Registry_find r s = some (ws, hh, -1, ⟨0⟩))) := by
  obtain ⟨⟨ws, er⟩, p1, p2, p3, p4⟩ := pack_eq h.pk hl hs
  dsimp only at p2 p3 p4
  subst p2
  obtain ⟨hh, hhe⟩ := hash_some r.packer ws
  refine ⟨ws, hh, p1, hhe, ?_⟩
  have key : ∃ res, m_registry_Registry_find r s = some res ∧ ((∃ i : Nat, L[i]? = some s ∧ res = (ws, hh, (i : Int), ⟨0⟩)) ∨ ((∀ i : Nat, L[i]? ≠ some s) ∧ res = (ws, hh, -1, ⟨0⟩))) := by
    unfold m_registry_Registry_find
    rw [p1, bnd_some, if_neg (by simp), hhe, bnd_some]
    refine rng_ex (fun m _ => ∀ (j : Nat) (i : Nat), j < m → (mget ([] : List Int) r.table.l hh)[j]? = some (i : Int) → L[i]? ≠ some s) (fun res => ∃ i : Nat, L[i]? = some s ∧ res = (ws, hh, (i : Int), ⟨0⟩)) (fun j i hj => by omega) ?_ ?_ ?_
    · intro m a _ hm hI
      obtain ⟨i, rfl, hi⟩ := h.val hh a (List.mem_of_getElem? hm)
      obtain ⟨e, he⟩ := some_of_lt (l := r.entries) (k := i) (by rw [h.len]; exact hi)
      obtain ⟨s', hs'⟩ := some_of_lt (l := L) (k := i) hi
      have hw := h.words i s' e hs' he
      rw [atI_eq, he, bnd_some, eqU_eq, bnd_some]
      by_cases hew : e.words = ws
      · rw [decide_eq_true hew, if_t]
        rw [hew] at hw
        have := pack_inj h.pk hl (h.st i s' hs') hs hw p1
        subst this
        exact .inr ⟨_, rfl, i, hs', rfl⟩
      · rw [decide_eq_false hew, if_f]
        refine .inl ⟨(), rfl, fun j i' hj hi' => ?_⟩
        by_cases e1 : j = m
        · subst e1
          rw [hm] at hi'
          have e2 : i = i' := by have := Option.some.inj hi'; omega
          subst e2
          intro hL
          rw [hL] at hs'
          obtain rfl := Option.some.inj hs'
          rw [p1] at hw
          exact hew (congrArg Prod.fst (Option.some.inj hw)).symm
        · exact hI j i' (by omega) hi'
    · intro _ hI
      refine ⟨_, rfl, .inr ⟨fun i hL => ?_, rfl⟩⟩
      obtain ⟨e, he⟩ := some_of_lt (l := r.entries) (k := i) (by rw [h.len]; exact lt_of_get hL)
      have hw := h.words i s e hL he
      rw [p1] at hw
      have hwe : ws = e.words := congrArg Prod.fst (Option.some.inj hw)
      obtain ⟨h', t1, t2⟩ := h.tab i e he
      rw [← hwe, hhe] at t1
      obtain rfl := Option.some.inj t1
      obtain ⟨j, hj⟩ := List.getElem?_of_mem t2
      exact hI j i (lt_of_get hj) hj hL
    · rintro q ⟨i, hi, rfl⟩
      exact ⟨_, rfl, .inl ⟨i, hi, rfl⟩⟩
  obtain ⟨res, k1, k2⟩ := key
  rcases k2 with ⟨i, hi, rfl⟩ | ⟨hn, rfl⟩
  · exact .inl ⟨i, hi, k1⟩
  · exact .inr ⟨hn, k1⟩
theorem regAdd_eq {vars : List Int} (hl : vars.length ≤ 64) {r : Reg} {L : List (List Int)} (h : RegI vars r L) {s : List Int} (hs : StateOk vars s) (hL : L.length < 65536) :
    (∃ i : Nat, L[i]? = some s ∧ m_registry_Registry_Add r s = some ((i : Int), false, ⟨0⟩, r)) ∨ ((∀ i : Nat, L[i]? ≠ some s) ∧ ∃ r', m_registry_Registry_Add r s = some ((L.length : Int), true, ⟨0⟩, r') ∧ RegI vars r' (L ++ [s]) ∧ links r' = links r ++ [⟨-1, -1, 0⟩]) := by
  obtain ⟨ws, hh, p1, p2, hf⟩ := regFind_eq hl h hs
  unfold m_registry_Registry_Add
  have hlen := h.len
  rcases hf with ⟨i, hi, hf⟩ | ⟨hno, hf⟩
  · refine .inl ⟨i, hi, ?_⟩
    rw [hf, bnd_some, if_neg (by simp), if_pos (by dsimp only; omega)]
  · refine .inr ⟨hno, ?_⟩
    have hfew := h.few hh
    rw [hf, bnd_some, if_neg (by simp), if_neg (by dsimp only; omega), if_neg (by omega)]
    dsimp only
    rw [appI_eq (by simp; omega) (by simp; omega), bnd_some, appI_eq (by simp; omega) (by simp; omega), bnd_some, hlen]
    have hget : ∀ k, mget ([] : List Int) (mput r.table.l hh (mget ([] : List Int) r.table.l hh ++ [(L.length : Int)])) k = if hh = k then mget ([] : List Int) r.table.l hh ++ [(L.length : Int)] else mget ([] : List Int) r.table.l k := fun k => mget_mput _ _ _ _ _
    refine ⟨_, rfl, ⟨h.pk, by simp [hlen], ?_, ?_, ?_, ?_, ?_, ?_⟩, by simp [links]⟩
    · intro i s' hi
      rcases app_get hi with hi | ⟨_, rfl⟩
      · exact h.st i s' hi
      · exact hs
    · intro i s' e hi he
      rcases app_get hi with hi | ⟨hi, rfl⟩
      · rcases app_get he with he | ⟨he, _⟩
        · exact h.words i s' e hi he
        · have := lt_of_get hi; omega
      · rcases app_get he with he | ⟨he, rfl⟩
        · have := lt_of_get he; omega
        · exact p1
    · intro i j s' hi hj
      rcases app_get hi with hi2 | ⟨hi2, hs2⟩
      · rcases app_get hj with hj2 | ⟨hj2, hs2⟩
        · exact h.nodup i j s' hi2 hj2
        · exact absurd (hs2 ▸ hi2) (hno i)
      · rcases app_get hj with hj2 | ⟨hj2, _⟩
        · exact absurd (hs2 ▸ hj2) (hno j)
        · omega
    · intro i e he
      rcases app_get he with he | ⟨hi, rfl⟩
      · obtain ⟨k, k1, k2⟩ := h.tab i e he
        refine ⟨k, k1, ?_⟩
        dsimp only
        rw [hget]
        by_cases e1 : hh = k
        · subst e1; rw [if_pos rfl]; exact List.mem_append_left _ k2
        · rw [if_neg e1]; exact k2
      · refine ⟨hh, p2, ?_⟩
        dsimp only
        rw [hget, if_pos rfl, hi, hlen]
        simp
    · intro k a ha
      dsimp only at ha
      rw [hget] at ha
      simp only [List.length_append, List.length_singleton]
      by_cases e1 : hh = k
      · rw [if_pos e1] at ha
        rcases List.mem_append.1 ha with ha | ha
        · obtain ⟨i, h1, h2⟩ := h.val hh a ha; exact ⟨i, h1, by omega⟩
        · exact ⟨L.length, by simpa using ha, by omega⟩
      · rw [if_neg e1] at ha
        obtain ⟨i, h1, h2⟩ := h.val k a ha; exact ⟨i, h1, by omega⟩
    · intro k
      dsimp only
      rw [hget]
      have := h.few k
      simp only [List.length_append, List.length_singleton]
      by_cases e1 : hh = k
      · rw [if_pos e1]; simp; omega
      · rw [if_neg e1]; omega
theorem regHas_eq {vars : List Int} {r : Reg} {L : List (List Int)} (h : RegI vars r L) {i : Nat} (hi : i < L.length) : m_registry_Registry_has r (i : Int) = some true := by
  unfold m_registry_Registry_has
  rw [if_pos (by omega), if_pos (by rw [h.len]; omega)]
  rfl
theorem regState_eq {vars : List Int} (hl : vars.length ≤ 64) {r : Reg} {L : List (List Int)} (h : RegI vars r L) {i : Nat} {s : List Int} (hi : L[i]? = some s) : m_registry_Registry_State r (i : Int) = some (s, ⟨0⟩) := by
  obtain ⟨e, he⟩ := some_of_lt (l := r.entries) (k := i) (by rw [h.len]; exact lt_of_get hi)
  have hs := h.st i s hi
  obtain ⟨⟨ws, er⟩, p1, p2, p3, p4⟩ := pack_eq h.pk hl hs
  have hw := h.words i s e hi he
  rw [p1] at hw
  have hwe : ws = e.words := congrArg Prod.fst (Option.some.inj hw)
  dsimp only at p3 p4
  rw [hwe] at p3 p4
  unfold m_registry_Registry_State
  rw [regHas_eq h (lt_of_get hi), bnd_some, if_t, atI_eq, he, bnd_some, unpack_eq h.pk hl hs p3 p4, bnd_some]
end
section
open Go Go.RowKit
/-- States that can be reached. -/
inductive Rch (t : Tsk) : List Int → Prop
  | init : Rch t t.init
  | step {s : List Int} {k : Nat} {o : Opr} : Rch t s → t.ops[k]? = some o → holdsB o.pre s = true → Rch t (succ o s)
theorem Rch.ok {t : Tsk} (h : TaskOk t) {s : List Int} (hr : Rch t s) : StateOk t.vars s := by
  induction hr with
  | init => exact h.2.2.2.1
  | step _ ho _ ih => exact succ_ok h ih ho
end
section
open Go Go.RowKit
attribute [local irreducible] ewp owp hwp hwq hws Ev Evg Fn retPost loud loudS Res1
noncomputable def m_base_Is (x0 : Err) (x1 : Int) : Option Bool :=
  bnd (if x0.n ≠ 0 then (bnd (m_base_Num (⟨x0.n⟩ : Err)) fun q8 => if q8 = x1 then (some true) else (some false)) else (some false) : Option Bool) fun y3 => some y3
theorem c_base_Is {w : World} {A : Nat → Prop} (hA : ∀ k, A k → k < w.heap.size) {x0 : Err} (rx0 : inI64 x0.n) {x1 : Int} (rx1 : inI64 x1) {r : Bool} (hm : m_base_Is x0 x1 = some r) :
    Fn Tryz.prog 20 [(errV x0.n), (.int .i64 x1)] w fun v w' => Ext w w' ∧ Vb w' (upA A w w') v r := by
 obtain ⟨O, hB, hA0⟩ := enter hA
 refine fn_enter Tryz.func20 rfl Tryz.ntmps20 rfl ?_
 unfold m_base_Is at hm
 refine ewp_seq (ewp_region (o_as rfl rfl (o_z ?_)))
 refine ewp_seq ?_
 obtain ⟨y3, hy4, hm⟩ := bs hm
 refine ewp_join (fun l' w' => ∃ (x6 : Unit) (O' : Lab), subs l' [(4, (.bool y3))] ∧ Bs w A w' O') ?_ ?_
 ·
  refine ewp_region (o_mv rfl rfl (o_rnS rfl rfl (fun c7 => ?_) fun c7 => ?_))
  ·
   replace hy4 := ip hy4 c7
   refine o_mv rfl rfl (owp_yes rfl rfl (o_mv rfl rfl (owp_yes rfl rfl ?_)))
   obtain ⟨q8, e9, hy4⟩ := bs hy4
   refine l_callA (O := O) (A := All w) (R := fun w' F v => Vb w' F v q8) (c_base_Num (fun _ h => h) rx0 e9) rfl rfl fun v14 w10 O11 S12 h13 => ?_
   obtain ⟨rfl, r15⟩ := h13.int
   refine owp_yes rfl rfl (o_mv rfl rfl (owp_yes rfl rfl (o_eeS rfl rfl rfl (fun c16 => ?_) fun c16 => ?_)))
   ·
    replace hy4 := ip hy4 c16
    refine o_pt rfl rfl rfl (o_as rfl rfl (o_z ?_))
    obtain rfl := sm hy4
    replace hB := hB.st S12
    exact ⟨(), _, ⟨rfl, trivial⟩, hB⟩
   replace hy4 := im hy4 c16
   refine o_pt rfl rfl rfl (o_as rfl rfl (o_z ?_))
   obtain rfl := sm hy4
   replace hB := hB.st S12
   exact ⟨(), _, ⟨rfl, trivial⟩, hB⟩
  replace hy4 := im hy4 c7
  refine o_mv rfl rfl (owp_no rfl rfl rfl rfl (owp_no rfl rfl rfl rfl (owp_no rfl rfl rfl rfl (owp_no rfl rfl rfl rfl (o_pf rfl rfl rfl (o_as rfl rfl (o_z ?_)))))))
  obtain rfl := sm hy4
  exact ⟨(), _, ⟨rfl, trivial⟩, hB⟩
 rintro l17 w18 ⟨x6, O19, hs20, hB⟩
 refine ewp_sub _ hs20 ?_
 refine ewp_ret ?_
 obtain rfl := sm hm
 exact ret1v rfl (res_tmp rfl) ⟨hB.ext, vBool⟩
end
section
open Go Go.RowKit
theorem nodup_len {α : Type} [DecidableEq α] : ∀ {a b : List α}, a.Nodup → (∀ x ∈ a, x ∈ b) → a.length ≤ b.length
  | [], _, _, _ => Nat.zero_le _
  | x :: a, b, hn, hs => by
    have hx := hs x List.mem_cons_self
    have h1 := nodup_len (a := a) (b := b.erase x) (List.nodup_cons.1 hn).2 fun y hy => (List.mem_erase_of_ne (fun e => (List.nodup_cons.1 hn).1 (by rw [← e]; exact hy))).2 (hs y (List.mem_cons_of_mem _ hy))
    have h2 := List.length_erase_of_mem hx
    have h3 := List.length_pos_of_mem hx
    simp only [List.length_cons]
    omega
end
section
open Go Go.RowKit
def appB (t : Tsk) (s : List Int) (k : Nat) : Bool := match t.ops[k]? with | some o => holdsB o.pre s | none => false
def appN (t : Tsk) (s : List Int) (m : Nat) : List Nat := (List.range m).filter (appB t s)
def sucN (t : Tsk) (s : List Int) (k : Nat) : List Int := match t.ops[k]? with | some o => succ o s | none => s
theorem appl_N (t : Tsk) (s : List Int) : appl t s = (appN t s t.ops.length).map fun k : Nat => (k : Int) := rfl
theorem appB_some {t : Tsk} {s : List Int} {k : Nat} (h : appB t s k = true) : ∃ o, t.ops[k]? = some o ∧ holdsB o.pre s = true ∧ sucN t s k = succ o s := by
  unfold appB at h
  cases ho : t.ops[k]? with
  | none => rw [ho] at h; cases h
  | some o => rw [ho] at h; exact ⟨o, rfl, h, by unfold sucN; rw [ho]⟩
theorem appB_of {t : Tsk} {s : List Int} {k : Nat} {o : Opr} (ho : t.ops[k]? = some o) : appB t s k = holdsB o.pre s ∧ sucN t s k = succ o s := by unfold appB sucN; rw [ho]; exact ⟨rfl, rfl⟩
end
section
set_option linter.unusedVariables false
set_option linter.unusedSimpArgs false
open Go Go.RowKit
/-- A state is put at the end, if it is new. -/
def putL (L : List (List Int)) (s : List Int) : List (List Int) := if s ∈ L then L else L ++ [s]
def foldP (t : Tsk) (s : List Int) (L : List (List Int)) (ks : List Nat) : List (List Int) := ks.foldl (fun L k => putL L (sucN t s k)) L
def expL (t : Tsk) (s : List Int) (L : List (List Int)) (m : Nat) : List (List Int) := foldP t s L (appN t s m)
theorem appN_succ (t : Tsk) (s : List Int) (m : Nat) : appN t s (m + 1) = appN t s m ++ if appB t s m = true then [m] else [] := by
  unfold appN
  rw [List.range_succ, List.filter_append]
  by_cases h : appB t s m = true <;> simp [h]
theorem expL_succ (t : Tsk) (s : List Int) (L : List (List Int)) (m : Nat) : expL t s L (m + 1) = if appB t s m = true then putL (expL t s L m) (sucN t s m) else expL t s L m := by
  unfold expL foldP
  rw [appN_succ, List.foldl_append]
  by_cases h : appB t s m = true
  · rw [if_pos h, if_pos h]; rfl
  · rw [if_neg h, if_neg h]; rfl
theorem putL_pre (L : List (List Int)) (s : List Int) : ∃ A, putL L s = L ++ A := by
  unfold putL
  split
  · exact ⟨[], by simp⟩
  · exact ⟨[s], rfl⟩
theorem putL_mem (L : List (List Int)) (s : List Int) : s ∈ putL L s := by
  unfold putL
  split
  · assumption
  · simp
theorem foldP_pre (t : Tsk) (s : List Int) : ∀ (ks : List Nat) (L : List (List Int)), ∃ A, foldP t s L ks = L ++ A
  | [], L => ⟨[], by simp [foldP]⟩
  | k :: ks, L => by
    obtain ⟨A, hA⟩ := putL_pre L (sucN t s k)
    obtain ⟨B, hB⟩ := foldP_pre t s ks (putL L (sucN t s k))
    exact ⟨A ++ B, by rw [← List.append_assoc, ← hA, ← hB]; rfl⟩
theorem foldP_snoc (t : Tsk) (s : List Int) (L : List (List Int)) (ks : List Nat) (k : Nat) : foldP t s L (ks ++ [k]) = putL (foldP t s L ks) (sucN t s k) := by unfold foldP; rw [List.foldl_append]; rfl
theorem foldP_mem (t : Tsk) (s : List Int) : ∀ (ks : List Nat) (L : List (List Int)) (k : Nat), k ∈ ks → sucN t s k ∈ foldP t s L ks
  | [], _, _, h => by simp at h
  | q :: ks, L, k, h => by
    rcases List.mem_cons.1 h with rfl | h
    · obtain ⟨B, hB⟩ := foldP_pre t s ks (putL L (sucN t s k))
      show _ ∈ foldP t s (putL L (sucN t s k)) ks
      rw [hB]; exact List.mem_append_left _ (putL_mem _ _)
    · exact foldP_mem t s ks _ k h
/-- A list of states. -/
structure BL (t : Tsk) (L : List (List Int)) : Prop where
  root : L[0]? = some t.init
  nodup : L.Nodup
  rch : ∀ s ∈ L, Rch t s
theorem bl_init (t : Tsk) : BL t [t.init] := ⟨rfl, by simp, fun s h => by simp at h; rw [h]; exact .init⟩
theorem BL.ok {t : Tsk} {L : List (List Int)} (h : BL t L) (hok : TaskOk t) {s : List Int} (hs : s ∈ L) : StateOk t.vars s := (h.rch s hs).ok hok
theorem BL.few {t : Tsk} {L : List (List Int)} (h : BL t L) (hs : Mid t) : L.length ≤ 600 := Nat.le_trans (nodup_len h.nodup fun s hm => mem_statesL.2 (h.ok hs.ok hm)) hs.many
theorem BL.put {t : Tsk} {L : List (List Int)} (h : BL t L) {s : List Int} (hs : s ∈ L) {k : Nat} (hk : appB t s k = true) : BL t (putL L (sucN t s k)) := by
  unfold putL
  by_cases hm : sucN t s k ∈ L
  · rw [if_pos hm]; exact h
  · rw [if_neg hm]
    obtain ⟨o, ho, hp, hsu⟩ := appB_some hk
    refine ⟨?_, ?_, fun u hu => ?_⟩
    · rw [List.getElem?_append_left (lt_of_get h.root)]; exact h.root
    · rw [List.nodup_append]
      refine ⟨h.nodup, by simp, fun a ha b hb => ?_⟩
      simp at hb
      rintro rfl
      exact hm (hb ▸ ha)
    · rcases List.mem_append.1 hu with hu | hu
      · exact h.rch u hu
      · simp at hu; rw [hu, hsu]; exact (h.rch s hs).step ho hp
theorem BL.fold {t : Tsk} {s : List Int} : ∀ {ks : List Nat} {L : List (List Int)}, BL t L → s ∈ L → (∀ k ∈ ks, appB t s k = true) → BL t (foldP t s L ks)
  | [], _, h, _, _ => h
  | k :: ks, L, h, hs, hk => by
    obtain ⟨A, hA⟩ := putL_pre L (sucN t s k)
    exact BL.fold (L := putL L (sucN t s k)) (h.put hs (hk k List.mem_cons_self)) (by rw [hA]; exact List.mem_append_left _ hs) fun q hq => hk q (List.mem_cons_of_mem _ hq)
theorem appN_all {t : Tsk} {s : List Int} {m k : Nat} (h : k ∈ appN t s m) : appB t s k = true ∧ k < m := by
  unfold appN at h
  obtain ⟨h1, h2⟩ := List.mem_filter.1 h
  exact ⟨h2, List.mem_range.1 h1⟩
theorem mem_appN {t : Tsk} {s : List Int} {m k : Nat} (h : appB t s k = true) (hk : k < m) : k ∈ appN t s m := List.mem_filter.2 ⟨List.mem_range.2 hk, h⟩
theorem BL.exp {t : Tsk} {s : List Int} {L : List (List Int)} (h : BL t L) (hs : s ∈ L) (m : Nat) : BL t (expL t s L m) := h.fold hs fun k hk => (appN_all hk).1
/-- The first i states have all their successors in the list. -/
def CloL (t : Tsk) (i : Nat) (L : List (List Int)) : Prop := ∀ (j : Nat) s k, j < i → L[j]? = some s → appB t s k = true → sucN t s k ∈ L
theorem CloL.exp {t : Tsk} {i : Nat} {L : List (List Int)} (h : CloL t i L) {s : List Int} (hs : L[i]? = some s) : CloL t (i + 1) (expL t s L t.ops.length) := fun j u k hj hu hk => by
  obtain ⟨A, hA⟩ := foldP_pre t s (appN t s t.ops.length) L
  have hi := lt_of_get hs
  have e : expL t s L t.ops.length = L ++ A := hA
  rw [e, List.getElem?_append_left (by omega)] at hu
  by_cases e2 : j = i
  · subst e2
    rw [hs] at hu
    obtain rfl := Option.some.inj hu
    obtain ⟨o, ho, _⟩ := appB_some hk
    exact foldP_mem t s _ _ k (mem_appN hk (lt_of_get ho))
  · rw [e]; exact List.mem_append_left _ (h j u k (by omega) hu hk)
/-- The search up to its end; none: there are too many. -/
inductive Bx (t : Tsk) (lim : Int) : Nat → List (List Int) → Option (List (List Int)) → Prop
  | full {i : Nat} {L : List (List Int)} : lim < (L.length : Int) → Bx t lim i L none
  | done {i : Nat} {L : List (List Int)} : (L.length : Int) ≤ lim → L.length ≤ i → Bx t lim i L (some L)
  | step {i : Nat} {L : List (List Int)} {s : List Int} {r : Option (List (List Int))} : (L.length : Int) ≤ lim → L[i]? = some s → Bx t lim (i + 1) (expL t s L t.ops.length) r → Bx t lim i L r
theorem bx_ex {t : Tsk} (hs : Mid t) (lim : Int) : ∀ (n i : Nat) (L : List (List Int)), 601 - i < n → BL t L → ∃ r, Bx t lim i L r
  | 0, _, _, h, _ => absurd h (by omega)
  | n + 1, i, L, h, hL => by
    by_cases h1 : lim < (L.length : Int)
    · exact ⟨_, .full h1⟩
    · by_cases h2 : L.length ≤ i
      · exact ⟨_, .done (by omega) h2⟩
      · have hf := hL.few hs
        obtain ⟨s, hs'⟩ := some_of_lt (l := L) (k := i) (by omega)
        obtain ⟨r, hr⟩ := bx_ex hs lim n (i + 1) (expL t s L t.ops.length) (by omega) (hL.exp (List.mem_of_getElem? hs') _)
        exact ⟨r, .step (by omega) hs' hr⟩
/-- The end of the search. -/
structure EndL (t : Tsk) (lim : Int) (L : List (List Int)) : Prop where
  bl : BL t L
  clo : CloL t L.length L
  few : (L.length : Int) ≤ lim
theorem Bx.ends {t : Tsk} {lim : Int} {i : Nat} {L : List (List Int)} {r : Option (List (List Int))} (h : Bx t lim i L r) : BL t L → CloL t i L → ∀ L', r = some L' → EndL t lim L' := by
  induction h with
  | full _ => intro _ _ _ h; cases h
  | done h1 h2 => intro hb hc L' h; cases h; exact ⟨hb, fun j s k hj hs hk => hc j s k (by omega) hs hk, h1⟩
  | @step i L s r h1 h2 _ ih =>
    intro hb hc L' h
    exact ih (hb.exp (List.mem_of_getElem? h2) _) (hc.exp h2) L' h
/-- The number of a state. -/
def idxE (L : List (List Int)) (s : List Int) : Int := (L.idxOf s : Int)
def edgK (t : Tsk) (L : List (List Int)) (s : List Int) (i : Nat) (ks : List Nat) : List Edj := ks.map fun k : Nat => (⟨(i : Int), (k : Int), idxE L (sucN t s k)⟩ : Edj)
def edgL (t : Tsk) (L : List (List Int)) (i : Nat) : List Edj := (List.range i).flatMap fun j => match L[j]? with | some s => edgK t L s j (appN t s t.ops.length) | none => []
theorem idxE_pre {L A : List (List Int)} {s : List Int} (h : s ∈ L) : idxE (L ++ A) s = idxE L s := by unfold idxE; rw [List.idxOf_append, if_pos h]
theorem idxE_put {L : List (List Int)} {s : List Int} (h : ¬ s ∈ L) : idxE (L ++ [s]) s = (L.length : Int) := by unfold idxE; rw [List.idxOf_append, if_neg h]; simp
theorem idx_get {L : List (List Int)} {s : List Int} (h : s ∈ L) : ∃ i : Nat, idxE L s = (i : Int) ∧ L[i]? = some s := ⟨L.idxOf s, rfl, by rw [List.getElem?_eq_getElem (List.idxOf_lt_length_of_mem h), List.getElem_idxOf]⟩
theorem nodup_at {α : Type} {L : List α} (hn : L.Nodup) {i j : Nat} {s : α} (h1 : L[i]? = some s) (h2 : L[j]? = some s) : i = j := by
  obtain ⟨a1, b1⟩ := List.getElem?_eq_some_iff.1 h1
  obtain ⟨a2, b2⟩ := List.getElem?_eq_some_iff.1 h2
  rcases Nat.lt_trichotomy i j with h | h | h
  · exact ((List.pairwise_iff_getElem.1 hn) i j a1 a2 h (by rw [b1, b2])).elim
  · exact h
  · exact ((List.pairwise_iff_getElem.1 hn) j i a2 a1 h (by rw [b1, b2])).elim
theorem idx_of {L : List (List Int)} (hn : L.Nodup) {i : Nat} {s : List Int} (h : L[i]? = some s) : idxE L s = (i : Int) := by
  obtain ⟨j, h1, h2⟩ := idx_get (List.mem_of_getElem? h)
  rw [h1, nodup_at hn h2 h]
theorem edgK_pre {t : Tsk} {L A : List (List Int)} {s : List Int} {i : Nat} {ks : List Nat} (h : ∀ k ∈ ks, sucN t s k ∈ L) : edgK t (L ++ A) s i ks = edgK t L s i ks := by
  unfold edgK
  exact List.map_congr_left fun k hk => by rw [idxE_pre (h k hk)]
theorem flatMap_congr' {α β : Type} {l : List α} {f g : α → List β} (h : ∀ a ∈ l, f a = g a) : l.flatMap f = l.flatMap g := by
  induction l with
  | nil => rfl
  | cons a l ih => rw [List.flatMap_cons, List.flatMap_cons, h a List.mem_cons_self, ih fun b hb => h b (List.mem_cons_of_mem _ hb)]
theorem edgL_pre {t : Tsk} {L A : List (List Int)} {i : Nat} (hi : i ≤ L.length) (h : CloL t i L) : edgL t (L ++ A) i = edgL t L i := by
  unfold edgL
  refine flatMap_congr' fun j hj => ?_
  have hji := List.mem_range.1 hj
  obtain ⟨s, hs⟩ := some_of_lt (l := L) (k := j) (by omega)
  rw [List.getElem?_append_left (by omega), hs]
  exact edgK_pre fun k hk => h j s k hji hs (appN_all hk).1
theorem edgL_succ {t : Tsk} {L : List (List Int)} {i : Nat} {s : List Int} (hs : L[i]? = some s) : edgL t L (i + 1) = edgL t L i ++ edgK t L s i (appN t s t.ops.length) := by
  unfold edgL
  rw [List.range_succ, List.flatMap_append, List.flatMap_singleton, hs]
theorem mem_edgL {t : Tsk} {L : List (List Int)} {i : Nat} {e : Edj} : e ∈ edgL t L i ↔ ∃ (j k : Nat) (s : List Int), j < i ∧ L[j]? = some s ∧ appB t s k = true ∧ e = ⟨(j : Int), (k : Int), idxE L (sucN t s k)⟩ := by
  unfold edgL
  rw [List.mem_flatMap]
  constructor
  · rintro ⟨j, hj, he⟩
    cases hs : L[j]? with
    | none => rw [hs] at he; simp at he
    | some s =>
      rw [hs] at he
      obtain ⟨k, hk, rfl⟩ := List.mem_map.1 he
      exact ⟨j, k, s, List.mem_range.1 hj, hs, (appN_all hk).1, rfl⟩
  · rintro ⟨j, k, s, hj, hs, hk, rfl⟩
    refine ⟨j, List.mem_range.2 hj, ?_⟩
    rw [hs]
    obtain ⟨o, ho, _⟩ := appB_some hk
    exact List.mem_map.2 ⟨k, mem_appN hk (lt_of_get ho), rfl⟩
theorem appN_len (t : Tsk) (s : List Int) (m : Nat) : (appN t s m).length ≤ m := by
  unfold appN
  exact Nat.le_trans (List.length_filter_le _ _) (by simp)
theorem edgL_len (t : Tsk) (L : List (List Int)) : ∀ (i : Nat), (edgL t L i).length ≤ i * t.ops.length
  | 0 => by simp [edgL]
  | i + 1 => by
    have h := edgL_len t L i
    unfold edgL at h ⊢
    rw [List.range_succ, List.flatMap_append, List.flatMap_singleton, List.length_append, Nat.succ_mul]
    have : (match L[i]? with | some s => edgK t L s i (appN t s t.ops.length) | none => []).length ≤ t.ops.length := by
      cases L[i]? with
      | none => simp
      | some s => dsimp only; unfold edgK; rw [List.length_map]; exact appN_len _ _ _
    omega
theorem EndL.edges {t : Tsk} {lim : Int} {L : List (List Int)} (h : EndL t lim L) (hs : Mid t) : EdgesOk t L.length (edgL t L L.length) := by
  have hf := h.bl.few hs
  refine ⟨fun e he => ?_, ?_⟩
  · obtain ⟨j, k, s, hj, hsj, hk, rfl⟩ := mem_edgL.1 he
    obtain ⟨i, h1, h2⟩ := idx_get (h.clo j s k hj hsj hk)
    obtain ⟨o, ho, _⟩ := appB_some hk
    have := lt_of_get h2
    have := lt_of_get ho
    rw [h1]
    dsimp only; omega
  · have h1 := edgL_len t L L.length
    have h2 := hs.ops
    have : L.length * t.ops.length ≤ 600 * 80 := Nat.mul_le_mul hf h2
    omega
-- the document
theorem rfind_eq (L : List (List Int)) (s : List Int) : m_ref25_Find L s = some (if s ∈ L then idxE L s else -1) := by
  have key : ∃ r, m_ref25_Find L s = some r ∧ r = (if s ∈ L then idxE L s else -1) := by
    unfold m_ref25_Find
    refine rng_ex (fun k _ => ¬ s ∈ L.take k) (fun r => s ∈ L ∧ r = idxE L s) (by simp) (fun k a u hk hI => ?_) (fun u hI => ⟨_, rfl, ?_⟩) (fun r hr => ⟨_, rfl, ?_⟩)
    · unfold m_base_Ints
      rw [bnd_some]
      by_cases e : a = s
      · rw [bof_t e, if_t]
        subst e
        refine .inr ⟨_, rfl, List.mem_of_getElem? hk, ?_⟩
        have hk2 := lt_of_get hk
        have : L = L.take k ++ (a :: L.drop (k + 1)) := by
          have h2 := List.drop_eq_getElem_cons hk2
          rw [(List.getElem?_eq_some_iff.1 hk).2] at h2
          rw [← h2, List.take_append_drop]
        unfold idxE
        rw [this, List.idxOf_append, if_neg hI]
        simp; omega
      · rw [bof_f e, if_f]
        refine .inl ⟨(), rfl, fun hm => ?_⟩
        rcases (take_mem hk).1 hm with hm | rfl
        · exact hI hm
        · exact e rfl
    · rw [List.take_length] at hI; rw [if_neg hI]
    · rw [if_pos hr.1]; exact hr.2
  obtain ⟨r, h1, h2⟩ := key
  rw [h1, h2]
theorem idxE_nat (L : List (List Int)) (s : List Int) : 0 ≤ idxE L s := by unfold idxE; omega
abbrev LN := List (List Int) × Int
noncomputable def rstF (x0 : Tsk) (q25 : Int) : LN → Option (Ctl LN ((List (List Int)) × Bool)) := fun s60 => bnd (if s60.2 < (s60.1.length : Int) then (if (s60.1.length : Int) ≤ q25 then (some true) else (some false)) else (some false) : Option Bool) fun y79 => if y79 = true then (bnd (rng (ρ := Ctl LN ((List (List Int)) × Bool)) (fun (k100 : Nat) (a101 : Opr) (s98 : (List (List Int))) => bnd (atI s98 s60.2) fun a115 => bnd (m_base_Apply x0 a115 (k100 : Int)) fun q130 => bnd (if q130.2 = true then (bnd (m_ref25_Find s98 q130.1) fun q148 => if q148 < 0 then (some true) else (some false)) else (some false) : Option Bool) fun y143 => if y143 = true then (bnd (appI 24 s98 [q130.1]) fun u162 => some (.next u162)) else (some (.next s98))) x0.ops 0 s60.1) fun res96 => fin res96 fun (s178 : (List (List Int))) => bnd (chkI (s60.2 + 1)) fun n180 => some (.next (s178, n180))) else (some (.brk (s60.1, s60.2)))
noncomputable def rstE (q25 : Int) : Fin LN ((List (List Int)) × Bool) → Option ((List (List Int)) × Bool) := fun res58 => fin res58 fun (s187 : LN) => bnd (if (s187.1.length : Int) ≤ q25 then (some true) else (some false) : Option Bool) fun y189 => some (s187.1, y189)
theorem rst_unf (x0 : Tsk) (x1 : Int) : m_ref25_States x0 x1 = bnd (m_base_Clip x1 0 65536) fun q25 => bnd (appI 8 ([] : List Int) x0.init) fun u39 => bnd (lop (rstF x0 q25) ([u39], 0)) (rstE q25) := rfl
theorem rst_inn {t : Tsk} (hs : Mid t) {ρ : Type} {i : Nat} {L : List (List Int)} {s : List Int} (hb : BL t L) (hi : L[i]? = some s) : rng (ρ := ρ) (fun (k100 : Nat) (a101 : Opr) (s98 : (List (List Int))) => bnd (atI s98 (i : Int)) fun a115 => bnd (m_base_Apply t a115 (k100 : Int)) fun q130 => bnd (if q130.2 = true then (bnd (m_ref25_Find s98 q130.1) fun q148 => if q148 < 0 then (some true) else (some false)) else (some false) : Option Bool) fun y143 => if y143 = true then (bnd (appI 24 s98 [q130.1]) fun u162 => some (.next u162)) else (some (.next s98))) t.ops 0 L = some (.done (expL t s L t.ops.length)) := by
  refine rng_from (fun m => expL t s L m) (by simp [expL, appN, foldP]) fun k o ho => ?_
  have hmem := List.mem_of_getElem? hi
  have hE := hb.exp hmem k
  have hf := hE.few hs
  obtain ⟨e1, e2⟩ := appB_of (s := s) ho
  have hsok := hb.ok hs.ok hmem
  obtain ⟨A, hA⟩ := foldP_pre t s (appN t s k) L
  have hget : (expL t s L k)[i]? = some s := by
    show (foldP t s L (appN t s k))[i]? = some s
    rw [hA, List.getElem?_append_left (lt_of_get hi)]; exact hi
  rw [expL_succ, e1, atI_eq, hget, bnd_some, apply_all hs.ok hsok ho]
  by_cases hp : holdsB o.pre s = true
  · rw [if_pos hp, if_pos hp, bnd_some]
    dsimp only
    rw [if_t, rfind_eq, bnd_some, e2]
    unfold putL
    by_cases hm : succ o s ∈ expL t s L k
    · rw [if_pos hm, if_neg (by have := idxE_nat (expL t s L k) (succ o s); omega), bnd_some, if_f, if_pos hm]
    · rw [if_neg hm, if_pos (by omega), bnd_some, if_t, appI_eq (by rw [List.length_singleton]; omega) (by rw [List.length_singleton]; omega), bnd_some, if_neg hm]
  · rw [if_neg hp, if_neg hp, bnd_some]
    dsimp only
    rw [if_f, bnd_some, if_f]
/-- The document's answer. -/
def outS (r : Option (List (List Int))) (x : List (List Int) × Bool) : Prop := match r with | none => x.2 = false | some L => x = (L, true)
theorem rst_bx {t : Tsk} (hs : Mid t) {lim : Int} {i : Nat} {L : List (List Int)} {r : Option (List (List Int))} (h : Bx t lim i L r) : BL t L → ∃ x, bnd (lop (rstF t lim) (L, (i : Int))) (rstE lim) = some x ∧ outS r x := by
  induction h with
  | @full i L h1 =>
    intro _
    rw [lop_eq]
    unfold rstF
    dsimp only
    have e : (if (i : Int) < (L.length : Int) then (if (L.length : Int) ≤ lim then some true else some false) else some false) = some false := by
      split
      · rw [if_neg (by omega)]
      · rfl
    rw [e, bnd_some, if_f]
    dsimp only
    rw [bnd_some]
    unfold rstE
    rw [fin_d, if_neg (by dsimp only; omega), bnd_some]
    exact ⟨_, rfl, rfl⟩
  | @done i L h1 h2 =>
    intro _
    rw [lop_eq]
    unfold rstF
    dsimp only
    rw [if_neg (by omega), bnd_some, if_f]
    dsimp only
    rw [bnd_some]
    unfold rstE
    rw [fin_d, if_pos (by dsimp only; omega), bnd_some]
    exact ⟨_, rfl, rfl⟩
  | @step i L s r h1 h2 _ ih =>
    intro hb
    have hil := lt_of_get h2
    have hf := hb.few hs
    rw [lop_eq]
    unfold rstF
    dsimp only
    rw [if_pos (by omega), if_pos h1, bnd_some, if_t, rst_inn hs hb h2, bnd_some, fin_d, chkI_eq (by unfold inI64; omega), bnd_some]
    dsimp only
    exact ih (hb.exp (List.mem_of_getElem? h2) _)
def limE (x : Int) : Int := max 0 (min x 65536)
theorem clip_eq (x : Int) : m_base_Clip x 0 65536 = some (limE x) := by
  unfold limE m_base_Clip
  first | rfl | (congr 1; omega) | (split <;> (try split) <;> (congr 1; omega))
theorem refStates_eq {t : Tsk} (hs : Mid t) (lim : Int) : ∃ r x, Bx t (limE lim) 0 [t.init] r ∧ m_ref25_States t lim = some x ∧ outS r x := by
  obtain ⟨r, hr⟩ := bx_ex hs (limE lim) 602 0 [t.init] (by omega) (bl_init t)
  obtain ⟨x, h1, h2⟩ := rst_bx hs hr (bl_init t)
  refine ⟨r, x, hr, ?_, h2⟩
  have h3 := hs.ok.2.2.2.1.1
  have h4 := hs.ok.1
  rw [rst_unf, clip_eq, bnd_some, appI_eq (by simp; omega) (by simp; omega), bnd_some, List.nil_append]
  exact h1
end
section
set_option linter.unusedVariables false
set_option linter.unusedSimpArgs false
open Go Go.RowKit
abbrev XI := List Edj × Reg
abbrev XS := Int × List Edj × List Bool × Reg
abbrev XR := Option Spa × Err
theorem cloneF_eq {f : List Fct} (h : f.length ≤ 1000) : m_slices_Clone_Lapi_Fact_api_Fact f = some f := if_pos ⟨by omega, by omega⟩
theorem copied_eq {t : Tsk} (h : TaskOk t) : m_explore_copied t = some t := by
  obtain ⟨h1, h2, h3, h4, h5, h6⟩ := h
  have hg := factsOk_len h5
  unfold m_explore_copied
  rw [clone_eq (by omega), bnd_some, clone_eq (by rw [h4.1]; omega), bnd_some, cloneF_eq (by omega), bnd_some, bnd_some]
  rw [rng_from (fun k => t.ops.take k) (by simp) (fun k o ho => ?_), bnd_some, fin_d, List.take_length]
  have hk := lt_of_get ho
  have hoo := h6 k o ho
  have hp := factsOk_len hoo.2.2.2.2.1
  rw [cloneF_eq (by omega), bnd_some]
  rw [rng_from (fun j => o.effs.take j) (by simp) (fun j e he => ?_), bnd_some, fin_d, List.take_length]
  · rw [appI_eq (by rw [List.length_take, List.length_singleton]; omega) (by rw [List.length_take, List.length_singleton]; omega), bnd_some, List.take_add_one, ho]; rfl
  · have hj := lt_of_get he
    have hel := hoo.2.2.1
    have hc := factsOk_len (hoo.2.2.2.2.2 j e he).1
    rw [cloneF_eq (by omega), bnd_some, appI_eq (by rw [List.length_take, List.length_singleton]; omega) (by rw [List.length_take, List.length_singleton]; omega), bnd_some, List.take_add_one, he]; rfl
noncomputable def exIn (x1 i : Int) : Suc → XI → Option (Ctl XI (Ctl XS XR)) := fun a228 s225 => bnd (m_registry_Registry_Add s225.2 a228.state) fun q263 => bnd (bnd (m_errors_Is (⟨q263.2.2.1.n⟩ : Err) (⟨10⟩ : Err)) fun q283 => if q283 = true then some true else if q263.2.1 = true then (if (max 0 (min x1 65536)) ≤ q263.1 then (some true) else (some false)) else (some false) : Option Bool) fun y279 => if y279 = true then (some (.ret (.ret (none, (⟨10⟩ : Err))))) else (if q263.2.2.1.n ≠ 0 then (some (.ret (.ret (none, (⟨q263.2.2.1.n⟩ : Err))))) else (bnd (appI 24 s225.1 [(⟨i, a228.op, q263.1⟩ : Edj)]) fun u304 => some (.next (u304, q263.2.2.2))))
noncomputable def exF (x0 : Tsk) (x1 : Int) (gen : Option Gnr) : XS → Option (Ctl XS XR) := fun s105 => bnd (m_registry_Registry_Len s105.2.2.2) fun q130 => if s105.1 < q130 then (bnd (m_registry_Registry_State s105.2.2.2 s105.1) fun q141 => if q141.2.n ≠ 0 then (some (.ret (none, (⟨q141.2.n⟩ : Err)))) else (bnd (bnd (m_task_Holds x0.goal q141.1) fun q163 => if q163 = true then bnd (appI 1 s105.2.2.1 [true]) fun u195 => some u195 else bnd (appI 1 s105.2.2.1 [false]) fun u176 => some u176 : Option (List Bool)) fun y157 => bnd (m_succgen_Generator_Successors gen q141.1) fun q212 => bnd (rng (ρ := Ctl XS XR) (fun (_ : Nat) (a228 : Suc) (s225 : XI) => exIn x1 s105.1 a228 s225) q212 0 (s105.2.1, s105.2.2.2)) fun res223 => fin res223 fun (s321 : XI) => bnd (chkI (s105.1 + 1)) fun n323 => some (.next (n323, s321.1, y157, s321.2)))) else (some (.brk (s105.1, s105.2.1, s105.2.2.1, s105.2.2.2)))
noncomputable def exE (q74 : Tsk) : Fin XS XR → Option XR := fun res103 => fin res103 fun (s330 : XS) => bnd (m_explore_Space_measure (⟨(⟨q74.vars, q74.init, q74.goal, q74.ops⟩ : Tsk), s330.2.2.2, s330.2.1, s330.2.2.1, ([] : List Int), ([] : List Int), ([] : List Int)⟩ : Spa)) fun q341 => some ((some q341), (⟨0⟩ : Err))
theorem ex_unf (x0 : Tsk) (x1 : Int) : m_explore_Explore x0 x1 = bnd (m_succgen_New x0) fun q25 => if q25.2.n ≠ 0 then (some (none, (⟨q25.2.n⟩ : Err))) else (bnd (m_registry_New x0.vars) fun q40 => if q40.2.n ≠ 0 then (some (none, (⟨q40.2.n⟩ : Err))) else (if (max 0 (min x1 65536)) < 1 then (some (none, (⟨10⟩ : Err))) else (bnd q40.1 fun o54 => bnd (m_registry_Registry_Add o54 x0.init) fun q57 => if q57.2.2.1.n ≠ 0 then (some (none, (⟨q57.2.2.1.n⟩ : Err))) else (bnd (m_explore_copied x0) fun q74 => bnd (lop (exF x0 x1 q25.1) (0, ([] : List Edj), ([] : List Bool), q57.2.2.2)) (exE q74))))) := rfl
def goalsL (t : Tsk) (L : List (List Int)) : List Bool := L.map (holdsB t.goal)
/-- A space of all states that can be reached. -/
structure SpX (t : Tsk) (L : List (List Int)) (x : Spa) : Prop where
  reg : RegI t.vars x.states L
  sp : SpaOk t L.length (edgL t L L.length) (goalsL t L) x
def outX (t : Tsk) (r : Option (List (List Int))) (x : XR) : Prop := match r with | none => x = (none, ⟨10⟩) | some L => ∃ s, x = (some s, ⟨0⟩) ∧ SpX t L s
theorem foldP_app (t : Tsk) (s : List Int) (L : List (List Int)) (a b : List Nat) : foldP t s L (a ++ b) = foldP t s (foldP t s L a) b := by unfold foldP; rw [List.foldl_append]
theorem edgK_snoc (t : Tsk) (L : List (List Int)) (s : List Int) (i : Nat) (ks : List Nat) (k : Nat) : edgK t L s i (ks ++ [k]) = edgK t L s i ks ++ [⟨(i : Int), (k : Int), idxE L (sucN t s k)⟩] := by unfold edgK; rw [List.map_append]; rfl
theorem ex_inn {t : Tsk} (hs : Mid t) {x1 : Int} {i : Nat} {L : List (List Int)} {s : List Int} (hb : BL t L) (hcl : CloL t i L) (hlim : (L.length : Int) ≤ limE x1) (hi : L[i]? = some s) {reg : Reg} (hr : RegI t.vars reg L) :
    (∃ st, rng (ρ := Ctl XS XR) (fun (_ : Nat) (a228 : Suc) (s225 : XI) => exIn x1 (i : Int) a228 s225) ((appS t s).map (sucOf t s)) 0 (edgL t L i, reg) = some (.done st) ∧ st.1 = edgL t (expL t s L t.ops.length) (i + 1) ∧ RegI t.vars st.2 (expL t s L t.ops.length) ∧ ((expL t s L t.ops.length).length : Int) ≤ limE x1) ∨
    (rng (ρ := Ctl XS XR) (fun (_ : Nat) (a228 : Suc) (s225 : XI) => exIn x1 (i : Int) a228 s225) ((appS t s).map (sucOf t s)) 0 (edgL t L i, reg) = some (.ret (.ret (none, ⟨10⟩))) ∧ limE x1 < ((expL t s L t.ops.length).length : Int)) := by
  have hmem := List.mem_of_getElem? hi
  have hsok := hb.ok hs.ok hmem
  have hil := lt_of_get hi
  have hf0 := hb.few hs
  have hap : (appS t s).map (sucOf t s) = (appN t s t.ops.length).map fun k : Nat => (⟨(k : Int), sucN t s k⟩ : Suc) := by
    rw [appS_ok hsok, appl_N, List.map_map]; rfl
  rw [hap]
  have hel := edgL_len t L i
  have hib : i * t.ops.length ≤ 600 * 80 := Nat.mul_le_mul (by omega) hs.ops
  rcases rng_inv (ρ := Ctl XS XR) (f := fun (_ : Nat) (a228 : Suc) (s225 : XI) => exIn x1 (i : Int) a228 s225) (xs := (appN t s t.ops.length).map fun k : Nat => (⟨(k : Int), sucN t s k⟩ : Suc)) (s₀ := (edgL t L i, reg))
    (fun j y => y.1 = edgL t L i ++ edgK t (foldP t s L ((appN t s t.ops.length).take j)) s i ((appN t s t.ops.length).take j) ∧ RegI t.vars y.2 (foldP t s L ((appN t s t.ops.length).take j)) ∧ ((foldP t s L ((appN t s t.ops.length).take j)).length : Int) ≤ limE x1)
    (fun r => r = .ret (none, ⟨10⟩) ∧ limE x1 < ((expL t s L t.ops.length).length : Int))
    ⟨by simp [edgK], by simpa [foldP] using hr, by simpa [foldP] using hlim⟩ (fun j a y hj hI => by
      obtain ⟨y1, y2, y3⟩ := hI
      obtain ⟨es, reg'⟩ := y
      dsimp only at y1 y2 y3
      rw [List.getElem?_map] at hj
      obtain ⟨k, hk, rfl⟩ := Option.map_eq_some_iff.1 hj
      obtain ⟨hka, hkl⟩ := appN_all (List.mem_of_getElem? hk)
      have hjl := lt_of_get hk
      have hal := appN_len t s t.ops.length
      have hops := hs.ops
      obtain ⟨A, hA⟩ := foldP_pre t s ((appN t s t.ops.length).take j) L
      have hB : BL t (foldP t s L ((appN t s t.ops.length).take j)) := hb.fold hmem fun q hq => (appN_all (List.mem_of_mem_take hq)).1
      have hf := hB.few hs
      obtain ⟨o, ho, hpre, hsu⟩ := appB_some hka
      have hsk : StateOk t.vars (sucN t s k) := by rw [hsu]; exact succ_ok hs.ok hsok ho
      have hek : (edgK t (foldP t s L ((appN t s t.ops.length).take j)) s i ((appN t s t.ops.length).take j)).length ≤ j := by unfold edgK; rw [List.length_map, List.length_take]; omega
      have htk : (appN t s t.ops.length).take (j + 1) = (appN t s t.ops.length).take j ++ [k] := by rw [List.take_add_one, hk]; rfl
      have hlen : es.length ≤ 60000 := by rw [y1, List.length_append]; omega
      unfold exIn
      dsimp only
      rcases regAdd_eq hs.ok.1 y2 hsk (by omega) with ⟨q, hq, hadd⟩ | ⟨hno, r', hadd, hr', hlk⟩
      · have hq2 := List.mem_of_getElem? hq
        rw [hadd, bnd_some, show m_errors_Is (⟨0⟩ : Err) (⟨10⟩ : Err) = some false from rfl, bnd_some]
        dsimp only
        rw [if_f, if_f, bnd_some, if_f, if_neg (by simp), appI_eq (by rw [List.length_singleton]; omega) (by rw [List.length_singleton]; omega), bnd_some]
        have hput : foldP t s L ((appN t s t.ops.length).take (j + 1)) = foldP t s L ((appN t s t.ops.length).take j) := by
          rw [htk, foldP_snoc]; unfold putL; rw [if_pos hq2]
        refine .inl ⟨_, rfl, ?_, ?_, ?_⟩
        · dsimp only
          rw [hput, htk, y1, List.append_assoc, edgK_snoc, idx_of hB.nodup hq]
        · rw [hput]; exact y2
        · rw [hput]; exact y3
      · have hnm : ¬ sucN t s k ∈ foldP t s L ((appN t s t.ops.length).take j) := fun hm => by
          obtain ⟨q, hq⟩ := List.getElem?_of_mem hm
          exact hno q hq
        have hput : foldP t s L ((appN t s t.ops.length).take (j + 1)) = foldP t s L ((appN t s t.ops.length).take j) ++ [sucN t s k] := by
          rw [htk, foldP_snoc]; unfold putL; rw [if_neg hnm]
        rw [hadd, bnd_some, show m_errors_Is (⟨0⟩ : Err) (⟨10⟩ : Err) = some false from rfl, bnd_some]
        dsimp only
        rw [if_f, if_t]
        by_cases hfull : max 0 (min x1 65536) ≤ ((foldP t s L ((appN t s t.ops.length).take j)).length : Int)
        · rw [if_pos hfull, bnd_some, if_t]
          refine .inr ⟨_, rfl, rfl, ?_⟩
          have he : expL t s L t.ops.length = foldP t s (foldP t s L ((appN t s t.ops.length).take (j + 1))) ((appN t s t.ops.length).drop (j + 1)) := by
            rw [← foldP_app, List.take_append_drop]; rfl
          obtain ⟨B, hB2⟩ := foldP_pre t s ((appN t s t.ops.length).drop (j + 1)) (foldP t s L ((appN t s t.ops.length).take (j + 1)))
          rw [he, hB2, hput]
          unfold limE at *
          simp only [List.length_append, List.length_singleton]
          omega
        · rw [if_neg hfull, bnd_some, if_f, if_neg (by simp), appI_eq (by rw [List.length_singleton]; omega) (by rw [List.length_singleton]; omega), bnd_some]
          refine .inl ⟨_, rfl, ?_, ?_, ?_⟩
          · dsimp only
            rw [hput, htk, y1, List.append_assoc, edgK_snoc, idxE_put hnm, edgK_pre fun q hq => foldP_mem t s _ L q hq]
          · rw [hput]; exact hr'
          · rw [hput]; unfold limE at *; simp only [List.length_append, List.length_singleton]; omega) with ⟨st, h1, h2, h3, h4⟩ | ⟨r, h1, h2, h3⟩
  · rw [List.length_map, List.take_length] at h2 h3 h4
    refine .inl ⟨st, h1, ?_, h3, h4⟩
    obtain ⟨A, hA⟩ := foldP_pre t s (appN t s t.ops.length) L
    have e : expL t s L t.ops.length = L ++ A := hA
    rw [h2, edgL_succ (s := s) (by rw [e, List.getElem?_append_left hil]; exact hi), e, edgL_pre (by omega) hcl, ← hA]
  · rw [h2] at h1
    exact .inr ⟨h1, h3⟩
theorem map_take {α β : Type} (f : α → β) (L : List α) {i : Nat} {s : α} (h : L[i]? = some s) : (L.take (i + 1)).map f = (L.take i).map f ++ [f s] := by rw [List.take_add_one, h, List.map_append]; rfl
theorem ex_bx {t : Tsk} (hs : Mid t) {x1 : Int} {i : Nat} {L : List (List Int)} {r : Option (List (List Int))} (h : Bx t (limE x1) i L r) : BL t L → CloL t i L → i ≤ L.length → (L.length : Int) ≤ limE x1 → ∀ reg, RegI t.vars reg L → ∃ x, bnd (lop (exF t x1 (some ⟨t⟩)) ((i : Int), edgL t L i, (L.take i).map (holdsB t.goal), reg)) (exE t) = some x ∧ outX t r x := by
  induction h with
  | @full i L h1 => intro _ _ _ h2; omega
  | @done i L h1 h2 =>
    intro hb hc hil _ reg hr
    have hf := hb.few hs
    obtain rfl : i = L.length := by omega
    have hE : EndL t (limE x1) L := ⟨hb, hc, h1⟩
    have hlen : m_registry_Registry_Len reg = some (L.length : Int) := by rw [← hr.len]; rfl
    rw [lop_eq]
    unfold exF
    dsimp only
    rw [hlen, bnd_some, if_neg (by omega)]
    dsimp only
    rw [bnd_some]
    unfold exE
    rw [fin_d, List.take_length]
    have hl0 := lt_of_get hb.root
    obtain ⟨x, m1, m2, m3⟩ := measure_eq hs.ok hf hl0 (x := ⟨⟨t.vars, t.init, t.goal, t.ops⟩, reg, edgL t L L.length, L.map (holdsB t.goal), [], [], []⟩) rfl hr.len (hE.edges hs) (by simp)
    rw [m1, bnd_some]
    exact ⟨_, rfl, x, rfl, by rw [m2]; exact hr, m3⟩
  | @step i L s r h1 h2 hx ih =>
    intro hb hc hil hlim reg hr
    have hf := hb.few hs
    have hlt := lt_of_get h2
    have hmem := List.mem_of_getElem? h2
    have hsok := hb.ok hs.ok hmem
    have hlen : m_registry_Registry_Len reg = some (L.length : Int) := by rw [← hr.len]; rfl
    have hg : (bnd (m_task_Holds t.goal s) fun q163 => if q163 = true then bnd (appI 1 ((L.take i).map (holdsB t.goal)) [true]) fun u195 => some u195 else bnd (appI 1 ((L.take i).map (holdsB t.goal)) [false]) fun u176 => some u176) = some ((L.take (i + 1)).map (holdsB t.goal)) := by
      rw [show m_task_Holds t.goal s = some (holdsB t.goal s) from rfl, bnd_some, map_take _ L h2]
      cases holdsB t.goal s with
      | true => rw [if_t, appI_eq (by rw [List.length_map, List.length_take, List.length_singleton]; omega) (by rw [List.length_map, List.length_take, List.length_singleton]; omega), bnd_some]
      | false => rw [if_f, appI_eq (by rw [List.length_map, List.length_take, List.length_singleton]; omega) (by rw [List.length_map, List.length_take, List.length_singleton]; omega), bnd_some]
    rw [lop_eq]
    unfold exF
    dsimp only
    rw [hlen, bnd_some, if_pos (by omega), regState_eq hs.ok.1 hr h2, bnd_some, if_neg (by simp)]
    dsimp only
    rw [hg, bnd_some, succ_eq hs.ok (by rw [hsok.1]; have := hs.ok.1; omega), bnd_some]
    rcases ex_inn hs hb hc hlim h2 hr with ⟨st, e1, e2, e3, e4⟩ | ⟨e1, e2⟩
    · rw [e1, bnd_some, fin_d, chkI_eq (by unfold inI64; omega), bnd_some]
      dsimp only
      obtain ⟨A, hA⟩ := foldP_pre t s (appN t s t.ops.length) L
      have e : expL t s L t.ops.length = L ++ A := hA
      have hb2 := hb.exp hmem t.ops.length
      have hc2 := hc.exp h2
      have := ih hb2 hc2 (by rw [e, List.length_append]; omega) e4 st.2 e3
      rw [e2]
      rw [e, List.take_append_of_le_length (by omega)] at this
      rw [e]
      exact this
    · rw [e1, bnd_some, fin_r]
      dsimp only
      rw [bnd_some]
      cases hx with
      | full _ => exact ⟨_, rfl, rfl⟩
      | done h3 _ => omega
      | step h3 _ _ => omega
theorem explore_eq {t : Tsk} (hs : Mid t) (lim : Int) {r : Option (List (List Int))} (h : Bx t (limE lim) 0 [t.init] r) : ∃ x, m_explore_Explore t lim = some x ∧ outX t r x := by
  have hok := hs.ok
  obtain ⟨q, hq, reg, rfl, hr, hlk⟩ := regNew_eq hok.1 hok.2.2.1
  rw [ex_unf, new_ok hok, bnd_some, if_neg (by simp), hq, bnd_some, if_neg (by simp)]
  dsimp only
  by_cases hl : limE lim < 1
  · unfold limE at hl
    rw [if_pos hl]
    cases h with
    | full _ => exact ⟨_, rfl, rfl⟩
    | done h3 _ => unfold limE at h3; simp at h3; omega
    | step h3 _ _ => unfold limE at h3; simp at h3; omega
  · have hl' := hl
    unfold limE at hl
    rw [if_neg hl, bnd_some]
    rcases regAdd_eq hok.1 hr hok.2.2.2.1 (by simp) with ⟨i, hi, _⟩ | ⟨_, r', hadd, hr', _⟩
    · simp at hi
    · rw [hadd, bnd_some, if_neg (by simp), copied_eq hok, bnd_some]
      exact ex_bx hs h (bl_init t) (fun j s k hj => by omega) (by simp) (by simp; omega) r' hr'
end
section
set_option linter.unusedVariables false
set_option linter.unusedSimpArgs false
open Go Go.RowKit
attribute [local irreducible] ewp owp hwp hwq hws Ev Evg Fn retPost loud loudS Res1
attribute [local irreducible] hwx loudX
noncomputable def m_law25_awake  : Option Bool :=
  bnd (m_explore_Explore (⟨([2] : List Int), ([0] : List Int), ([] : List Fct), [(⟨(⟨#[]⟩ : ByteArray), 0, ([] : List Fct), [(⟨([] : List Fct), 0, 1⟩ : Eff)]⟩ : Opr)]⟩ : Tsk) 5) fun q33 => bnd (if q33.2.n = 0 then (if q33.1.isNone = false then (bnd q33.1 fun o53 => bnd (m_explore_Space_Len o53) fun q57 => if q57 = 2 then (some true) else (some false)) else (some false)) else (some false) : Option Bool) fun y47 => some y47
theorem c_law25_awake {w : World} {A : Nat → Prop} (hA : ∀ k, A k → k < w.heap.size)  {r : Bool} (hm : m_law25_awake  = some r) :
    Fn Tryz.prog 11 [] w fun v w' => Ext w w' ∧ Vb w' (upA A w w') v r := by
 obtain ⟨O, hB, hA0⟩ := enter hA
 refine fn_enter Tryz.func11 rfl Tryz.ntmps11 rfl ?_
 unfold m_law25_awake at hm
 refine ewp_seq (ewp_region (o_as rfl rfl (o_z ?_)))
 refine ewp_seq (ewp_region (l_bslice 2 (by decide) O (xs := (([2] : List Int) : List Int)) rfl rfl rfl rfl ⟨(vInt (show inI64 (2) from by decide)), trivial⟩ (by decide) (by decide) rfl fun g1 w2 O3 S4 h5 => ?_))
 refine l_bslice 3 (by decide) O3 (xs := (([0] : List Int) : List Int)) rfl rfl rfl rfl ⟨(vInt (show inI64 (0) from by decide)), trivial⟩ (by decide) (by decide) rfl fun g7 w8 O9 S10 h11 => ?_
 refine o_bd rfl rfl rfl ?_
 refine l_bslice 4 (by decide) O9 (xs := ([(⟨([] : List Fct), 0, 1⟩ : Eff)] : List Eff)) rfl rfl rfl rfl ⟨(Vb.ofAgg (cs := [(.slice none 0 0), (.int .i64 0), (.int .i64 1)]) (x := (⟨([] : List Fct), 0, 1⟩ : Eff)) rfl ⟨_, rfl, (Vb.nil _ _), (show inI64 (0) from by decide), (show inI64 (1) from by decide)⟩), trivial⟩ (by decide) (by decide) rfl fun g13 w14 O15 S16 h17 => ?_
 refine o_bd rfl rfl rfl ?_
 obtain ⟨O19, S20, h17⟩ := h17.freeze
 refine l_bslice 5 (by decide) O19 (xs := ([(⟨(⟨#[]⟩ : ByteArray), 0, ([] : List Fct), [(⟨([] : List Fct), 0, 1⟩ : Eff)]⟩ : Opr)] : List Opr)) rfl rfl rfl rfl ⟨(Vb.ofAgg (cs := [(.string (⟨#[]⟩ : ByteArray)), (.int .i64 0), (.slice none 0 0), (.slice (some ⟨g13, 0, none⟩) [(⟨([] : List Fct), 0, 1⟩ : Eff)].length 1)]) (x := (⟨(⟨#[]⟩ : ByteArray), 0, ([] : List Fct), [(⟨([] : List Fct), 0, 1⟩ : Eff)]⟩ : Opr)) rfl ⟨_, _, rfl, (Vb.nil _ _), h17, (show inI64 0 from by decide), (show (⟨#[]⟩ : ByteArray).size ≤ 9223372036854775807 from by decide)⟩), trivial⟩ (by decide) (by decide) rfl fun g21 w22 O23 S24 h25 => ?_
 refine o_bd rfl rfl rfl ?_
 replace h5 := (((h5.st S10).st S16).st S20).st S24
 obtain ⟨O27, S28, h5⟩ := h5.freeze
 replace h11 := (((h11.st S16).st S20).st S24).st S28
 obtain ⟨O29, S30, h11⟩ := h11.freeze
 replace h25 := (h25.st S28).st S30
 obtain ⟨O31, S32, h25⟩ := h25.freeze
 obtain ⟨q33, e34, hm⟩ := bs hm
 replace h5 := (h5.st S30).st S32
 replace h11 := h11.st S32
 refine l_callM (O := O31) (c_explore_Explore (Vb.ofAgg (cs := [(.slice (some ⟨g1, 0, none⟩) ([2] : List Int).length 1), (.slice (some ⟨g7, 0, none⟩) ([0] : List Int).length 1), (.slice none 0 0), (.slice (some ⟨g21, 0, none⟩) [(⟨(⟨#[]⟩ : ByteArray), 0, ([] : List Fct), [(⟨([] : List Fct), 0, 1⟩ : Eff)]⟩ : Opr)].length 1)]) (x := (⟨([2] : List Int), ([0] : List Int), ([] : List Fct), [(⟨(⟨#[]⟩ : ByteArray), 0, ([] : List Fct), [(⟨([] : List Fct), 0, 1⟩ : Eff)]⟩ : Opr)]⟩ : Tsk)) rfl ⟨_, _, _, _, rfl, h5, h11, (Vb.nil _ _), h25⟩) (show inI64 (5) from by decide) 6 (by decide) e34) rfl rfl fun v39 w35 O36 S37 h38 => ?_
 obtain ⟨v40, v41, rfl, h42, h43⟩ := h38
 obtain ⟨p44, rfl, hq45⟩ := Obo.ptrq h42
 obtain ⟨rfl, r46⟩ := h43.err
 refine o_mv rfl rfl (o_ex rfl rfl rfl (o_ex rfl rfl rfl (o_as rfl rfl (o_as rfl rfl (o_z ?_)))))
 refine ewp_seq ?_
 obtain ⟨y47, hy48, hm⟩ := bs hm
 refine ewp_join (fun l' w' => ∃ (x50 : Unit) (O' : Lab), subs l' [(0, (.bool y47))] ∧ Bs w A w' O') ?_ ?_
 ·
  refine ewp_region (o_mv rfl rfl (o_erS rfl rfl (fun c51 => ?_) fun c51 => ?_))
  ·
   replace hy48 := ip hy48 c51
   refine o_mv rfl rfl (owp_yes rfl rfl (o_mv rfl rfl (owp_yes rfl rfl (o_pqS hq45 rfl rfl (fun c52 => ?_) fun c52 => ?_))))
   ·
    replace hy48 := ip hy48 c52
    refine o_pt rfl rfl rfl (o_mv rfl rfl (owp_yes rfl rfl (o_mv rfl rfl (owp_yes rfl rfl ?_))))
    obtain ⟨o53, e54, hy48⟩ := bs hy48
    rw [e54] at h42
    obtain ⟨p55, h56⟩ := Ob.ptr h42
    obtain rfl := ptr_inj h56
    obtain ⟨q57, e58, hy48⟩ := bs hy48
    refine l_callM (O := O36) (c_explore_Space_Len h42 e58) rfl rfl fun v63 w59 O60 S61 h62 => ?_
    obtain ⟨h64, h65⟩ := h62
    obtain ⟨rfl, r66⟩ := h65.int
    refine owp_yes rfl rfl (o_eeS rfl rfl rfl (fun c67 => ?_) fun c67 => ?_)
    ·
     replace hy48 := ip hy48 c67
     refine o_pt rfl rfl rfl (o_as rfl rfl (o_z ?_))
     obtain rfl := sm hy48
     replace hB := (((((((((hB.st S4).st S10).st S16).st S20).st S24).st S28).st S30).st S32).st S37).st S61
     exact ⟨(), _, ⟨rfl, trivial⟩, hB⟩
    replace hy48 := im hy48 c67
    refine o_pt rfl rfl rfl (o_as rfl rfl (o_z ?_))
    obtain rfl := sm hy48
    replace hB := (((((((((hB.st S4).st S10).st S16).st S20).st S24).st S28).st S30).st S32).st S37).st S61
    exact ⟨(), _, ⟨rfl, trivial⟩, hB⟩
   replace hy48 := im hy48 c52
   refine o_pt rfl rfl rfl (o_mv rfl rfl (owp_no rfl rfl rfl rfl (owp_no rfl rfl rfl rfl (owp_no rfl rfl rfl rfl (o_pf rfl rfl rfl (o_as rfl rfl (o_z ?_)))))))
   obtain rfl := sm hy48
   replace hB := ((((((((hB.st S4).st S10).st S16).st S20).st S24).st S28).st S30).st S32).st S37
   exact ⟨(), _, ⟨rfl, trivial⟩, hB⟩
  replace hy48 := im hy48 c51
  refine o_mv rfl rfl (owp_no rfl rfl rfl rfl (owp_no rfl rfl rfl rfl (o_pf rfl rfl rfl (o_mv rfl rfl (owp_no rfl rfl rfl rfl (owp_no rfl rfl rfl rfl (owp_no rfl rfl rfl rfl (o_pf rfl rfl rfl (o_as rfl rfl (o_z ?_))))))))))
  obtain rfl := sm hy48
  replace hB := ((((((((hB.st S4).st S10).st S16).st S20).st S24).st S28).st S30).st S32).st S37
  exact ⟨(), _, ⟨rfl, trivial⟩, hB⟩
 replace hB := ((((((((hB.st S4).st S10).st S16).st S20).st S24).st S28).st S30).st S32).st S37
 rintro l68 w69 ⟨x50, O70, hs71, hB⟩
 refine ewp_sub _ hs71 ?_
 refine ewp_ret ?_
 obtain rfl := sm hm
 exact ret1v rfl (res_tmp rfl) ⟨hB.ext, vBool⟩
noncomputable def m_law25_ExploreStates (x0 : Tsk) (x1 : Int) : Option Bool :=
  bnd (bnd (m_base_Small x0) fun q29 => if q29 = true then bnd (m_law25_awake) fun q36 => if q36 = true then some false else some true else some true : Option Bool) fun y25 => if y25 = true then (bnd (bnd (m_law25_awake) fun q52 => if q52 = true then some true else some false : Option Bool) fun y48 => some y48) else (bnd (m_explore_Explore x0 x1) fun q63 => bnd (m_ref25_States x0 x1) fun q77 => if (!q77.2) = true then (bnd (if q63.1.isNone = true then (bnd (m_base_Is (⟨q63.2.n⟩ : Err) 10) fun q96 => if q96 = true then some true else some false) else (some false) : Option Bool) fun y91 => some y91) else (bnd (if q63.2.n ≠ 0 then (some true) else (bnd q63.1 fun o113 => bnd (m_explore_Space_Len o113) fun q117 => if q117 ≠ (q77.1.length : Int) then (some true) else (some false)) : Option Bool) fun y107 => if y107 = true then (some false) else (bnd q63.1 fun o139 => bnd (rng (ρ := Bool) (fun (k147 : Nat) (a148 : List Int) (s145 : Unit) => bnd (m_explore_Space_State o139 (k147 : Int)) fun q158 => bnd (m_explore_Space_Find o139 a148) fun q184 => bnd (if q158.2.n ≠ 0 then (some true) else (if q184.2.n ≠ 0 then (some true) else (bnd (m_base_Ints q158.1 a148) fun q215 => if q215 = true then if q184.1 ≠ (k147 : Int) then (some true) else (some false) else some true)) : Option Bool) fun y198 => if y198 = true then (some (.ret false)) else (some (.next ()))) q77.1 0 ()) fun res143 => fin res143 fun (s232 : Unit) => bnd (m_explore_Space_State o139 (q77.1.length : Int)) fun q236 => bnd (m_explore_Space_State o139 (-1)) fun q251 => bnd (bnd (m_base_Is (⟨q236.2.n⟩ : Err) 1) fun q270 => if q270 = true then bnd (m_base_Is (⟨q251.2.n⟩ : Err) 1) fun q277 => if q277 = true then some true else some false else some false : Option Bool) fun y266 => some y266)))
theorem c_law25_ExploreStates {w : World} {A : Nat → Prop} (hA : ∀ k, A k → k < w.heap.size) {vx0 : Value} {x0 : Tsk} (hx0 : Vb w A vx0 x0) {x1 : Int} (rx1 : inI64 x1) {r : Bool} (hm : m_law25_ExploreStates x0 x1 = some r) :
    Fn Tryz.prog 4 [vx0, (.int .i64 x1)] w fun v w' => Ext w w' ∧ Vb w' (upA A w w') v r := by
 obtain ⟨O, hB, hA0⟩ := enter hA
 replace hx0 := hx0.mono hA0
 obtain ⟨cs3, rfl, v4, v5, v6, v7, rfl, h8, h11, h14, h17⟩ := hx0
 obtain ⟨A9, c10, rfl⟩ := h8.form
 obtain ⟨A12, c13, rfl⟩ := h11.form
 obtain ⟨A15, c16, rfl⟩ := h14.form
 obtain ⟨A18, c19, rfl⟩ := h17.form
 refine fn_enter Tryz.func4 rfl Tryz.ntmps4 rfl ?_
 unfold m_law25_ExploreStates at hm
 refine ewp_seq (ewp_region (l_box 2 O rfl rfl fun g20 w21 O22 S23 h24 => ?_))
 replace h24 : Lc 2 w21 O22 g20 26 [(.slice A9 x0.vars.length c10), (.slice A12 x0.init.length c13), (.slice A15 x0.goal.length c16), (.slice A18 x0.ops.length c19)] := h24
 refine o_as rfl rfl (o_z ?_)
 refine ewp_seq (ewp_seq ?_)
 obtain ⟨y25, hy26, hm⟩ := bs hm
 refine ewp_join (fun l' w' => ∃ (x28 : Unit) (O' : Lab), subs l' [(1, (.int .i64 x1)), (2, (.pointer (some ⟨g20, 0, none⟩))), (22, (.bool y25))] ∧ Bs w A w' O' ∧ Lc 2 w' O' g20 26 [(.slice A9 x0.vars.length c10), (.slice A12 x0.init.length c13), (.slice A15 x0.goal.length c16), (.slice A18 x0.ops.length c19)] ∧ Vb w' (Fr 0 w' O') (.slice A9 x0.vars.length c10) x0.vars ∧ Vb w' (Fr 0 w' O') (.slice A12 x0.init.length c13) x0.init ∧ Vb w' (Fr 0 w' O') (.slice A15 x0.goal.length c16) x0.goal ∧ Vb w' (Fr 0 w' O') (.slice A18 x0.ops.length c19) x0.ops) ?_ ?_
 ·
  refine ewp_region (o_la (hl := rfl) (hc := (h24.1).cellsAt) rfl rfl ?_)
  obtain ⟨q29, e30, hy26⟩ := bs hy26
  replace h8 := h8.st S23
  replace h11 := h11.st S23
  replace h14 := h14.st S23
  replace h17 := h17.st S23
  refine l_callA (O := O22) (A := All w21) (R := fun w' F v => Vb w' F v q29) (c_base_Small (fun _ h => h) (Vb.mono (F := Fr 0 w21 O22) (Vb.ofAgg (cs := [(.slice A9 x0.vars.length c10), (.slice A12 x0.init.length c13), (.slice A15 x0.goal.length c16), (.slice A18 x0.ops.length c19)]) (x := x0) rfl ⟨_, _, _, _, rfl, h8, h11, h14, h17⟩) Fr.lt) e30) rfl rfl fun v35 w31 O32 S33 h34 => ?_
  obtain rfl := h34.bool
  cases q29
  case false =>
   replace hy26 := iF hy26
   refine o_nf rfl rfl (o_mv rfl rfl (owp_no rfl rfl rfl rfl (owp_no rfl rfl rfl rfl (o_pt rfl rfl rfl (o_z ?_)))))
   obtain rfl := sm hy26
   replace hB := (hB.st S23).st S33
   replace h8 := h8.st S33
   replace h11 := h11.st S33
   replace h14 := h14.st S33
   replace h17 := h17.st S33
   replace h24 := h24.st S33
   exact ⟨(), _, ⟨rfl, rfl, rfl, trivial⟩, hB, h24, h8, h11, h14, h17⟩
  replace hy26 := iT hy26
  refine o_nt rfl rfl (o_mv rfl rfl (owp_yes rfl rfl ?_))
  obtain ⟨q36, e37, hy26⟩ := bs hy26
  refine l_callA (O := O32) (A := All w31) (R := fun w' F v => Vb w' F v q36) (c_law25_awake (fun _ h => h)  e37) rfl rfl fun v42 w38 O39 S40 h41 => ?_
  obtain rfl := h41.bool
  cases q36
  case false =>
   replace hy26 := iF hy26
   refine owp_yes rfl rfl (o_nf rfl rfl (o_pf rfl rfl rfl (o_z ?_)))
   obtain rfl := sm hy26
   replace hB := ((hB.st S23).st S33).st S40
   replace h8 := (h8.st S33).st S40
   replace h11 := (h11.st S33).st S40
   replace h14 := (h14.st S33).st S40
   replace h17 := (h17.st S33).st S40
   replace h24 := (h24.st S33).st S40
   exact ⟨(), _, ⟨rfl, rfl, rfl, trivial⟩, hB, h24, h8, h11, h14, h17⟩
  replace hy26 := iT hy26
  refine owp_yes rfl rfl (o_nt rfl rfl (o_pf rfl rfl rfl (o_z ?_)))
  obtain rfl := sm hy26
  replace hB := ((hB.st S23).st S33).st S40
  replace h8 := (h8.st S33).st S40
  replace h11 := (h11.st S33).st S40
  replace h14 := (h14.st S33).st S40
  replace h17 := (h17.st S33).st S40
  replace h24 := (h24.st S33).st S40
  exact ⟨(), _, ⟨rfl, rfl, rfl, trivial⟩, hB, h24, h8, h11, h14, h17⟩
 replace hB := hB.st S23
 replace h8 := h8.st S23
 replace h11 := h11.st S23
 replace h14 := h14.st S23
 replace h17 := h17.st S23
 rintro l43 w44 ⟨x28, O45, hs46, hB, h24, h8, h11, h14, h17⟩
 refine ewp_sub _ hs46 ?_
 refine ewp_cond rfl (fun c47 => ?_) (fun c47 => ?_)
 ·
  replace hm := ip hm c47
  refine ewp_seq ?_
  obtain ⟨y48, hy49, hm⟩ := bs hm
  refine ewp_join (fun l' w' => ∃ (x51 : Unit) (O' : Lab), subs l' [(4, (.bool y48))] ∧ Bs w A w' O') ?_ ?_
  ·
   refine ewp_region ?_
   obtain ⟨q52, e53, hy49⟩ := bs hy49
   refine l_callA (O := O45) (A := All w44) (R := fun w' F v => Vb w' F v q52) (c_law25_awake (fun _ h => h)  e53) rfl rfl fun v58 w54 O55 S56 h57 => ?_
   obtain rfl := h57.bool
   cases q52
   case false =>
    replace hy49 := iF hy49
    refine o_as rfl rfl (o_z ?_)
    obtain rfl := sm hy49
    replace hB := hB.st S56
    exact ⟨(), _, ⟨rfl, trivial⟩, hB⟩
   replace hy49 := iT hy49
   refine o_as rfl rfl (o_z ?_)
   obtain rfl := sm hy49
   replace hB := hB.st S56
   exact ⟨(), _, ⟨rfl, trivial⟩, hB⟩
  rintro l59 w60 ⟨x51, O61, hs62, hB⟩
  refine ewp_sub _ hs62 ?_
  refine ewp_ret ?_
  obtain rfl := sm hm
  exact ret1v rfl (res_tmp rfl) ⟨hB.ext, vBool⟩
 replace hm := im' hm c47
 refine ewp_skip (ewp_seq (ewp_region (o_la (hl := rfl) (hc := (h24.1).cellsAt) rfl rfl ?_)))
 refine o_mv rfl rfl ?_
 obtain ⟨q63, e64, hm⟩ := bs hm
 refine l_callM (O := O45) (c_explore_Explore (Vb.ofAgg (cs := [(.slice A9 x0.vars.length c10), (.slice A12 x0.init.length c13), (.slice A15 x0.goal.length c16), (.slice A18 x0.ops.length c19)]) (x := x0) rfl ⟨_, _, _, _, rfl, h8, h11, h14, h17⟩) rx1 3 (by decide) e64) rfl rfl fun v69 w65 O66 S67 h68 => ?_
 obtain ⟨v70, v71, rfl, h72, h73⟩ := h68
 obtain ⟨p74, rfl, hq75⟩ := Obo.ptrq h72
 obtain ⟨rfl, r76⟩ := h73.err
 refine o_mv rfl rfl (o_ex rfl rfl rfl (o_ex rfl rfl rfl (o_as rfl rfl (o_as rfl rfl (o_z ?_)))))
 refine ewp_seq (ewp_region ?_)
 replace h24 := h24.st S67
 refine o_la (hl := rfl) (hc := (h24.1).cellsAt) rfl rfl ?_
 refine o_mv rfl rfl ?_
 obtain ⟨q77, e78, hm⟩ := bs hm
 replace h8 := h8.st S67
 replace h11 := h11.st S67
 replace h14 := h14.st S67
 replace h17 := h17.st S67
 refine l_call (O := O66) (R := fun w' F v => T2 w' F v q77) (c_ref25_States Fr.lt (Vb.ofAgg (cs := [(.slice A9 x0.vars.length c10), (.slice A12 x0.init.length c13), (.slice A15 x0.goal.length c16), (.slice A18 x0.ops.length c19)]) (x := x0) rfl ⟨_, _, _, _, rfl, h8, h11, h14, h17⟩) rx1 e78) rfl rfl fun v83 w79 O80 S81 h82 => ?_
 obtain ⟨v84, v85, rfl, h86, h87⟩ := h82
 obtain ⟨A88, c89, rfl⟩ := h86.form
 obtain rfl := h87.bool
 refine o_mv rfl rfl (o_ex rfl rfl rfl (o_ex rfl rfl rfl (o_as rfl rfl (o_as rfl rfl (o_z ?_)))))
 refine ewp_seq (ewp_seq (ewp_region (o_mv rfl rfl (o_nn rfl rfl (o_z ?_)))))
 refine ewp_cond rfl (fun c90 => ?_) (fun c90 => ?_)
 ·
  replace hm := ip hm c90
  refine ewp_seq ?_
  obtain ⟨y91, hy92, hm⟩ := bs hm
  refine ewp_join (fun l' w' => ∃ (x94 : Unit) (O' : Lab), subs l' [(4, (.bool y91))] ∧ Bs w A w' O') ?_ ?_
  ·
   refine ewp_region (o_mv rfl rfl (o_pnS hq75 rfl rfl (fun c95 => ?_) fun c95 => ?_))
   ·
    replace hy92 := ip hy92 c95
    refine o_mv rfl rfl (owp_yes rfl rfl (o_mv rfl rfl (owp_yes rfl rfl ?_)))
    obtain ⟨q96, e97, hy92⟩ := bs hy92
    refine l_callA (O := O80) (A := All w79) (R := fun w' F v => Vb w' F v q96) (c_base_Is (fun _ h => h) r76 (show inI64 (10) from by decide) e97) rfl rfl fun v102 w98 O99 S100 h101 => ?_
    obtain rfl := h101.bool
    cases q96
    case false =>
     replace hy92 := iF hy92
     refine o_pt rfl rfl rfl (o_as rfl rfl (o_z ?_))
     obtain rfl := sm hy92
     replace hB := ((hB.st S67).st S81).st S100
     exact ⟨(), _, ⟨rfl, trivial⟩, hB⟩
    replace hy92 := iT hy92
    refine o_pt rfl rfl rfl (o_as rfl rfl (o_z ?_))
    obtain rfl := sm hy92
    replace hB := ((hB.st S67).st S81).st S100
    exact ⟨(), _, ⟨rfl, trivial⟩, hB⟩
   replace hy92 := im hy92 c95
   refine o_mv rfl rfl (owp_no rfl rfl rfl rfl (owp_no rfl rfl rfl rfl (o_pf rfl rfl rfl (o_as rfl rfl (o_z ?_)))))
   obtain rfl := sm hy92
   replace hB := (hB.st S67).st S81
   exact ⟨(), _, ⟨rfl, trivial⟩, hB⟩
  replace hB := (hB.st S67).st S81
  rintro l103 w104 ⟨x94, O105, hs106, hB⟩
  refine ewp_sub _ hs106 ?_
  refine ewp_ret ?_
  obtain rfl := sm hm
  exact ret1v rfl (res_tmp rfl) ⟨hB.ext, vBool⟩
 replace hm := im' hm c90
 refine ewp_skip (ewp_seq (ewp_seq ?_))
 obtain ⟨y107, hy108, hm⟩ := bs hm
 refine ewp_join (fun l' w' => ∃ (x110 : Unit) (O' : Lab), subs l' [(5, (.pointer p74)), (7, (.slice A88 q77.1.length c89)), (52, (.bool y107))] ∧ Bs w A w' O' ∧ Obo 3 w' O' (.pointer p74) q63.1 ∧ Vb w' (Fr 0 w' O') (.slice A88 q77.1.length c89) q77.1) ?_ ?_
 ·
  refine ewp_region (o_mv rfl rfl (o_rnS rfl rfl (fun c112 => ?_) fun c112 => ?_))
  ·
   replace hy108 := ip hy108 c112
   refine o_mv rfl rfl (owp_no rfl rfl rfl rfl (owp_no rfl rfl rfl rfl (owp_no rfl rfl rfl rfl (owp_no rfl rfl rfl rfl (owp_no rfl rfl rfl rfl (o_pt rfl rfl rfl (o_z ?_)))))))
   obtain rfl := sm hy108
   replace hB := (hB.st S67).st S81
   replace h72 := h72.st S81
   exact ⟨(), _, ⟨rfl, rfl, rfl, trivial⟩, hB, h72, h86⟩
  replace hy108 := im hy108 c112
  refine o_mv rfl rfl (owp_yes rfl rfl (o_mv rfl rfl (owp_yes rfl rfl ?_)))
  obtain ⟨o113, e114, hy108⟩ := bs hy108
  replace h72 := h72.st S81
  rw [e114] at h72
  obtain ⟨p115, h116⟩ := Ob.ptr h72
  obtain rfl := ptr_inj h116
  obtain ⟨q117, e118, hy108⟩ := bs hy108
  refine l_callM (O := O80) (c_explore_Space_Len h72 e118) rfl rfl fun v123 w119 O120 S121 h122 => ?_
  obtain ⟨h124, h125⟩ := h122
  obtain ⟨rfl, r126⟩ := h125.int
  refine owp_yes rfl rfl (o_mv rfl rfl (owp_yes rfl rfl (o_ln rfl rfl ?_)))
  replace h86 := h86.st S121
  have l128 : q77.1.length ≤ 9223372036854775807 := Nat.le_trans h86.len.2.1 h86.len.2.2
  have r127 : inI64 (q77.1.length : Int) := rngNat l128
  refine owp_yes rfl rfl (o_neS rfl rfl rfl (fun c129 => ?_) fun c129 => ?_)
  ·
   replace hy108 := ip hy108 c129
   refine o_pf rfl rfl rfl (o_z ?_)
   have h130 := Obo.back h124 e114
   obtain rfl := sm hy108
   replace hB := ((hB.st S67).st S81).st S121
   exact ⟨(), _, ⟨rfl, rfl, rfl, trivial⟩, hB, h130, h86⟩
  replace hy108 := im hy108 c129
  refine o_pf rfl rfl rfl (o_z ?_)
  have h131 := Obo.back h124 e114
  obtain rfl := sm hy108
  replace hB := ((hB.st S67).st S81).st S121
  exact ⟨(), _, ⟨rfl, rfl, rfl, trivial⟩, hB, h131, h86⟩
 replace hB := (hB.st S67).st S81
 rintro l132 w133 ⟨x110, O134, hs135, hB, h111, h86⟩
 refine ewp_sub _ hs135 ?_
 refine ewp_cond rfl (fun c136 => ?_) (fun c136 => ?_)
 ·
  replace hm := ip hm c136
  refine ewp_seq (ewp_region (o_as rfl rfl (o_z ?_)))
  refine ewp_ret ?_
  obtain rfl := sm hm
  exact ret1v rfl (res_tmp rfl) ⟨hB.ext, vBool⟩
 replace hm := im' hm c136
 refine ewp_skip (ewp_seq (ewp_seq (ewp_region (o_mv rfl rfl (o_ln rfl rfl ?_)))))
 have l138 : q77.1.length ≤ 9223372036854775807 := Nat.le_trans h86.len.2.1 h86.len.2.2
 have r137 : inI64 (q77.1.length : Int) := rngNat l138
 refine o_mv rfl rfl (o_z ?_)
 obtain ⟨o139, e140, hm⟩ := bs hm
 rw [e140] at h111
 obtain ⟨p141, h142⟩ := Ob.ptr h111
 obtain rfl := ptr_inj h142
 obtain ⟨res143, hL144, hm⟩ := bs hm
 refine ewp_join (aft res143 (fun (s145 : Unit) (x146 : Unit) => [(5, (.pointer (some ⟨p141, 0, none⟩))), (7, (.slice A88 q77.1.length c89))]) (fun s145 x146 w' => ∃ O' : Lab, Bs w A w' O' ∧ Ob 3 w' O' (.pointer (some ⟨p141, 0, none⟩)) o139 ∧ Vb w' (Fr 0 w' O') (.slice A88 q77.1.length c89) q77.1)) ?_ ?_
 ·
  refine ewp_block (ewp_rng (σ := Unit) (X := Unit) (q77.1.length) hL144 rfl l138 (fun (s145 : Unit) (x146 : Unit) => [(5, (.pointer (some ⟨p141, 0, none⟩))), (7, (.slice A88 q77.1.length c89))]) _ (fun s145 x146 w' => ∃ O' : Lab, Bs w A w' O' ∧ Ob 3 w' O' (.pointer (some ⟨p141, 0, none⟩)) o139 ∧ Vb w' (Fr 0 w' O') (.slice A88 q77.1.length c89) q77.1) _ () ⟨O134, hB, h111, h86⟩ ⟨rfl, rfl, rfl, rfl, trivial⟩ (fun _ _ => ⟨rfl, rfl⟩) (fun _ _ => ⟨rfl, rfl, trivial⟩) (fun _ _ _ ⟨O', hB, h111, h86⟩ => ⟨O', hB, h111, h86⟩) ⟨rfl, rfl, rfl⟩ ⟨rfl, rfl⟩ ?_)
  rintro k147 a148 s145 x146 w149 cc151 hx152 ⟨O150, hB, h111, h86⟩ hf153 hret154 hbrk155
  have rk147 : inI64 (k147 : Int) := rngK hx152 l138
  refine ewp_seq (ewp_region (o_mv rfl rfl (o_as rfl rfl (o_z ?_))))
  refine ewp_seq (ewp_region (o_mv rfl rfl (o_mv rfl rfl ?_)))
  obtain ⟨q158, e159, hf153⟩ := bs hf153
  refine l_callM (O := O150) (c_explore_Space_State h111 rk147 e159) rfl rfl fun v164 w160 O161 S162 h163 => ?_
  obtain ⟨v166, v167, h165, rfl, h168, h169⟩ := h163
  obtain ⟨A170, c171, rfl⟩ := h168.form
  obtain ⟨rfl, r172⟩ := h169.err
  refine o_mv rfl rfl (o_ex rfl rfl rfl (o_ex rfl rfl rfl (o_as rfl rfl (o_as rfl rfl (o_z ?_)))))
  refine ewp_seq (ewp_region (o_mv rfl rfl (o_mv rfl rfl (o_mv rfl rfl ?_))))
  replace h86 := h86.st S162
  obtain ⟨b173, o174, ce175, hA176, hl177, hd178, v180, rfl, h181⟩ := h86.elem' hx152
  replace h181 := Vb.of_slice h181
  obtain ⟨A182, c183, rfl⟩ := h181.form
  refine o_iaE (hA := hA176) (hj := rfl) (hlt := hl177) rfl rfl rfl ?_
  refine o_ld (hc := cat0 hd178) rfl rfl ?_
  obtain ⟨q184, e185, hf153⟩ := bs hf153
  refine l_callM (O := O161) (c_explore_Space_Find h165 h181 e185) rfl rfl fun v190 w186 O187 S188 h189 => ?_
  obtain ⟨v192, v193, h191, rfl, h194, h195⟩ := h189
  obtain ⟨rfl, r196⟩ := h194.int
  obtain ⟨rfl, r197⟩ := h195.err
  refine o_mv rfl rfl (o_ex rfl rfl rfl (o_ex rfl rfl rfl (o_as rfl rfl (o_as rfl rfl (o_z ?_)))))
  refine ewp_seq ?_
  obtain ⟨y198, hy199, hf153⟩ := bs hf153
  refine ewp_join (fun l' w' => ∃ (x201 : Unit) (O' : Lab), subs l' [(5, (.pointer (some ⟨p141, 0, none⟩))), (7, (.slice A88 q77.1.length c89)), (54, (.int .i64 (q77.1.length : Int))), (55, (.int .i64 (k147 : Int))), (92, (.bool y198))] ∧ Bs w A w' O' ∧ Ob 3 w' O' (.pointer (some ⟨p141, 0, none⟩)) o139 ∧ Vb w' (Fr 0 w' O') (.slice A88 q77.1.length c89) q77.1) ?_ ?_
  ·
   refine ewp_region (o_mv rfl rfl (o_rnS rfl rfl (fun c202 => ?_) fun c202 => ?_))
   ·
    replace hy199 := ip hy199 c202
    refine o_mv rfl rfl (owp_no rfl rfl rfl rfl (owp_no rfl rfl rfl rfl (o_pt rfl rfl rfl (o_mv rfl rfl (owp_no rfl rfl rfl rfl (owp_no rfl rfl rfl rfl (owp_no rfl rfl rfl rfl (owp_no rfl rfl rfl rfl (owp_no rfl rfl rfl rfl (owp_no rfl rfl rfl rfl (owp_no rfl rfl rfl rfl (o_pt rfl rfl rfl (o_mv rfl rfl (owp_no rfl rfl rfl rfl ?_))))))))))))))
    refine owp_no rfl rfl rfl rfl (owp_no rfl rfl rfl rfl (o_pt rfl rfl rfl (o_z ?_)))
    obtain rfl := sm hy199
    replace hB := (hB.st S162).st S188
    replace h86 := h86.st S188
    exact ⟨(), _, ⟨rfl, rfl, rfl, rfl, rfl, trivial⟩, hB, h191, h86⟩
   replace hy199 := im hy199 c202
   refine o_mv rfl rfl (owp_yes rfl rfl (o_mv rfl rfl (owp_yes rfl rfl (o_rnS rfl rfl (fun c203 => ?_) fun c203 => ?_))))
   ·
    replace hy199 := ip hy199 c203
    refine o_pf rfl rfl rfl (o_mv rfl rfl (owp_no rfl rfl rfl rfl (owp_no rfl rfl rfl rfl (owp_no rfl rfl rfl rfl (owp_no rfl rfl rfl rfl (owp_no rfl rfl rfl rfl (owp_no rfl rfl rfl rfl (owp_no rfl rfl rfl rfl (o_pt rfl rfl rfl (o_mv rfl rfl (owp_no rfl rfl rfl rfl (owp_no rfl rfl rfl rfl (owp_no rfl rfl rfl rfl (o_pt rfl rfl rfl ?_))))))))))))))
    refine o_z ?_
    obtain rfl := sm hy199
    replace hB := (hB.st S162).st S188
    replace h86 := h86.st S188
    exact ⟨(), _, ⟨rfl, rfl, rfl, rfl, rfl, trivial⟩, hB, h191, h86⟩
   replace hy199 := im hy199 c203
   refine o_pf rfl rfl rfl (o_mv rfl rfl (owp_yes rfl rfl (o_mv rfl rfl (owp_yes rfl rfl (o_mv rfl rfl (owp_yes rfl rfl (o_mv rfl rfl (owp_yes rfl rfl ?_))))))))
   replace h86 := h86.st S188
   obtain ⟨b204, o205, ce206, hA207, hl208, hd209, v211, rfl, h212⟩ := h86.elem' hx152
   replace h212 := Vb.of_slice h212
   obtain ⟨A213, c214, rfl⟩ := h212.form
   refine o_iaE (hA := hA207) (hj := rfl) (hlt := hl208) rfl rfl rfl ?_
   refine owp_yes rfl rfl (o_ld (hc := cat0 hd209) rfl rfl ?_)
   refine owp_yes rfl rfl ?_
   obtain ⟨q215, e216, hy199⟩ := bs hy199
   replace h168 := h168.st S188
   refine l_callA (O := O187) (A := All w186) (R := fun w' F v => Vb w' F v q215) (c_base_Ints (fun _ h => h) (Vb.mono (F := Fr 0 w186 O187) h168 Fr.lt) (Vb.mono (F := Fr 0 w186 O187) h212 Fr.lt) e216) rfl rfl fun v221 w217 O218 S219 h220 => ?_
   obtain rfl := h220.bool
   cases q215
   case false =>
    replace hy199 := iF hy199
    refine owp_yes rfl rfl (o_nf rfl rfl (o_pf rfl rfl rfl (o_mv rfl rfl (owp_no rfl rfl rfl rfl (owp_no rfl rfl rfl rfl (owp_no rfl rfl rfl rfl (o_pt rfl rfl rfl (o_z ?_))))))))
    obtain rfl := sm hy199
    replace hB := ((hB.st S162).st S188).st S219
    replace h86 := h86.st S219
    replace h191 := h191.st S219
    exact ⟨(), _, ⟨rfl, rfl, rfl, rfl, rfl, trivial⟩, hB, h191, h86⟩
   replace hy199 := iT hy199
   refine owp_yes rfl rfl (o_nt rfl rfl (o_pf rfl rfl rfl (o_mv rfl rfl (owp_yes rfl rfl (o_mv rfl rfl (owp_yes rfl rfl (o_mv rfl rfl (owp_yes rfl rfl (o_neS rfl rfl rfl (fun c222 => ?_) fun c222 => ?_)))))))))
   ·
    replace hy199 := ip hy199 c222
    refine o_pf rfl rfl rfl (o_z ?_)
    obtain rfl := sm hy199
    replace hB := ((hB.st S162).st S188).st S219
    replace h86 := h86.st S219
    replace h191 := h191.st S219
    exact ⟨(), _, ⟨rfl, rfl, rfl, rfl, rfl, trivial⟩, hB, h191, h86⟩
   replace hy199 := im hy199 c222
   refine o_pf rfl rfl rfl (o_z ?_)
   obtain rfl := sm hy199
   replace hB := ((hB.st S162).st S188).st S219
   replace h86 := h86.st S219
   replace h191 := h191.st S219
   exact ⟨(), _, ⟨rfl, rfl, rfl, rfl, rfl, trivial⟩, hB, h191, h86⟩
  replace hB := (hB.st S162).st S188
  replace h86 := h86.st S188
  rintro l223 w224 ⟨x201, O225, hs226, hB, h191, h86⟩
  refine ewp_sub _ hs226 ?_
  refine ewp_cond rfl (fun c227 => ?_) (fun c227 => ?_)
  ·
   replace hf153 := ip hf153 c227
   refine ewp_seq (ewp_region (o_as rfl rfl (o_z ?_)))
   refine ewp_ret ?_
   obtain rfl := sm hf153
   obtain rfl := hret154 _ rfl
   obtain rfl := sm (fin_ret hm)
   exact ret1v rfl (res_tmp rfl) ⟨hB.ext, vBool⟩
  replace hf153 := im' hf153 c227
  refine ewp_skip ?_
  obtain rfl := sm hf153
  exact show Exists _ from ⟨_, (), rfl, ⟨rfl, rfl, rfl, rfl, trivial⟩, _, hB, h191, h86⟩
 rintro l228 w229 ⟨s232, x233, rfl, hs231, O230, hB, h111, h86⟩
 replace hm := fin_done hm
 refine ewp_sub _ hs231 ?_
 refine ewp_seq (ewp_region (o_mv rfl rfl (o_mv rfl rfl (o_ln rfl rfl ?_))))
 have l235 : q77.1.length ≤ 9223372036854775807 := Nat.le_trans h86.len.2.1 h86.len.2.2
 have r234 : inI64 (q77.1.length : Int) := rngNat l235
 obtain ⟨q236, e237, hm⟩ := bs hm
 refine l_callM (O := O230) (c_explore_Space_State h111 r234 e237) rfl rfl fun v242 w238 O239 S240 h241 => ?_
 obtain ⟨v244, v245, h243, rfl, h246, h247⟩ := h241
 obtain ⟨A248, c249, rfl⟩ := h246.form
 obtain ⟨rfl, r250⟩ := h247.err
 refine o_mv rfl rfl (o_ex rfl rfl rfl (o_ex rfl rfl rfl (o_as rfl rfl (o_z ?_))))
 refine ewp_seq (ewp_region (o_mv rfl rfl ?_))
 obtain ⟨q251, e252, hm⟩ := bs hm
 refine l_callM (O := O239) (c_explore_Space_State h243 (show inI64 (-1) from by decide) e252) rfl rfl fun v257 w253 O254 S255 h256 => ?_
 obtain ⟨v259, v260, h258, rfl, h261, h262⟩ := h256
 obtain ⟨A263, c264, rfl⟩ := h261.form
 obtain ⟨rfl, r265⟩ := h262.err
 refine o_mv rfl rfl (o_ex rfl rfl rfl (o_ex rfl rfl rfl (o_as rfl rfl (o_as rfl rfl (o_z ?_)))))
 refine ewp_seq ?_
 obtain ⟨y266, hy267, hm⟩ := bs hm
 refine ewp_join (fun l' w' => ∃ (x269 : Unit) (O' : Lab), subs l' [(4, (.bool y266))] ∧ Bs w A w' O') ?_ ?_
 ·
  refine ewp_region (o_mv rfl rfl ?_)
  obtain ⟨q270, e271, hy267⟩ := bs hy267
  refine l_callA (O := O254) (A := All w253) (R := fun w' F v => Vb w' F v q270) (c_base_Is (fun _ h => h) r250 (show inI64 (1) from by decide) e271) rfl rfl fun v276 w272 O273 S274 h275 => ?_
  obtain rfl := h275.bool
  cases q270
  case false =>
   replace hy267 := iF hy267
   refine o_mv rfl rfl (owp_no rfl rfl rfl rfl (owp_no rfl rfl rfl rfl (o_pf rfl rfl rfl (o_as rfl rfl (o_z ?_)))))
   obtain rfl := sm hy267
   replace hB := ((hB.st S240).st S255).st S274
   exact ⟨(), _, ⟨rfl, trivial⟩, hB⟩
  replace hy267 := iT hy267
  refine o_mv rfl rfl (owp_yes rfl rfl (o_mv rfl rfl (owp_yes rfl rfl ?_)))
  obtain ⟨q277, e278, hy267⟩ := bs hy267
  refine l_callA (O := O273) (A := All w272) (R := fun w' F v => Vb w' F v q277) (c_base_Is (fun _ h => h) r265 (show inI64 (1) from by decide) e278) rfl rfl fun v283 w279 O280 S281 h282 => ?_
  obtain rfl := h282.bool
  cases q277
  case false =>
   replace hy267 := iF hy267
   refine o_pt rfl rfl rfl (o_as rfl rfl (o_z ?_))
   obtain rfl := sm hy267
   replace hB := (((hB.st S240).st S255).st S274).st S281
   exact ⟨(), _, ⟨rfl, trivial⟩, hB⟩
  replace hy267 := iT hy267
  refine o_pt rfl rfl rfl (o_as rfl rfl (o_z ?_))
  obtain rfl := sm hy267
  replace hB := (((hB.st S240).st S255).st S274).st S281
  exact ⟨(), _, ⟨rfl, trivial⟩, hB⟩
 replace hB := (hB.st S240).st S255
 rintro l284 w285 ⟨x269, O286, hs287, hB⟩
 refine ewp_sub _ hs287 ?_
 refine ewp_ret ?_
 obtain rfl := sm hm
 exact ret1v rfl (res_tmp rfl) ⟨hB.ext, vBool⟩
end
section
open Go Go.RowKit
def Le {α : Type} (x y : Option α) : Prop := ∀ r, x = some r → y = some r
theorem Le.rf {α : Type} {x : Option α} : Le x x := fun _ h => h
theorem Le.bnd {α β : Type} {x x' : Option α} {f f' : α → Option β} (h : Le x x') (hf : ∀ a, Le (f a) (f' a)) : Le (bnd x f) (bnd x' f') := fun r hr => by
  obtain ⟨a, ha, hb⟩ := bs hr
  rw [h a ha, bnd_some]
  exact hf a r hb
theorem Le.ite {α : Type} {p : Prop} [Decidable p] {x x' y y' : Option α} (h : Le x x') (k : Le y y') : Le (if p then x else y) (if p then x' else y') := by
  by_cases hp : p
  · rw [if_pos hp, if_pos hp]; exact h
  · rw [if_neg hp, if_neg hp]; exact k
theorem Le.fin {σ κ : Type} {y : Fin σ κ} {f f' : σ → Option κ} (hf : ∀ a, Le (f a) (f' a)) : Le (fin y f) (fin y f') := by
  cases y with
  | done s => exact hf s
  | ret c => exact Le.rf
theorem Le.rng {α σ ρ : Type} {f f' : Nat → α → σ → Option (Ctl σ ρ)} (hf : ∀ k a s, Le (f k a s) (f' k a s)) : ∀ {xs : List α} {k : Nat} {s : σ}, Le (rng f xs k s) (rng f' xs k s)
  | [], _, _ => Le.rf
  | x :: xs, k, s => fun r hr => by
    simp only [Proofs.YtkbmbcblgdgjlaaGreat.rng] at hr ⊢
    cases hc : f k x s with
    | none => rw [hc] at hr; cases hr
    | some c =>
      rw [hc] at hr
      rw [hf k x s c hc]
      cases c with
      | next s' => exact Le.rng hf r hr
      | brk s' => exact hr
      | ret q => exact hr
theorem Le.rngN {σ ρ : Type} {f f' : Nat → σ → Option (Ctl σ ρ)} {n : Nat} {s : σ} (hf : ∀ k s, Le (f k s) (f' k s)) : Le (rngN f n s) (rngN f' n s) := Le.rng fun _ k s => hf k s
theorem Le.itr {σ ρ : Type} {f f' : σ → Option (Ctl σ ρ)} (hf : ∀ s, Le (f s) (f' s)) : ∀ (n : Nat) (s : σ), Le (itr f n s) (itr f' n s)
  | 0, _ => Le.rf
  | n + 1, s => fun r hr => by
    simp only [Proofs.YtkbmbcblgdgjlaaGreat.itr] at hr ⊢
    cases hc : f s with
    | none => rw [hc] at hr; cases hr
    | some c =>
      rw [hc] at hr
      rw [hf s c hc]
      cases c with
      | next s' => exact Le.itr hf n s' r hr
      | brk s' => exact hr
      | ret q => exact hr
def lopE {σ ρ : Type} (f : σ → Option (Ctl σ ρ)) (s : σ) : Option (Fin σ ρ) := itr f 600 s
theorem Le.lop {σ ρ : Type} {f f' : σ → Option (Ctl σ ρ)} {s : σ} (hf : ∀ s, Le (f s) (f' s)) : Le (lopE f s) (lop f' s) := fun r hr => lop_some.2 ⟨600, Le.itr hf 600 s r hr⟩
end
section
open Go Go.RowKit
def factB (vars : List Int) (x : Fct) : Bool := decide (0 ≤ x.var) && (decide (0 ≤ x.val) && (match vars[x.var.toNat]? with | some y => decide (x.val < y) | none => false))
theorem factB_ok {vars : List Int} {x : Fct} (h : factB vars x = true) : FactOk vars x := by
  unfold factB at h
  simp only [Bool.and_eq_true, decide_eq_true_eq] at h
  obtain ⟨h1, h2, h3⟩ := h
  cases hv : vars[x.var.toNat]? with
  | none => rw [hv] at h3; cases h3
  | some y => rw [hv] at h3; exact ⟨h1, h2, y, hv, by simpa using h3⟩
def ascB : List Fct → Bool
  | x :: y :: r => decide (x.var < y.var) && ascB (y :: r)
  | _ => true
theorem ascB_ok : ∀ {f : List Fct}, ascB f = true → ∀ (i : Nat) x y, f[i]? = some x → f[i + 1]? = some y → x.var < y.var
  | [], _, i, x, y, h, _ => by simp at h
  | [_], _, i, x, y, _, h => by simp at h
  | a :: b :: r, h, i, x, y, h1, h2 => by
    simp only [ascB, Bool.and_eq_true, decide_eq_true_eq] at h
    cases i with
    | zero => simp at h1 h2; subst h1; subst h2; exact h.1
    | succ i => exact ascB_ok h.2 i x y (by simpa using h1) (by simpa using h2)
def factsB (vars : List Int) (f : List Fct) : Bool := f.all (factB vars) && ascB f
theorem factsB_ok {vars : List Int} {f : List Fct} (h : factsB vars f = true) : FactsOk vars f := by
  unfold factsB at h
  rw [Bool.and_eq_true, List.all_eq_true] at h
  exact ⟨fun i x hx => factB_ok (h.1 x (List.mem_of_getElem? hx)), ascB_ok h.2⟩
def stateB : List Int → List Int → Bool
  | [], [] => true
  | y :: vars, x :: s => decide (0 ≤ x) && (decide (x < y) && stateB vars s)
  | _, _ => false
theorem stateB_ok : ∀ {vars s : List Int}, stateB vars s = true → StateOk vars s
  | [], [], _ => ⟨rfl, fun i x y h => by simp at h⟩
  | y :: vars, x :: s, h => by
    simp only [stateB, Bool.and_eq_true, decide_eq_true_eq] at h
    obtain ⟨h1, h2⟩ := stateB_ok h.2.2
    refine ⟨by simp [h1], fun i a b ha hb => ?_⟩
    cases i with
    | zero => simp at ha hb; subst ha; subst hb; exact ⟨h.1, h.2.1⟩
    | succ i => exact h2 i a b (by simpa using ha) (by simpa using hb)
  | [], _ :: _, h => by simp [stateB] at h
  | _ :: _, [], h => by simp [stateB] at h
def nameB (s : ByteArray) : Bool := decide (s.size ≤ 256) && s.data.toList.all fun c => decide (32 ≤ c.toNat) && decide (c.toNat ≤ 126)
theorem nameB_ok {s : ByteArray} (h : nameB s = true) : NameOk s := by
  unfold nameB at h
  simp only [Bool.and_eq_true, decide_eq_true_eq, List.all_eq_true] at h
  refine ⟨h.1, fun i hi => h.2 _ ?_⟩
  show s.data[i] ∈ _
  simp
def opB (vars : List Int) (o : Opr) : Bool := decide (0 ≤ o.cost) && (decide (o.cost ≤ 1048576) && (decide (o.effs.length ≤ 64) && (nameB o.name && (factsB vars o.pre && o.effs.all fun e => factsB vars e.cond && factB vars ⟨e.var, e.val⟩))))
theorem opB_ok {vars : List Int} {o : Opr} (h : opB vars o = true) : OpOk vars o := by
  unfold opB at h
  simp only [Bool.and_eq_true, decide_eq_true_eq, List.all_eq_true] at h
  obtain ⟨h1, h2, h3, h4, h5, h6⟩ := h
  exact ⟨h1, h2, h3, nameB_ok h4, factsB_ok h5, fun i e he => ⟨factsB_ok (h6 e (List.mem_of_getElem? he)).1, factB_ok (h6 e (List.mem_of_getElem? he)).2⟩⟩
def taskB (t : Tsk) : Bool := decide (t.vars.length ≤ 64) && (decide (t.ops.length ≤ 4096) && ((t.vars.all fun n => decide (1 ≤ n) && decide (n ≤ 64)) && (stateB t.vars t.init && (factsB t.vars t.goal && t.ops.all (opB t.vars)))))
theorem taskB_ok {t : Tsk} (h : taskB t = true) : TaskOk t := by
  unfold taskB at h
  simp only [Bool.and_eq_true, decide_eq_true_eq, List.all_eq_true] at h
  obtain ⟨h1, h2, h3, h4, h5, h6⟩ := h
  exact ⟨h1, h2, fun i n hn => h3 n (List.mem_of_getElem? hn), stateB_ok h4, factsB_ok h5, fun i o ho => opB_ok (h6 o (List.mem_of_getElem? ho))⟩
def e_task_Holds (f : List Fct) (s : List Int) : Option Bool := m_task_Holds f s
theorem le_task_Holds (f : List Fct) (s : List Int) : Le (e_task_Holds f s) (m_task_Holds f s) := Le.rf
def e_slices_Clone_Lint_int (x : List Int) : Option (List Int) := m_slices_Clone_Lint_int x
theorem le_slices_Clone_Lint_int (x : List Int) : Le (e_slices_Clone_Lint_int x) (m_slices_Clone_Lint_int x) := Le.rf
end
end Go.Proofs.YtkbmbcblgdgjlaaGreat

/- Own text: models of Identity, Compose, Inverse and of the law of the group, and their proofs (written by gen2.py). -/
import Derived.Test.YtdhaelekmjgbmaaSym2
import Derived.Test.YtdhaelekmjgbmaaBase1
namespace Go.Proofs.Ytdhaelekmjgbmaa
open Go Go.RowKit
attribute [local irreducible] ewp owp hwp hwq hws Ev Evg Fn retPost loud loudS Res1
noncomputable def m_symmetry_Identity (x0 : Tsk) : Option (Swp × Err) :=
  bnd (m_symmetry_demand x0 ([] : List Swp)) fun q28 => if q28.n ≠ 0 then (some ((⟨([] : List Int), ([] : List (List Int)), ([] : List Int)⟩ : Swp), (⟨q28.n⟩ : Err))) else (bnd (bnd (m_symmetry_upTo (x0.vars.length : Int)) fun q46 => bnd (m_symmetry_upTo (x0.ops.length : Int)) fun q48 => some (q46, q48) : Option ((List Int) × (List Int))) fun y39 => bnd (rng (ρ := Swp × Err) (fun (k120 : Nat) (a121 : Int) (s118 : (List (List Int))) => bnd (m_symmetry_upTo a121) fun q143 => bnd (appI 24 s118 [q143]) fun u158 => some (.next u158)) x0.vars 0 ([] : List (List Int))) fun res116 => fin res116 fun (s175 : (List (List Int))) => some ((⟨y39.1, s175, y39.2⟩ : Swp), (⟨0⟩ : Err)))
theorem c_symmetry_Identity {w : World} {A : Nat → Prop} (hA : ∀ k, A k → k < w.heap.size) {vx0 : Value} {x0 : Tsk} (hx0 : Vb w A vx0 x0) {r : Swp × Err} (hm : m_symmetry_Identity x0 = some r) :
    Fn Try.prog 22 [vx0] w fun v w' => Ext w w' ∧ T2 w' (upA A w w') v r := by
  obtain ⟨O, hB, hA0⟩ := enter hA
  replace hx0 := hx0.mono hA0
  obtain ⟨cs1, rfl, v2, v3, v4, v5, rfl, h6, h9, h12, h15⟩ := hx0
  obtain ⟨A7, c8, rfl⟩ := h6.form
  obtain ⟨A10, c11, rfl⟩ := h9.form
  obtain ⟨A13, c14, rfl⟩ := h12.form
  obtain ⟨A16, c17, rfl⟩ := h15.form
  refine fn_enter Try.func22 rfl Try.ntmps22 rfl ?_
  unfold m_symmetry_Identity at hm
  refine ewp_seq ?_
  refine ewp_region ?_
  refine l_box 2 O rfl rfl fun g18 w19 O20 S21 h22 => ?_
  replace h22 : Lc 2 w19 O20 g18 26 [(.slice A7 x0.vars.length c8), (.slice A10 x0.init.length c11), (.slice A13 x0.goal.length c14), (.slice A16 x0.ops.length c17)] := h22
  replace hB := hB.st S21 (fun h => h) (fun h => h)
  replace h6 := h6.st S21 (fun h => h)
  replace h9 := h9.st S21 (fun h => h)
  replace h12 := h12.st S21 (fun h => h)
  replace h15 := h15.st S21 (fun h => h)
  refine l_alloc 3 O20 rfl fun g23 w24 O25 S26 h27 => ?_
  replace hB := hB.st S26 (fun h => h) (fun h => h)
  replace h22 := h22.st S26 (fun h => h)
  replace h6 := h6.st S26 (fun h => h)
  replace h9 := h9.st S26 (fun h => h)
  replace h12 := h12.st S26 (fun h => h)
  replace h15 := h15.st S26 (fun h => h)
  refine o_as rfl rfl  ?_
  (first | refine owp_nilT ?_ | refine owp_nilB ?_ | refine owp_nilBB ?_ | refine owp_nil ?_)
  refine ewp_seq ?_
  refine ewp_seq ?_
  refine ewp_region ?_
  refine o_la (hl := rfl) (hc := (h22.1).cellsAt) rfl rfl  ?_
  obtain ⟨q28, e29, hm⟩ := bs hm
  refine l_callA (O := O25) (A := All w24) (R := fun w' F v => Vb w' F v q28) (c_symmetry_demand (fun _ h => h) (Vb.mono (F := Fr 0 w24 O25) (Vb.ofAgg (cs := [(.slice A7 x0.vars.length c8), (.slice A10 x0.init.length c11), (.slice A13 x0.goal.length c14), (.slice A16 x0.ops.length c17)]) (x := x0) rfl ⟨_, _, _, _, rfl, h6, h9, h12, h15⟩) Fr.lt) (Vb.nil _ _) e29) rfl rfl fun v34 w30 O31 S32 h33 => ?_
  obtain ⟨rfl, r35⟩ := h33.err
  replace hB := hB.st S32 (fun h => h) (fun h => h)
  replace h22 := h22.st S32 (fun h => h)
  replace h6 := h6.st S32 (fun h => h)
  replace h9 := h9.st S32 (fun h => h)
  replace h12 := h12.st S32 (fun h => h)
  replace h15 := h15.st S32 (fun h => h)
  replace h27 := h27.st S32 (fun h => h)
  refine o_as rfl rfl  ?_
  (first | refine owp_nilT ?_ | refine owp_nilB ?_ | refine owp_nilBB ?_ | refine owp_nil ?_)
  refine ewp_seq ?_
  refine ewp_region ?_
  refine o_mv rfl rfl  ?_
  refine o_rnS rfl rfl (fun c36 => ?_) fun c36 => ?_
  · replace hm := ip hm c36
    (first | refine owp_nilT ?_ | refine owp_nilB ?_ | refine owp_nilBB ?_ | refine owp_nil ?_)
    refine ewp_true rfl ?_
    refine ewp_seq ?_
    refine ewp_region ?_
    refine o_bd rfl rfl rfl  ?_
    refine o_mv rfl rfl  ?_
    refine l_store h27 rfl rfl rfl (Nat.le_of_ble_eq_true rfl) (by first | exact allOne rfl | simp [Value.cells, Value.oneCell', errV_one]) fun w37 S38 h27 => ?_
    replace h27 : Lc 3 w37 O31 g23 29 [(.slice none 0 0), (.slice none 0 0), (.slice none 0 0)] := h27
    replace hB := hB.st S38 (by decide) (by decide)
    refine o_as rfl rfl  ?_
    (first | refine owp_nilT ?_ | refine owp_nilB ?_ | refine owp_nilBB ?_ | refine owp_nil ?_)
    refine ewp_ret ?_
    obtain rfl := sm hm
    exact ret2 rfl (res_cell (cs := [(.slice none 0 0), (.slice none 0 0), (.slice none 0 0)]) rfl rfl h27.1.cellsAt) (res_tmp rfl) ⟨hB.ext, _, _, rfl, (Vb.mono (F := Fr 0 w37 O31) (Vb.ofAgg (cs := [(.slice none 0 0), (.slice none 0 0), (.slice none 0 0)]) (x := (⟨([] : List Int), ([] : List (List Int)), ([] : List Int)⟩ : Swp)) rfl ⟨_, _, _, rfl, (Vb.nil _ _), (Vb.nil _ _), (Vb.nil _ _)⟩) hB.out), (vErr r35)⟩
  · replace hm := im hm c36
    (first | refine owp_nilT ?_ | refine owp_nilB ?_ | refine owp_nilBB ?_ | refine owp_nil ?_)
    refine ewp_false rfl ?_
    refine ewp_skip ?_
    refine ewp_seq ?_
    obtain ⟨y39, hy40, hm⟩ := bs hm
    refine ewp_join (fun l' w' => ∃ (x42 : Nat × (Option Addr × Nat) × (Option Addr × Nat)) (O' : Lab), subs l' [(1, (.pointer (some ⟨g18, 0, none⟩))), (2, (.pointer (some ⟨g23, 0, none⟩))), (5, (.pointer (some ⟨x42.1, 0, none⟩)))] ∧ Bs w A w' O' ∧ Lc 2 w' O' g18 26 [(.slice A7 x0.vars.length c8), (.slice A10 x0.init.length c11), (.slice A13 x0.goal.length c14), (.slice A16 x0.ops.length c17)] ∧ Vb w' (Fr 0 w' O') (.slice A7 x0.vars.length c8) x0.vars ∧ Vb w' (Fr 0 w' O') (.slice A10 x0.init.length c11) x0.init ∧ Vb w' (Fr 0 w' O') (.slice A13 x0.goal.length c14) x0.goal ∧ Vb w' (Fr 0 w' O') (.slice A16 x0.ops.length c17) x0.ops ∧ Lc 3 w' O' g23 29 [(.slice none 0 0), (.slice none 0 0), (.slice none 0 0)] ∧ Lc 4 w' O' x42.1 29 [(.slice x42.2.1.1 y39.1.length x42.2.1.2), (.slice none 0 0), (.slice x42.2.2.1 y39.2.length x42.2.2.2)] ∧ Vb w' (Fr 0 w' O') (.slice x42.2.1.1 y39.1.length x42.2.1.2) y39.1 ∧ Vb w' (Fr 0 w' O') (.slice x42.2.2.1 y39.2.length x42.2.2.2) y39.2) ?_ ?_
    · skip
      obtain ⟨q46, e47, hy40⟩ := bs hy40
      obtain ⟨q48, e49, hy40⟩ := bs hy40
      have hZ := St.refl (nT) w30 O31
      have zh22 := h22
      have zh6 := h6
      have zh9 := h9
      have zh12 := h12
      have zh15 := h15
      have zh27 := h27
      refine ewp_drawS (fun w' => ∃ O', St (nT) w30 O31 w' O') ?_
      refine hws_pre (fuel := 5) [(0, true), (1, true), (2, true), (4, true), (5, true), (6, true)] (by kernel_rfl) (by kernel_rfl) (by kernel_rfl) ⟨_, hZ⟩ ?_
      refine h_fa rfl rfl rfl  ?_
      refine h_ldC (hc := fun w' ⟨O', hq⟩ => Blk.cell (i := 0) ((zh22.st hq (by decide)).1) rfl) rfl rfl rfl  ?_
      refine h_ln rfl rfl rfl  ?_
      have l51 : x0.vars.length ≤ 9223372036854775807 := Nat.le_trans h6.len.2.1 h6.len.2.2
      have r50 : inI64 (x0.vars.length : Int) := rngNat l51
      refine h_fa rfl rfl rfl  ?_
      refine h_ldC (hc := fun w' ⟨O', hq⟩ => Blk.cell (i := 3) ((zh22.st hq (by decide)).1) rfl) rfl rfl rfl  ?_
      refine h_ln rfl rfl rfl  ?_
      have l53 : x0.ops.length ≤ 9223372036854775807 := Nat.le_trans h15.len.2.1 h15.len.2.2
      have r52 : inI64 (x0.ops.length : Int) := rngNat l53
      refine hwp_nilT ?_
      refine hws_two (i := 3) (j := 9) (by kernel_rfl) rfl rfl ?_ ?_
      · skip
        refine l_call (O := O31) (R := fun w' F v => Vb w' F v q46) (c_symmetry_upTo Fr.lt r50 e47) rfl rfl fun v58 w54 O55 S56 h57 => ?_
        obtain ⟨A59, c60, rfl⟩ := h57.form
        replace hZ := hZ.comp S56 (fun _ h => h.elim)
        replace hB := hB.st S56 (fun h => h) (fun h => h)
        replace h22 := h22.st S56 (fun h => h)
        replace h6 := h6.st S56 (fun h => h)
        replace h9 := h9.st S56 (fun h => h)
        replace h12 := h12.st S56 (fun h => h)
        replace h15 := h15.st S56 (fun h => h)
        replace h27 := h27.st S56 (fun h => h)
        refine owp_loudS ⟨_, hZ⟩ ?_
        refine hws_two (i := 7) (j := 9) (by kernel_rfl) rfl rfl ?_ ?_
        · skip
          refine l_call (O := O55) (R := fun w' F v => Vb w' F v q48) (c_symmetry_upTo Fr.lt r52 e49) rfl rfl fun v65 w61 O62 S63 h64 => ?_
          obtain ⟨A66, c67, rfl⟩ := h64.form
          replace hZ := hZ.comp S63 (fun _ h => h.elim)
          replace hB := hB.st S63 (fun h => h) (fun h => h)
          replace h22 := h22.st S63 (fun h => h)
          replace h6 := h6.st S63 (fun h => h)
          replace h9 := h9.st S63 (fun h => h)
          replace h12 := h12.st S63 (fun h => h)
          replace h15 := h15.st S63 (fun h => h)
          replace h27 := h27.st S63 (fun h => h)
          replace h57 := h57.st S63 (fun h => h)
          refine owp_loudS ⟨_, hZ⟩ ?_
          refine hws_pre (fuel := 2) [(8, true)] (by kernel_rfl) (by kernel_rfl) (by kernel_rfl) ⟨_, hZ⟩ ?_
          refine h_bd rfl rfl rfl rfl  ?_
          refine hwp_nilT ?_
          refine hws_one (i := 9) (by kernel_rfl) rfl ?_
          refine l_alloc 4 O62 rfl fun g68 w69 O70 S71 h72 => ?_
          replace hZ := hZ.comp S71 (fun _ h => h.elim)
          replace hB := hB.st S71 (fun h => h) (fun h => h)
          replace h22 := h22.st S71 (fun h => h)
          replace h6 := h6.st S71 (fun h => h)
          replace h9 := h9.st S71 (fun h => h)
          replace h12 := h12.st S71 (fun h => h)
          replace h15 := h15.st S71 (fun h => h)
          replace h27 := h27.st S71 (fun h => h)
          replace h57 := h57.st S71 (fun h => h)
          replace h64 := h64.st S71 (fun h => h)
          refine owp_loudS ⟨_, hZ⟩ ?_
          refine hws_one (i := 10) (by kernel_rfl) rfl ?_
          refine l_store h72 rfl rfl rfl (Nat.le_of_ble_eq_true rfl) (by first | exact allOne rfl | simp [Value.cells, Value.oneCell', errV_one]) fun w73 S74 h72 => ?_
          replace h72 : Lc 4 w73 O70 g68 29 [(.slice A59 q46.length c60), (.slice none 0 0), (.slice A66 q48.length c67)] := h72
          replace hB := hB.st S74 (by decide) (by decide)
          replace h22 := h22.st S74 (by decide)
          replace h6 := h6.st S74 (by decide)
          replace h9 := h9.st S74 (by decide)
          replace h12 := h12.st S74 (by decide)
          replace h15 := h15.st S74 (by decide)
          replace h27 := h27.st S74 (by decide)
          replace h57 := h57.st S74 (by decide)
          replace h64 := h64.st S74 (by decide)
          refine owp_loudSE (by kernel_rfl) ?_
          refine hws_nil (by kernel_rfl) ?_
          obtain rfl := sm hy40
          exact ⟨(g68, (A59, c60), (A66, c67)), _, ⟨rfl, rfl, rfl, trivial⟩, hB, h22, h6, h9, h12, h15, h27, h72, h57, h64⟩
        · skip
          refine l_alloc 4 O55 rfl fun g75 w76 O77 S78 h79 => ?_
          replace hZ := hZ.comp S78 (fun _ h => h.elim)
          replace hB := hB.st S78 (fun h => h) (fun h => h)
          replace h22 := h22.st S78 (fun h => h)
          replace h6 := h6.st S78 (fun h => h)
          replace h9 := h9.st S78 (fun h => h)
          replace h12 := h12.st S78 (fun h => h)
          replace h15 := h15.st S78 (fun h => h)
          replace h27 := h27.st S78 (fun h => h)
          replace h57 := h57.st S78 (fun h => h)
          refine owp_loudS ⟨_, hZ⟩ ?_
          refine hws_one (i := 7) (by kernel_rfl) rfl ?_
          refine l_call (O := O77) (R := fun w' F v => Vb w' F v q48) (c_symmetry_upTo Fr.lt r52 e49) rfl rfl fun v84 w80 O81 S82 h83 => ?_
          obtain ⟨A85, c86, rfl⟩ := h83.form
          replace hZ := hZ.comp S82 (fun _ h => h.elim)
          replace hB := hB.st S82 (fun h => h) (fun h => h)
          replace h22 := h22.st S82 (fun h => h)
          replace h6 := h6.st S82 (fun h => h)
          replace h9 := h9.st S82 (fun h => h)
          replace h12 := h12.st S82 (fun h => h)
          replace h15 := h15.st S82 (fun h => h)
          replace h27 := h27.st S82 (fun h => h)
          replace h79 := h79.st S82 (fun h => h)
          replace h57 := h57.st S82 (fun h => h)
          refine owp_loudS ⟨_, hZ⟩ ?_
          refine hws_pre (fuel := 1) [(8, true)] (by kernel_rfl) (by kernel_rfl) (by kernel_rfl) ⟨_, hZ⟩ ?_
          refine h_bd rfl rfl rfl rfl  ?_
          refine hwp_nilT ?_
          refine hws_one (i := 10) (by kernel_rfl) rfl ?_
          refine l_store h79 rfl rfl rfl (Nat.le_of_ble_eq_true rfl) (by first | exact allOne rfl | simp [Value.cells, Value.oneCell', errV_one]) fun w87 S88 h79 => ?_
          replace h79 : Lc 4 w87 O81 g75 29 [(.slice A59 q46.length c60), (.slice none 0 0), (.slice A85 q48.length c86)] := h79
          replace hB := hB.st S88 (by decide) (by decide)
          replace h22 := h22.st S88 (by decide)
          replace h6 := h6.st S88 (by decide)
          replace h9 := h9.st S88 (by decide)
          replace h12 := h12.st S88 (by decide)
          replace h15 := h15.st S88 (by decide)
          replace h27 := h27.st S88 (by decide)
          replace h57 := h57.st S88 (by decide)
          replace h83 := h83.st S88 (by decide)
          refine owp_loudSE (by kernel_rfl) ?_
          refine hws_nil (by kernel_rfl) ?_
          obtain rfl := sm hy40
          exact ⟨(g75, (A59, c60), (A85, c86)), _, ⟨rfl, rfl, rfl, trivial⟩, hB, h22, h6, h9, h12, h15, h27, h79, h57, h83⟩
      · skip
        refine l_alloc 4 O31 rfl fun g89 w90 O91 S92 h93 => ?_
        replace hZ := hZ.comp S92 (fun _ h => h.elim)
        replace hB := hB.st S92 (fun h => h) (fun h => h)
        replace h22 := h22.st S92 (fun h => h)
        replace h6 := h6.st S92 (fun h => h)
        replace h9 := h9.st S92 (fun h => h)
        replace h12 := h12.st S92 (fun h => h)
        replace h15 := h15.st S92 (fun h => h)
        replace h27 := h27.st S92 (fun h => h)
        refine owp_loudS ⟨_, hZ⟩ ?_
        refine hws_one (i := 3) (by kernel_rfl) rfl ?_
        refine l_call (O := O91) (R := fun w' F v => Vb w' F v q46) (c_symmetry_upTo Fr.lt r50 e47) rfl rfl fun v98 w94 O95 S96 h97 => ?_
        obtain ⟨A99, c100, rfl⟩ := h97.form
        replace hZ := hZ.comp S96 (fun _ h => h.elim)
        replace hB := hB.st S96 (fun h => h) (fun h => h)
        replace h22 := h22.st S96 (fun h => h)
        replace h6 := h6.st S96 (fun h => h)
        replace h9 := h9.st S96 (fun h => h)
        replace h12 := h12.st S96 (fun h => h)
        replace h15 := h15.st S96 (fun h => h)
        replace h27 := h27.st S96 (fun h => h)
        replace h93 := h93.st S96 (fun h => h)
        refine owp_loudS ⟨_, hZ⟩ ?_
        refine hws_one (i := 7) (by kernel_rfl) rfl ?_
        refine l_call (O := O95) (R := fun w' F v => Vb w' F v q48) (c_symmetry_upTo Fr.lt r52 e49) rfl rfl fun v105 w101 O102 S103 h104 => ?_
        obtain ⟨A106, c107, rfl⟩ := h104.form
        replace hZ := hZ.comp S103 (fun _ h => h.elim)
        replace hB := hB.st S103 (fun h => h) (fun h => h)
        replace h22 := h22.st S103 (fun h => h)
        replace h6 := h6.st S103 (fun h => h)
        replace h9 := h9.st S103 (fun h => h)
        replace h12 := h12.st S103 (fun h => h)
        replace h15 := h15.st S103 (fun h => h)
        replace h27 := h27.st S103 (fun h => h)
        replace h93 := h93.st S103 (fun h => h)
        replace h97 := h97.st S103 (fun h => h)
        refine owp_loudS ⟨_, hZ⟩ ?_
        refine hws_pre (fuel := 1) [(8, true)] (by kernel_rfl) (by kernel_rfl) (by kernel_rfl) ⟨_, hZ⟩ ?_
        refine h_bd rfl rfl rfl rfl  ?_
        refine hwp_nilT ?_
        refine hws_one (i := 10) (by kernel_rfl) rfl ?_
        refine l_store h93 rfl rfl rfl (Nat.le_of_ble_eq_true rfl) (by first | exact allOne rfl | simp [Value.cells, Value.oneCell', errV_one]) fun w108 S109 h93 => ?_
        replace h93 : Lc 4 w108 O102 g89 29 [(.slice A99 q46.length c100), (.slice none 0 0), (.slice A106 q48.length c107)] := h93
        replace hB := hB.st S109 (by decide) (by decide)
        replace h22 := h22.st S109 (by decide)
        replace h6 := h6.st S109 (by decide)
        replace h9 := h9.st S109 (by decide)
        replace h12 := h12.st S109 (by decide)
        replace h15 := h15.st S109 (by decide)
        replace h27 := h27.st S109 (by decide)
        replace h97 := h97.st S109 (by decide)
        replace h104 := h104.st S109 (by decide)
        refine owp_loudSE (by kernel_rfl) ?_
        refine hws_nil (by kernel_rfl) ?_
        obtain rfl := sm hy40
        exact ⟨(g89, (A99, c100), (A106, c107)), _, ⟨rfl, rfl, rfl, trivial⟩, hB, h22, h6, h9, h12, h15, h27, h93, h97, h104⟩
    rintro l110 w111 ⟨x42, O112, hs113, hB, h22, h6, h9, h12, h15, h27, h43, h44, h45⟩
    refine ewp_sub _ hs113 ?_
    refine ewp_seq ?_
    refine ewp_seq ?_
    refine ewp_region ?_
    refine o_fa rfl rfl  ?_
    refine o_ld (hc := Blk.cell (i := 0) (h22.1) rfl) rfl rfl  ?_
    refine o_ln rfl rfl  ?_
    have l115 : x0.vars.length ≤ 9223372036854775807 := Nat.le_trans h6.len.2.1 h6.len.2.2
    have r114 : inI64 (x0.vars.length : Int) := rngNat l115
    refine o_mv rfl rfl  ?_
    (first | refine owp_nilT ?_ | refine owp_nilB ?_ | refine owp_nilBB ?_ | refine owp_nil ?_)
    obtain ⟨res116, hL117, hm⟩ := bs hm
    refine ewp_join (aft res116 (fun (s118 : (List (List Int))) (x119 : (Option Addr × Nat)) => [(2, (.pointer (some ⟨g23, 0, none⟩))), (5, (.pointer (some ⟨x42.1, 0, none⟩)))]) (fun s118 x119 w' => ∃ O' : Lab, Bs w A w' O' ∧ Lc 3 w' O' g23 29 [(.slice none 0 0), (.slice none 0 0), (.slice none 0 0)] ∧ Lc 4 w' O' x42.1 29 [(.slice x42.2.1.1 y39.1.length x42.2.1.2), (.slice x119.1 s118.length x119.2), (.slice x42.2.2.1 y39.2.length x42.2.2.2)] ∧ Vb w' (Fr 0 w' O') (.slice x42.2.1.1 y39.1.length x42.2.1.2) y39.1 ∧ Rw 6 w' O' 22 (.slice x119.1 s118.length x119.2) s118 ∧ Vb w' (Fr 0 w' O') (.slice x42.2.2.1 y39.2.length x42.2.2.2) y39.2)) ?_ ?_
    · refine ewp_block ?_
      refine ewp_rng (σ := (List (List Int))) (X := (Option Addr × Nat)) (x0.vars.length) hL117 rfl l115 (fun (s118 : (List (List Int))) (x119 : (Option Addr × Nat)) => [(2, (.pointer (some ⟨g23, 0, none⟩))), (5, (.pointer (some ⟨x42.1, 0, none⟩))), (24, (.slice A7 x0.vars.length c8))]) _ (fun s118 x119 w' => ∃ O' : Lab, Bs w A w' O' ∧ Lc 3 w' O' g23 29 [(.slice none 0 0), (.slice none 0 0), (.slice none 0 0)] ∧ Lc 4 w' O' x42.1 29 [(.slice x42.2.1.1 y39.1.length x42.2.1.2), (.slice x119.1 s118.length x119.2), (.slice x42.2.2.1 y39.2.length x42.2.2.2)] ∧ Vb w' (Fr 0 w' O') (.slice x42.2.1.1 y39.1.length x42.2.1.2) y39.1 ∧ Rw 6 w' O' 22 (.slice x119.1 s118.length x119.2) s118 ∧ Vb w' (Fr 0 w' O') (.slice x42.2.2.1 y39.2.length x42.2.2.2) y39.2 ∧ Vb w' (Fr 0 w' O') (.slice A7 x0.vars.length c8) x0.vars) _ (none, 0) ⟨O112, hB, h27, h43, h44, (Rw.nil 6 (by decide)), h45, h6⟩ ⟨rfl, rfl, rfl, rfl, rfl, trivial⟩ (fun _ _ => ⟨rfl, rfl⟩) (fun _ _ => ⟨rfl, rfl, trivial⟩) (fun _ _ _ ⟨O', hB, h27, h43, h44, h133, h45, h6⟩ => ⟨O', hB, h27, h43, h44, h133, h45⟩) ⟨rfl, rfl, rfl⟩ ⟨rfl, rfl⟩ ?_
      rintro k120 a121 s118 x119 w122 cc124 hx125 ⟨O123, hB, h27, h43, h44, h133, h45, h6⟩ hf126 hret127 hbrk128
      have rk120 : inI64 (k120 : Int) := rngK hx125 l115
      refine ewp_seq ?_
      refine ewp_region ?_
      obtain ⟨b135, o136, ce137, hA138, hl139, hd140, rfl, r142⟩ := h6.elem' hx125
      refine o_iaE (hA := hA138) (hj := rfl) (hlt := hl139) rfl rfl rfl  ?_
      refine o_ld (hc := cat0 hd140) rfl rfl  ?_
      refine o_as rfl rfl  ?_
      (first | refine owp_nilT ?_ | refine owp_nilB ?_ | refine owp_nilBB ?_ | refine owp_nil ?_)
      have hZ := St.refl (eT 6) w122 O123
      have zh27 := h27
      have zh43 := h43
      have zh44 := h44
      have zh133 := h133
      have zh45 := h45
      have zh6 := h6
      refine ewp_drawS (fun w' => ∃ O', St (eT 6) w122 O123 w' O') ?_
      refine hws_pre (fuel := 5) [(0, true), (1, true), (2, true)] (by kernel_rfl) (by kernel_rfl) (by kernel_rfl) ⟨_, hZ⟩ ?_
      refine h_fa rfl rfl rfl  ?_
      refine h_ldC (hc := fun w' ⟨O', hq⟩ => Blk.cell (i := 1) ((zh43.st hq (by decide)).1) rfl) rfl rfl rfl  ?_
      refine h_mv rfl rfl rfl  ?_
      refine hwp_nilT ?_
      refine hws_one (i := 3) (by kernel_rfl) rfl ?_
      obtain ⟨q143, e144, hf126⟩ := bs hf126
      refine l_call (O := O123) (R := fun w' F v => Vb w' F v q143) (c_symmetry_upTo Fr.lt r142 e144) rfl rfl fun v149 w145 O146 S147 h148 => ?_
      obtain ⟨A150, c151, rfl⟩ := h148.form
      replace hZ := hZ.comp S147 (fun _ h => h.elim)
      replace hB := hB.st S147 (fun h => h) (fun h => h)
      replace h27 := h27.st S147 (fun h => h)
      replace h43 := h43.st S147 (fun h => h)
      replace h44 := h44.st S147 (fun h => h)
      replace h133 := h133.st S147 (fun h => h) (fun h => h)
      replace h45 := h45.st S147 (fun h => h)
      replace h6 := h6.st S147 (fun h => h)
      refine owp_loudS ⟨_, hZ⟩ ?_
      refine hws_one (i := 4) (by kernel_rfl) rfl ?_
      refine l_bslice 5 (by decide) O146 (xs := ([q143] : List (List Int))) rfl rfl rfl rfl ⟨h148, trivial⟩ (by decide) (by decide) rfl fun g152 w153 O154 S155 h156 => ?_
      replace hZ := hZ.comp S155 (fun _ h => h.elim)
      replace hB := hB.st S155 (fun h => h) (fun h => h)
      replace h27 := h27.st S155 (fun h => h)
      replace h43 := h43.st S155 (fun h => h)
      replace h44 := h44.st S155 (fun h => h)
      replace h133 := h133.st S155 (fun h => h) (fun h => h)
      replace h45 := h45.st S155 (fun h => h)
      replace h6 := h6.st S155 (fun h => h)
      refine owp_loudS ⟨_, hZ⟩ ?_
      refine hws_one (i := 5) (by kernel_rfl) rfl ?_
      obtain ⟨u158, e159, hf126⟩ := bs hf126
      obtain ⟨e159, e160, e161⟩ := appI_some e159
      refine l_append rfl h133 (h156.rd) rfl rfl (by decide) e160 e161 rfl fun A162 c163 w164 O165 S166 h167 => ?_
      rw [← e159] at h167 ⊢
      replace hZ := hZ.comp S166 (fun _ h => by cases h; decide)
      replace hB := hB.st S166 (by decide) (by decide)
      replace h27 := h27.st S166 (by decide)
      replace h43 := h43.st S166 (by decide)
      replace h44 := h44.st S166 (by decide)
      replace h45 := h45.st S166 (by decide)
      replace h6 := h6.st S166 (by decide)
      refine owp_loudS ⟨_, hZ⟩ ?_
      refine hws_pre (fuel := 1) [(6, true)] (by kernel_rfl) (by kernel_rfl) (by kernel_rfl) ⟨_, hZ⟩ ?_
      refine h_fa rfl rfl rfl  ?_
      refine hwp_nilT ?_
      refine hws_one (i := 7) (by kernel_rfl) rfl ?_
      refine l_store h43 rfl rfl rfl (Nat.le_of_ble_eq_true rfl) (by first | exact allOne rfl | simp [Value.cells, Value.oneCell', errV_one]) fun w169 S170 h43 => ?_
      replace h43 : Lc 4 w169 O165 x42.1 29 [(.slice x42.2.1.1 y39.1.length x42.2.1.2), (.slice A162 u158.length c163), (.slice x42.2.2.1 y39.2.length x42.2.2.2)] := h43
      replace hB := hB.st S170 (by decide) (by decide)
      replace h27 := h27.st S170 (by decide)
      replace h44 := h44.st S170 (by decide)
      replace h167 := h167.st S170 (by decide) (by decide)
      replace h45 := h45.st S170 (by decide)
      replace h6 := h6.st S170 (by decide)
      refine owp_loudSE (by kernel_rfl) ?_
      refine hws_nil (by kernel_rfl) ?_
      obtain rfl := sm hf126
      refine (?_ : Exists _)
      exact ⟨_, (A162, c163), rfl, ⟨rfl, rfl, rfl, rfl, rfl, trivial⟩, _, hB, h27, h43, h44, h167, h45, h6⟩
    rintro l171 w172 ⟨s175, x176, rfl, hs174, O173, hB, h27, h43, h44, h133, h45⟩
    replace hm := fin_done hm
    refine ewp_sub _ hs174 ?_
    refine ewp_seq ?_
    refine ewp_region ?_
    refine o_la (hl := rfl) (hc := (h43.1).cellsAt) rfl rfl  ?_
    refine l_store h27 rfl rfl rfl (Nat.le_of_ble_eq_true rfl) (by first | exact allOne rfl | simp [Value.cells, Value.oneCell', errV_one]) fun w177 S178 h27 => ?_
    replace h27 : Lc 3 w177 O173 g23 29 [(.slice x42.2.1.1 y39.1.length x42.2.1.2), (.slice x176.1 s175.length x176.2), (.slice x42.2.2.1 y39.2.length x42.2.2.2)] := h27
    replace hB := hB.st S178 (by decide) (by decide)
    replace h44 := h44.st S178 (by decide)
    replace h133 := h133.st S178 (by decide) (by decide)
    replace h45 := h45.st S178 (by decide)
    refine o_as rfl rfl  ?_
    (first | refine owp_nilT ?_ | refine owp_nilB ?_ | refine owp_nilBB ?_ | refine owp_nil ?_)
    refine ewp_ret ?_
    obtain ⟨O179, S180, h133⟩ := h133.freeze
    replace hB := hB.st S180 (by decide) (by decide)
    replace h27 := h27.st S180 (by decide)
    replace h44 := h44.st S180 (by decide)
    replace h45 := h45.st S180 (by decide)
    obtain rfl := sm hm
    exact ret2 rfl (res_cell (cs := [(.slice x42.2.1.1 y39.1.length x42.2.1.2), (.slice x176.1 s175.length x176.2), (.slice x42.2.2.1 y39.2.length x42.2.2.2)]) rfl rfl h27.1.cellsAt) (res_tmp rfl) ⟨hB.ext, _, _, rfl, (Vb.mono (F := Fr 0 w177 O179) (Vb.ofAgg (cs := [(.slice x42.2.1.1 y39.1.length x42.2.1.2), (.slice x176.1 s175.length x176.2), (.slice x42.2.2.1 y39.2.length x42.2.2.2)]) (x := (⟨y39.1, s175, y39.2⟩ : Swp)) rfl ⟨_, _, _, rfl, h44, h133, h45⟩) hB.out), (vErr (show inI64 0 from by decide))⟩
noncomputable def m_symmetry_Compose (x0 : Tsk) (x1 : Swp) (x2 : Swp) : Option (Swp × Err) :=
  bnd (m_symmetry_demand x0 [x1, x2]) fun q70 => if q70.n ≠ 0 then (some ((⟨([] : List Int), ([] : List (List Int)), ([] : List Int)⟩ : Swp), (⟨q70.n⟩ : Err))) else (bnd (bnd (m_symmetry_along x1.vars x2.vars) fun q88 => bnd (m_symmetry_along x1.ops x2.ops) fun q90 => some (q88, q90) : Option ((List Int) × (List Int))) fun y81 => bnd (rng (ρ := Swp × Err) (fun (k158 : Nat) (a159 : List Int) (s156 : (List (List Int))) => bnd (x1.vars[k158]?) fun a184 => bnd (atI x2.vals a184) fun a194 => bnd (m_symmetry_along a159 a194) fun q209 => bnd (appI 24 s156 [q209]) fun u224 => some (.next u224)) x1.vals 0 ([] : List (List Int))) fun res154 => fin res154 fun (s241 : (List (List Int))) => some ((⟨y81.1, s241, y81.2⟩ : Swp), (⟨0⟩ : Err)))
theorem c_symmetry_Compose {w : World} {A : Nat → Prop} (hA : ∀ k, A k → k < w.heap.size) {vx0 : Value} {x0 : Tsk} (hx0 : Vb w A vx0 x0) {vx1 : Value} {x1 : Swp} (hx1 : Vb w A vx1 x1) {vx2 : Value} {x2 : Swp} (hx2 : Vb w A vx2 x2) {r : Swp × Err} (hm : m_symmetry_Compose x0 x1 x2 = some r) :
    Fn Try.prog 23 [vx0, vx1, vx2] w fun v w' => Ext w w' ∧ T2 w' (upA A w w') v r := by
  obtain ⟨O, hB, hA0⟩ := enter hA
  replace hx0 := hx0.mono hA0
  obtain ⟨cs1, rfl, v2, v3, v4, v5, rfl, h6, h9, h12, h15⟩ := hx0
  obtain ⟨A7, c8, rfl⟩ := h6.form
  obtain ⟨A10, c11, rfl⟩ := h9.form
  obtain ⟨A13, c14, rfl⟩ := h12.form
  obtain ⟨A16, c17, rfl⟩ := h15.form
  replace hx1 := hx1.mono hA0
  obtain ⟨cs18, rfl, v19, v20, v21, rfl, h22, h25, h28⟩ := hx1
  obtain ⟨A23, c24, rfl⟩ := h22.form
  obtain ⟨A26, c27, rfl⟩ := h25.form
  obtain ⟨A29, c30, rfl⟩ := h28.form
  replace hx2 := hx2.mono hA0
  obtain ⟨cs31, rfl, v32, v33, v34, rfl, h35, h38, h41⟩ := hx2
  obtain ⟨A36, c37, rfl⟩ := h35.form
  obtain ⟨A39, c40, rfl⟩ := h38.form
  obtain ⟨A42, c43, rfl⟩ := h41.form
  refine fn_enter Try.func23 rfl Try.ntmps23 rfl ?_
  unfold m_symmetry_Compose at hm
  refine ewp_seq ?_
  refine ewp_region ?_
  refine l_box 2 O rfl rfl fun g44 w45 O46 S47 h48 => ?_
  replace h48 : Lc 2 w45 O46 g44 26 [(.slice A7 x0.vars.length c8), (.slice A10 x0.init.length c11), (.slice A13 x0.goal.length c14), (.slice A16 x0.ops.length c17)] := h48
  replace hB := hB.st S47 (fun h => h) (fun h => h)
  replace h22 := h22.st S47 (fun h => h)
  replace h25 := h25.st S47 (fun h => h)
  replace h28 := h28.st S47 (fun h => h)
  replace h35 := h35.st S47 (fun h => h)
  replace h38 := h38.st S47 (fun h => h)
  replace h41 := h41.st S47 (fun h => h)
  replace h6 := h6.st S47 (fun h => h)
  replace h9 := h9.st S47 (fun h => h)
  replace h12 := h12.st S47 (fun h => h)
  replace h15 := h15.st S47 (fun h => h)
  refine l_box 3 O46 rfl rfl fun g49 w50 O51 S52 h53 => ?_
  replace h53 : Lc 3 w50 O51 g49 29 [(.slice A23 x1.vars.length c24), (.slice A26 x1.vals.length c27), (.slice A29 x1.ops.length c30)] := h53
  replace hB := hB.st S52 (fun h => h) (fun h => h)
  replace h35 := h35.st S52 (fun h => h)
  replace h38 := h38.st S52 (fun h => h)
  replace h41 := h41.st S52 (fun h => h)
  replace h48 := h48.st S52 (fun h => h)
  replace h6 := h6.st S52 (fun h => h)
  replace h9 := h9.st S52 (fun h => h)
  replace h12 := h12.st S52 (fun h => h)
  replace h15 := h15.st S52 (fun h => h)
  replace h22 := h22.st S52 (fun h => h)
  replace h25 := h25.st S52 (fun h => h)
  replace h28 := h28.st S52 (fun h => h)
  refine l_box 4 O51 rfl rfl fun g54 w55 O56 S57 h58 => ?_
  replace h58 : Lc 4 w55 O56 g54 29 [(.slice A36 x2.vars.length c37), (.slice A39 x2.vals.length c40), (.slice A42 x2.ops.length c43)] := h58
  replace hB := hB.st S57 (fun h => h) (fun h => h)
  replace h48 := h48.st S57 (fun h => h)
  replace h6 := h6.st S57 (fun h => h)
  replace h9 := h9.st S57 (fun h => h)
  replace h12 := h12.st S57 (fun h => h)
  replace h15 := h15.st S57 (fun h => h)
  replace h53 := h53.st S57 (fun h => h)
  replace h22 := h22.st S57 (fun h => h)
  replace h25 := h25.st S57 (fun h => h)
  replace h28 := h28.st S57 (fun h => h)
  replace h35 := h35.st S57 (fun h => h)
  replace h38 := h38.st S57 (fun h => h)
  replace h41 := h41.st S57 (fun h => h)
  refine l_alloc 5 O56 rfl fun g59 w60 O61 S62 h63 => ?_
  replace hB := hB.st S62 (fun h => h) (fun h => h)
  replace h48 := h48.st S62 (fun h => h)
  replace h6 := h6.st S62 (fun h => h)
  replace h9 := h9.st S62 (fun h => h)
  replace h12 := h12.st S62 (fun h => h)
  replace h15 := h15.st S62 (fun h => h)
  replace h53 := h53.st S62 (fun h => h)
  replace h22 := h22.st S62 (fun h => h)
  replace h25 := h25.st S62 (fun h => h)
  replace h28 := h28.st S62 (fun h => h)
  replace h58 := h58.st S62 (fun h => h)
  replace h35 := h35.st S62 (fun h => h)
  replace h38 := h38.st S62 (fun h => h)
  replace h41 := h41.st S62 (fun h => h)
  refine o_as rfl rfl  ?_
  (first | refine owp_nilT ?_ | refine owp_nilB ?_ | refine owp_nilBB ?_ | refine owp_nil ?_)
  refine ewp_seq ?_
  refine ewp_seq ?_
  refine ewp_region ?_
  refine o_la (hl := rfl) (hc := (h48.1).cellsAt) rfl rfl  ?_
  refine o_la (hl := rfl) (hc := (h53.1).cellsAt) rfl rfl  ?_
  refine o_la (hl := rfl) (hc := (h58.1).cellsAt) rfl rfl  ?_
  refine l_bslice 6 (by decide) O61 (xs := ([x1, x2] : List Swp)) rfl rfl rfl rfl ⟨(Vb.ofAgg (cs := [(.slice A23 x1.vars.length c24), (.slice A26 x1.vals.length c27), (.slice A29 x1.ops.length c30)]) (x := x1) rfl ⟨_, _, _, rfl, h22, h25, h28⟩), (Vb.ofAgg (cs := [(.slice A36 x2.vars.length c37), (.slice A39 x2.vals.length c40), (.slice A42 x2.ops.length c43)]) (x := x2) rfl ⟨_, _, _, rfl, h35, h38, h41⟩), trivial⟩ (by decide) (by decide) rfl fun g64 w65 O66 S67 h68 => ?_
  replace hB := hB.st S67 (fun h => h) (fun h => h)
  replace h53 := h53.st S67 (fun h => h)
  replace h22 := h22.st S67 (fun h => h)
  replace h25 := h25.st S67 (fun h => h)
  replace h28 := h28.st S67 (fun h => h)
  replace h58 := h58.st S67 (fun h => h)
  replace h35 := h35.st S67 (fun h => h)
  replace h38 := h38.st S67 (fun h => h)
  replace h41 := h41.st S67 (fun h => h)
  replace h63 := h63.st S67 (fun h => h)
  replace h6 := h6.st S67 (fun h => h)
  replace h9 := h9.st S67 (fun h => h)
  replace h12 := h12.st S67 (fun h => h)
  replace h15 := h15.st S67 (fun h => h)
  obtain ⟨q70, e71, hm⟩ := bs hm
  refine l_callA (O := O66) (A := All w65) (R := fun w' F v => Vb w' F v q70) (c_symmetry_demand (fun _ h => h) (Vb.mono (F := Fr 0 w65 O66) (Vb.ofAgg (cs := [(.slice A7 x0.vars.length c8), (.slice A10 x0.init.length c11), (.slice A13 x0.goal.length c14), (.slice A16 x0.ops.length c17)]) (x := x0) rfl ⟨_, _, _, _, rfl, h6, h9, h12, h15⟩) Fr.lt) (h68).all e71) rfl rfl fun v76 w72 O73 S74 h75 => ?_
  obtain ⟨rfl, r77⟩ := h75.err
  replace hB := hB.st S74 (fun h => h) (fun h => h)
  replace h53 := h53.st S74 (fun h => h)
  replace h22 := h22.st S74 (fun h => h)
  replace h25 := h25.st S74 (fun h => h)
  replace h28 := h28.st S74 (fun h => h)
  replace h58 := h58.st S74 (fun h => h)
  replace h35 := h35.st S74 (fun h => h)
  replace h38 := h38.st S74 (fun h => h)
  replace h41 := h41.st S74 (fun h => h)
  replace h63 := h63.st S74 (fun h => h)
  refine o_as rfl rfl  ?_
  (first | refine owp_nilT ?_ | refine owp_nilB ?_ | refine owp_nilBB ?_ | refine owp_nil ?_)
  refine ewp_seq ?_
  refine ewp_region ?_
  refine o_mv rfl rfl  ?_
  refine o_rnS rfl rfl (fun c78 => ?_) fun c78 => ?_
  · replace hm := ip hm c78
    (first | refine owp_nilT ?_ | refine owp_nilB ?_ | refine owp_nilBB ?_ | refine owp_nil ?_)
    refine ewp_true rfl ?_
    refine ewp_seq ?_
    refine ewp_region ?_
    refine o_bd rfl rfl rfl  ?_
    refine o_mv rfl rfl  ?_
    refine l_store h63 rfl rfl rfl (Nat.le_of_ble_eq_true rfl) (by first | exact allOne rfl | simp [Value.cells, Value.oneCell', errV_one]) fun w79 S80 h63 => ?_
    replace h63 : Lc 5 w79 O73 g59 29 [(.slice none 0 0), (.slice none 0 0), (.slice none 0 0)] := h63
    replace hB := hB.st S80 (by decide) (by decide)
    refine o_as rfl rfl  ?_
    (first | refine owp_nilT ?_ | refine owp_nilB ?_ | refine owp_nilBB ?_ | refine owp_nil ?_)
    refine ewp_ret ?_
    obtain rfl := sm hm
    exact ret2 rfl (res_cell (cs := [(.slice none 0 0), (.slice none 0 0), (.slice none 0 0)]) rfl rfl h63.1.cellsAt) (res_tmp rfl) ⟨hB.ext, _, _, rfl, (Vb.mono (F := Fr 0 w79 O73) (Vb.ofAgg (cs := [(.slice none 0 0), (.slice none 0 0), (.slice none 0 0)]) (x := (⟨([] : List Int), ([] : List (List Int)), ([] : List Int)⟩ : Swp)) rfl ⟨_, _, _, rfl, (Vb.nil _ _), (Vb.nil _ _), (Vb.nil _ _)⟩) hB.out), (vErr r77)⟩
  · replace hm := im hm c78
    (first | refine owp_nilT ?_ | refine owp_nilB ?_ | refine owp_nilBB ?_ | refine owp_nil ?_)
    refine ewp_false rfl ?_
    refine ewp_skip ?_
    refine ewp_seq ?_
    obtain ⟨y81, hy82, hm⟩ := bs hm
    refine ewp_join (fun l' w' => ∃ (x84 : Nat × (Option Addr × Nat) × (Option Addr × Nat)) (O' : Lab), subs l' [(4, (.pointer (some ⟨g49, 0, none⟩))), (5, (.pointer (some ⟨g54, 0, none⟩))), (6, (.pointer (some ⟨g59, 0, none⟩))), (9, (.pointer (some ⟨x84.1, 0, none⟩)))] ∧ Bs w A w' O' ∧ Lc 3 w' O' g49 29 [(.slice A23 x1.vars.length c24), (.slice A26 x1.vals.length c27), (.slice A29 x1.ops.length c30)] ∧ Vb w' (Fr 0 w' O') (.slice A23 x1.vars.length c24) x1.vars ∧ Vb w' (Fr 0 w' O') (.slice A26 x1.vals.length c27) x1.vals ∧ Vb w' (Fr 0 w' O') (.slice A29 x1.ops.length c30) x1.ops ∧ Lc 4 w' O' g54 29 [(.slice A36 x2.vars.length c37), (.slice A39 x2.vals.length c40), (.slice A42 x2.ops.length c43)] ∧ Vb w' (Fr 0 w' O') (.slice A36 x2.vars.length c37) x2.vars ∧ Vb w' (Fr 0 w' O') (.slice A39 x2.vals.length c40) x2.vals ∧ Vb w' (Fr 0 w' O') (.slice A42 x2.ops.length c43) x2.ops ∧ Lc 5 w' O' g59 29 [(.slice none 0 0), (.slice none 0 0), (.slice none 0 0)] ∧ Lc 7 w' O' x84.1 29 [(.slice x84.2.1.1 y81.1.length x84.2.1.2), (.slice none 0 0), (.slice x84.2.2.1 y81.2.length x84.2.2.2)] ∧ Vb w' (Fr 0 w' O') (.slice x84.2.1.1 y81.1.length x84.2.1.2) y81.1 ∧ Vb w' (Fr 0 w' O') (.slice x84.2.2.1 y81.2.length x84.2.2.2) y81.2) ?_ ?_
    · skip
      obtain ⟨q88, e89, hy82⟩ := bs hy82
      obtain ⟨q90, e91, hy82⟩ := bs hy82
      have hZ := St.refl (nT) w72 O73
      have zh53 := h53
      have zh22 := h22
      have zh25 := h25
      have zh28 := h28
      have zh58 := h58
      have zh35 := h35
      have zh38 := h38
      have zh41 := h41
      have zh63 := h63
      refine ewp_drawS (fun w' => ∃ O', St (nT) w72 O73 w' O') ?_
      refine hws_pre (fuel := 5) [(0, true), (1, true), (2, true), (3, true), (5, true), (6, true), (7, true), (8, true)] (by kernel_rfl) (by kernel_rfl) (by kernel_rfl) ⟨_, hZ⟩ ?_
      refine h_fa rfl rfl rfl  ?_
      refine h_ldC (hc := fun w' ⟨O', hq⟩ => Blk.cell (i := 0) ((zh53.st hq (by decide)).1) rfl) rfl rfl rfl  ?_
      refine h_fa rfl rfl rfl  ?_
      refine h_ldC (hc := fun w' ⟨O', hq⟩ => Blk.cell (i := 0) ((zh58.st hq (by decide)).1) rfl) rfl rfl rfl  ?_
      refine h_fa rfl rfl rfl  ?_
      refine h_ldC (hc := fun w' ⟨O', hq⟩ => Blk.cell (i := 2) ((zh53.st hq (by decide)).1) rfl) rfl rfl rfl  ?_
      refine h_fa rfl rfl rfl  ?_
      refine h_ldC (hc := fun w' ⟨O', hq⟩ => Blk.cell (i := 2) ((zh58.st hq (by decide)).1) rfl) rfl rfl rfl  ?_
      refine hwp_nilT ?_
      refine hws_two (i := 4) (j := 11) (by kernel_rfl) rfl rfl ?_ ?_
      · skip
        refine l_call (O := O73) (R := fun w' F v => Vb w' F v q88) (c_symmetry_along Fr.lt h22 h35 e89) rfl rfl fun v96 w92 O93 S94 h95 => ?_
        obtain ⟨A97, c98, rfl⟩ := h95.form
        replace hZ := hZ.comp S94 (fun _ h => h.elim)
        replace hB := hB.st S94 (fun h => h) (fun h => h)
        replace h53 := h53.st S94 (fun h => h)
        replace h22 := h22.st S94 (fun h => h)
        replace h25 := h25.st S94 (fun h => h)
        replace h28 := h28.st S94 (fun h => h)
        replace h58 := h58.st S94 (fun h => h)
        replace h35 := h35.st S94 (fun h => h)
        replace h38 := h38.st S94 (fun h => h)
        replace h41 := h41.st S94 (fun h => h)
        replace h63 := h63.st S94 (fun h => h)
        refine owp_loudS ⟨_, hZ⟩ ?_
        refine hws_two (i := 9) (j := 11) (by kernel_rfl) rfl rfl ?_ ?_
        · skip
          refine l_call (O := O93) (R := fun w' F v => Vb w' F v q90) (c_symmetry_along Fr.lt h28 h41 e91) rfl rfl fun v103 w99 O100 S101 h102 => ?_
          obtain ⟨A104, c105, rfl⟩ := h102.form
          replace hZ := hZ.comp S101 (fun _ h => h.elim)
          replace hB := hB.st S101 (fun h => h) (fun h => h)
          replace h53 := h53.st S101 (fun h => h)
          replace h22 := h22.st S101 (fun h => h)
          replace h25 := h25.st S101 (fun h => h)
          replace h28 := h28.st S101 (fun h => h)
          replace h58 := h58.st S101 (fun h => h)
          replace h35 := h35.st S101 (fun h => h)
          replace h38 := h38.st S101 (fun h => h)
          replace h41 := h41.st S101 (fun h => h)
          replace h63 := h63.st S101 (fun h => h)
          replace h95 := h95.st S101 (fun h => h)
          refine owp_loudS ⟨_, hZ⟩ ?_
          refine hws_pre (fuel := 2) [(10, true)] (by kernel_rfl) (by kernel_rfl) (by kernel_rfl) ⟨_, hZ⟩ ?_
          refine h_bd rfl rfl rfl rfl  ?_
          refine hwp_nilT ?_
          refine hws_one (i := 11) (by kernel_rfl) rfl ?_
          refine l_alloc 7 O100 rfl fun g106 w107 O108 S109 h110 => ?_
          replace hZ := hZ.comp S109 (fun _ h => h.elim)
          replace hB := hB.st S109 (fun h => h) (fun h => h)
          replace h53 := h53.st S109 (fun h => h)
          replace h22 := h22.st S109 (fun h => h)
          replace h25 := h25.st S109 (fun h => h)
          replace h28 := h28.st S109 (fun h => h)
          replace h58 := h58.st S109 (fun h => h)
          replace h35 := h35.st S109 (fun h => h)
          replace h38 := h38.st S109 (fun h => h)
          replace h41 := h41.st S109 (fun h => h)
          replace h63 := h63.st S109 (fun h => h)
          replace h95 := h95.st S109 (fun h => h)
          replace h102 := h102.st S109 (fun h => h)
          refine owp_loudS ⟨_, hZ⟩ ?_
          refine hws_one (i := 12) (by kernel_rfl) rfl ?_
          refine l_store h110 rfl rfl rfl (Nat.le_of_ble_eq_true rfl) (by first | exact allOne rfl | simp [Value.cells, Value.oneCell', errV_one]) fun w111 S112 h110 => ?_
          replace h110 : Lc 7 w111 O108 g106 29 [(.slice A97 q88.length c98), (.slice none 0 0), (.slice A104 q90.length c105)] := h110
          replace hB := hB.st S112 (by decide) (by decide)
          replace h53 := h53.st S112 (by decide)
          replace h22 := h22.st S112 (by decide)
          replace h25 := h25.st S112 (by decide)
          replace h28 := h28.st S112 (by decide)
          replace h58 := h58.st S112 (by decide)
          replace h35 := h35.st S112 (by decide)
          replace h38 := h38.st S112 (by decide)
          replace h41 := h41.st S112 (by decide)
          replace h63 := h63.st S112 (by decide)
          replace h95 := h95.st S112 (by decide)
          replace h102 := h102.st S112 (by decide)
          refine owp_loudSE (by kernel_rfl) ?_
          refine hws_nil (by kernel_rfl) ?_
          obtain rfl := sm hy82
          exact ⟨(g106, (A97, c98), (A104, c105)), _, ⟨rfl, rfl, rfl, rfl, trivial⟩, hB, h53, h22, h25, h28, h58, h35, h38, h41, h63, h110, h95, h102⟩
        · skip
          refine l_alloc 7 O93 rfl fun g113 w114 O115 S116 h117 => ?_
          replace hZ := hZ.comp S116 (fun _ h => h.elim)
          replace hB := hB.st S116 (fun h => h) (fun h => h)
          replace h53 := h53.st S116 (fun h => h)
          replace h22 := h22.st S116 (fun h => h)
          replace h25 := h25.st S116 (fun h => h)
          replace h28 := h28.st S116 (fun h => h)
          replace h58 := h58.st S116 (fun h => h)
          replace h35 := h35.st S116 (fun h => h)
          replace h38 := h38.st S116 (fun h => h)
          replace h41 := h41.st S116 (fun h => h)
          replace h63 := h63.st S116 (fun h => h)
          replace h95 := h95.st S116 (fun h => h)
          refine owp_loudS ⟨_, hZ⟩ ?_
          refine hws_one (i := 9) (by kernel_rfl) rfl ?_
          refine l_call (O := O115) (R := fun w' F v => Vb w' F v q90) (c_symmetry_along Fr.lt h28 h41 e91) rfl rfl fun v122 w118 O119 S120 h121 => ?_
          obtain ⟨A123, c124, rfl⟩ := h121.form
          replace hZ := hZ.comp S120 (fun _ h => h.elim)
          replace hB := hB.st S120 (fun h => h) (fun h => h)
          replace h53 := h53.st S120 (fun h => h)
          replace h22 := h22.st S120 (fun h => h)
          replace h25 := h25.st S120 (fun h => h)
          replace h28 := h28.st S120 (fun h => h)
          replace h58 := h58.st S120 (fun h => h)
          replace h35 := h35.st S120 (fun h => h)
          replace h38 := h38.st S120 (fun h => h)
          replace h41 := h41.st S120 (fun h => h)
          replace h63 := h63.st S120 (fun h => h)
          replace h117 := h117.st S120 (fun h => h)
          replace h95 := h95.st S120 (fun h => h)
          refine owp_loudS ⟨_, hZ⟩ ?_
          refine hws_pre (fuel := 1) [(10, true)] (by kernel_rfl) (by kernel_rfl) (by kernel_rfl) ⟨_, hZ⟩ ?_
          refine h_bd rfl rfl rfl rfl  ?_
          refine hwp_nilT ?_
          refine hws_one (i := 12) (by kernel_rfl) rfl ?_
          refine l_store h117 rfl rfl rfl (Nat.le_of_ble_eq_true rfl) (by first | exact allOne rfl | simp [Value.cells, Value.oneCell', errV_one]) fun w125 S126 h117 => ?_
          replace h117 : Lc 7 w125 O119 g113 29 [(.slice A97 q88.length c98), (.slice none 0 0), (.slice A123 q90.length c124)] := h117
          replace hB := hB.st S126 (by decide) (by decide)
          replace h53 := h53.st S126 (by decide)
          replace h22 := h22.st S126 (by decide)
          replace h25 := h25.st S126 (by decide)
          replace h28 := h28.st S126 (by decide)
          replace h58 := h58.st S126 (by decide)
          replace h35 := h35.st S126 (by decide)
          replace h38 := h38.st S126 (by decide)
          replace h41 := h41.st S126 (by decide)
          replace h63 := h63.st S126 (by decide)
          replace h95 := h95.st S126 (by decide)
          replace h121 := h121.st S126 (by decide)
          refine owp_loudSE (by kernel_rfl) ?_
          refine hws_nil (by kernel_rfl) ?_
          obtain rfl := sm hy82
          exact ⟨(g113, (A97, c98), (A123, c124)), _, ⟨rfl, rfl, rfl, rfl, trivial⟩, hB, h53, h22, h25, h28, h58, h35, h38, h41, h63, h117, h95, h121⟩
      · skip
        refine l_alloc 7 O73 rfl fun g127 w128 O129 S130 h131 => ?_
        replace hZ := hZ.comp S130 (fun _ h => h.elim)
        replace hB := hB.st S130 (fun h => h) (fun h => h)
        replace h53 := h53.st S130 (fun h => h)
        replace h22 := h22.st S130 (fun h => h)
        replace h25 := h25.st S130 (fun h => h)
        replace h28 := h28.st S130 (fun h => h)
        replace h58 := h58.st S130 (fun h => h)
        replace h35 := h35.st S130 (fun h => h)
        replace h38 := h38.st S130 (fun h => h)
        replace h41 := h41.st S130 (fun h => h)
        replace h63 := h63.st S130 (fun h => h)
        refine owp_loudS ⟨_, hZ⟩ ?_
        refine hws_one (i := 4) (by kernel_rfl) rfl ?_
        refine l_call (O := O129) (R := fun w' F v => Vb w' F v q88) (c_symmetry_along Fr.lt h22 h35 e89) rfl rfl fun v136 w132 O133 S134 h135 => ?_
        obtain ⟨A137, c138, rfl⟩ := h135.form
        replace hZ := hZ.comp S134 (fun _ h => h.elim)
        replace hB := hB.st S134 (fun h => h) (fun h => h)
        replace h53 := h53.st S134 (fun h => h)
        replace h22 := h22.st S134 (fun h => h)
        replace h25 := h25.st S134 (fun h => h)
        replace h28 := h28.st S134 (fun h => h)
        replace h58 := h58.st S134 (fun h => h)
        replace h35 := h35.st S134 (fun h => h)
        replace h38 := h38.st S134 (fun h => h)
        replace h41 := h41.st S134 (fun h => h)
        replace h63 := h63.st S134 (fun h => h)
        replace h131 := h131.st S134 (fun h => h)
        refine owp_loudS ⟨_, hZ⟩ ?_
        refine hws_one (i := 9) (by kernel_rfl) rfl ?_
        refine l_call (O := O133) (R := fun w' F v => Vb w' F v q90) (c_symmetry_along Fr.lt h28 h41 e91) rfl rfl fun v143 w139 O140 S141 h142 => ?_
        obtain ⟨A144, c145, rfl⟩ := h142.form
        replace hZ := hZ.comp S141 (fun _ h => h.elim)
        replace hB := hB.st S141 (fun h => h) (fun h => h)
        replace h53 := h53.st S141 (fun h => h)
        replace h22 := h22.st S141 (fun h => h)
        replace h25 := h25.st S141 (fun h => h)
        replace h28 := h28.st S141 (fun h => h)
        replace h58 := h58.st S141 (fun h => h)
        replace h35 := h35.st S141 (fun h => h)
        replace h38 := h38.st S141 (fun h => h)
        replace h41 := h41.st S141 (fun h => h)
        replace h63 := h63.st S141 (fun h => h)
        replace h131 := h131.st S141 (fun h => h)
        replace h135 := h135.st S141 (fun h => h)
        refine owp_loudS ⟨_, hZ⟩ ?_
        refine hws_pre (fuel := 1) [(10, true)] (by kernel_rfl) (by kernel_rfl) (by kernel_rfl) ⟨_, hZ⟩ ?_
        refine h_bd rfl rfl rfl rfl  ?_
        refine hwp_nilT ?_
        refine hws_one (i := 12) (by kernel_rfl) rfl ?_
        refine l_store h131 rfl rfl rfl (Nat.le_of_ble_eq_true rfl) (by first | exact allOne rfl | simp [Value.cells, Value.oneCell', errV_one]) fun w146 S147 h131 => ?_
        replace h131 : Lc 7 w146 O140 g127 29 [(.slice A137 q88.length c138), (.slice none 0 0), (.slice A144 q90.length c145)] := h131
        replace hB := hB.st S147 (by decide) (by decide)
        replace h53 := h53.st S147 (by decide)
        replace h22 := h22.st S147 (by decide)
        replace h25 := h25.st S147 (by decide)
        replace h28 := h28.st S147 (by decide)
        replace h58 := h58.st S147 (by decide)
        replace h35 := h35.st S147 (by decide)
        replace h38 := h38.st S147 (by decide)
        replace h41 := h41.st S147 (by decide)
        replace h63 := h63.st S147 (by decide)
        replace h135 := h135.st S147 (by decide)
        replace h142 := h142.st S147 (by decide)
        refine owp_loudSE (by kernel_rfl) ?_
        refine hws_nil (by kernel_rfl) ?_
        obtain rfl := sm hy82
        exact ⟨(g127, (A137, c138), (A144, c145)), _, ⟨rfl, rfl, rfl, rfl, trivial⟩, hB, h53, h22, h25, h28, h58, h35, h38, h41, h63, h131, h135, h142⟩
    rintro l148 w149 ⟨x84, O150, hs151, hB, h53, h22, h25, h28, h58, h35, h38, h41, h63, h85, h86, h87⟩
    refine ewp_sub _ hs151 ?_
    refine ewp_seq ?_
    refine ewp_seq ?_
    refine ewp_region ?_
    refine o_fa rfl rfl  ?_
    refine o_ld (hc := Blk.cell (i := 1) (h53.1) rfl) rfl rfl  ?_
    refine o_ln rfl rfl  ?_
    have l153 : x1.vals.length ≤ 9223372036854775807 := Nat.le_trans h25.len.2.1 h25.len.2.2
    have r152 : inI64 (x1.vals.length : Int) := rngNat l153
    refine o_mv rfl rfl  ?_
    (first | refine owp_nilT ?_ | refine owp_nilB ?_ | refine owp_nilBB ?_ | refine owp_nil ?_)
    obtain ⟨res154, hL155, hm⟩ := bs hm
    refine ewp_join (aft res154 (fun (s156 : (List (List Int))) (x157 : (Option Addr × Nat)) => [(6, (.pointer (some ⟨g59, 0, none⟩))), (9, (.pointer (some ⟨x84.1, 0, none⟩)))]) (fun s156 x157 w' => ∃ O' : Lab, Bs w A w' O' ∧ Lc 5 w' O' g59 29 [(.slice none 0 0), (.slice none 0 0), (.slice none 0 0)] ∧ Lc 7 w' O' x84.1 29 [(.slice x84.2.1.1 y81.1.length x84.2.1.2), (.slice x157.1 s156.length x157.2), (.slice x84.2.2.1 y81.2.length x84.2.2.2)] ∧ Vb w' (Fr 0 w' O') (.slice x84.2.1.1 y81.1.length x84.2.1.2) y81.1 ∧ Rw 9 w' O' 22 (.slice x157.1 s156.length x157.2) s156 ∧ Vb w' (Fr 0 w' O') (.slice x84.2.2.1 y81.2.length x84.2.2.2) y81.2)) ?_ ?_
    · refine ewp_block ?_
      refine ewp_rng (σ := (List (List Int))) (X := (Option Addr × Nat)) (x1.vals.length) hL155 rfl l153 (fun (s156 : (List (List Int))) (x157 : (Option Addr × Nat)) => [(4, (.pointer (some ⟨g49, 0, none⟩))), (5, (.pointer (some ⟨g54, 0, none⟩))), (6, (.pointer (some ⟨g59, 0, none⟩))), (9, (.pointer (some ⟨x84.1, 0, none⟩))), (33, (.slice A26 x1.vals.length c27))]) _ (fun s156 x157 w' => ∃ O' : Lab, Bs w A w' O' ∧ Lc 3 w' O' g49 29 [(.slice A23 x1.vars.length c24), (.slice A26 x1.vals.length c27), (.slice A29 x1.ops.length c30)] ∧ Vb w' (Fr 0 w' O') (.slice A23 x1.vars.length c24) x1.vars ∧ Vb w' (Fr 0 w' O') (.slice A26 x1.vals.length c27) x1.vals ∧ Vb w' (Fr 0 w' O') (.slice A29 x1.ops.length c30) x1.ops ∧ Lc 4 w' O' g54 29 [(.slice A36 x2.vars.length c37), (.slice A39 x2.vals.length c40), (.slice A42 x2.ops.length c43)] ∧ Vb w' (Fr 0 w' O') (.slice A36 x2.vars.length c37) x2.vars ∧ Vb w' (Fr 0 w' O') (.slice A39 x2.vals.length c40) x2.vals ∧ Vb w' (Fr 0 w' O') (.slice A42 x2.ops.length c43) x2.ops ∧ Lc 5 w' O' g59 29 [(.slice none 0 0), (.slice none 0 0), (.slice none 0 0)] ∧ Lc 7 w' O' x84.1 29 [(.slice x84.2.1.1 y81.1.length x84.2.1.2), (.slice x157.1 s156.length x157.2), (.slice x84.2.2.1 y81.2.length x84.2.2.2)] ∧ Vb w' (Fr 0 w' O') (.slice x84.2.1.1 y81.1.length x84.2.1.2) y81.1 ∧ Rw 9 w' O' 22 (.slice x157.1 s156.length x157.2) s156 ∧ Vb w' (Fr 0 w' O') (.slice x84.2.2.1 y81.2.length x84.2.2.2) y81.2) _ (none, 0) ⟨O150, hB, h53, h22, h25, h28, h58, h35, h38, h41, h63, h85, h86, (Rw.nil 9 (by decide)), h87⟩ ⟨rfl, rfl, rfl, rfl, rfl, rfl, rfl, trivial⟩ (fun _ _ => ⟨rfl, rfl⟩) (fun _ _ => ⟨rfl, rfl, trivial⟩) (fun _ _ _ ⟨O', hB, h53, h22, h25, h28, h58, h35, h38, h41, h63, h85, h86, h171, h87⟩ => ⟨O', hB, h63, h85, h86, h171, h87⟩) ⟨rfl, rfl, rfl⟩ ⟨rfl, rfl⟩ ?_
      rintro k158 a159 s156 x157 w160 cc162 hx163 ⟨O161, hB, h53, h22, h25, h28, h58, h35, h38, h41, h63, h85, h86, h171, h87⟩ hf164 hret165 hbrk166
      have rk158 : inI64 (k158 : Int) := rngK hx163 l153
      refine ewp_seq ?_
      refine ewp_region ?_
      refine o_mv rfl rfl  ?_
      obtain ⟨b173, o174, ce175, hA176, hl177, hd178, v180, rfl, h181⟩ := h25.elem' hx163
      replace h181 := Vb.of_slice h181
      obtain ⟨A182, c183, rfl⟩ := h181.form
      refine o_iaE (hA := hA176) (hj := rfl) (hlt := hl177) rfl rfl rfl  ?_
      refine o_ld (hc := cat0 hd178) rfl rfl  ?_
      refine o_as rfl rfl  ?_
      refine o_as rfl rfl  ?_
      (first | refine owp_nilT ?_ | refine owp_nilB ?_ | refine owp_nilBB ?_ | refine owp_nil ?_)
      have hZ := St.refl (eT 9) w160 O161
      have zh53 := h53
      have zh22 := h22
      have zh25 := h25
      have zh28 := h28
      have zh58 := h58
      have zh35 := h35
      have zh38 := h38
      have zh41 := h41
      have zh63 := h63
      have zh85 := h85
      have zh86 := h86
      have zh171 := h171
      have zh87 := h87
      have zh181 := h181
      refine ewp_drawS (fun w' => ∃ O', St (eT 9) w160 O161 w' O') ?_
      refine hws_pre (fuel := 5) [(0, true), (1, true), (2, true), (3, true), (4, true), (5, true), (6, true), (7, true), (8, true), (9, true), (10, true), (11, true)] (by kernel_rfl) (by kernel_rfl) (by kernel_rfl) ⟨_, hZ⟩ ?_
      refine h_fa rfl rfl rfl  ?_
      refine h_ldC (hc := fun w' ⟨O', hq⟩ => Blk.cell (i := 1) ((zh85.st hq (by decide)).1) rfl) rfl rfl rfl  ?_
      refine h_mv rfl rfl rfl  ?_
      refine h_fa rfl rfl rfl  ?_
      refine h_ldC (hc := fun w' ⟨O', hq⟩ => Blk.cell (i := 1) ((zh58.st hq (by decide)).1) rfl) rfl rfl rfl  ?_
      refine h_fa rfl rfl rfl  ?_
      refine h_ldC (hc := fun w' ⟨O', hq⟩ => Blk.cell (i := 0) ((zh53.st hq (by decide)).1) rfl) rfl rfl rfl  ?_
      refine h_mv rfl rfl rfl  ?_
      obtain ⟨a184, e185, hf164⟩ := bs hf164
      obtain ⟨b186, o187, ce188, hA189, hF192, hl190, hd191, rfl, r193⟩ := zh22.elem e185
      refine h_iaE (hA := hA189) (hj := rfl) (hlt := hl190) rfl rfl rfl rfl  ?_
      refine h_ldC (hc := fun w' ⟨O', hq⟩ => cat0 (cellsAt_agree (hq.agree (i := 0) (by decide)) hF192 hd191)) rfl rfl rfl  ?_
      obtain ⟨a194, e195, hf164⟩ := bs hf164
      obtain ⟨p197, x196⟩ := atI_some' e195
      obtain ⟨b198, o199, ce200, hA201, hF204, hl202, hd203, v205, rfl, h206⟩ := zh38.elem x196
      replace h206 := Vb.of_slice h206
      obtain ⟨A207, c208, rfl⟩ := h206.form
      have zh206 := h206
      refine h_iaE (hA := hA201) (hj := (Int.toNat_of_nonneg p197).symm) (hlt := hl202) rfl rfl rfl rfl  ?_
      refine h_ldC (hc := fun w' ⟨O', hq⟩ => cat0 (cellsAt_agree (hq.agree (i := 0) (by decide)) hF204 hd203)) rfl rfl rfl  ?_
      refine hwp_nilT ?_
      refine hws_one (i := 12) (by kernel_rfl) rfl ?_
      obtain ⟨q209, e210, hf164⟩ := bs hf164
      refine l_call (O := O161) (R := fun w' F v => Vb w' F v q209) (c_symmetry_along Fr.lt h181 h206 e210) rfl rfl fun v215 w211 O212 S213 h214 => ?_
      obtain ⟨A216, c217, rfl⟩ := h214.form
      replace hZ := hZ.comp S213 (fun _ h => h.elim)
      replace hB := hB.st S213 (fun h => h) (fun h => h)
      replace h53 := h53.st S213 (fun h => h)
      replace h22 := h22.st S213 (fun h => h)
      replace h25 := h25.st S213 (fun h => h)
      replace h28 := h28.st S213 (fun h => h)
      replace h58 := h58.st S213 (fun h => h)
      replace h35 := h35.st S213 (fun h => h)
      replace h38 := h38.st S213 (fun h => h)
      replace h41 := h41.st S213 (fun h => h)
      replace h63 := h63.st S213 (fun h => h)
      replace h85 := h85.st S213 (fun h => h)
      replace h86 := h86.st S213 (fun h => h)
      replace h171 := h171.st S213 (fun h => h) (fun h => h)
      replace h87 := h87.st S213 (fun h => h)
      refine owp_loudS ⟨_, hZ⟩ ?_
      refine hws_one (i := 13) (by kernel_rfl) rfl ?_
      refine l_bslice 8 (by decide) O212 (xs := ([q209] : List (List Int))) rfl rfl rfl rfl ⟨h214, trivial⟩ (by decide) (by decide) rfl fun g218 w219 O220 S221 h222 => ?_
      replace hZ := hZ.comp S221 (fun _ h => h.elim)
      replace hB := hB.st S221 (fun h => h) (fun h => h)
      replace h53 := h53.st S221 (fun h => h)
      replace h22 := h22.st S221 (fun h => h)
      replace h25 := h25.st S221 (fun h => h)
      replace h28 := h28.st S221 (fun h => h)
      replace h58 := h58.st S221 (fun h => h)
      replace h35 := h35.st S221 (fun h => h)
      replace h38 := h38.st S221 (fun h => h)
      replace h41 := h41.st S221 (fun h => h)
      replace h63 := h63.st S221 (fun h => h)
      replace h85 := h85.st S221 (fun h => h)
      replace h86 := h86.st S221 (fun h => h)
      replace h171 := h171.st S221 (fun h => h) (fun h => h)
      replace h87 := h87.st S221 (fun h => h)
      refine owp_loudS ⟨_, hZ⟩ ?_
      refine hws_one (i := 14) (by kernel_rfl) rfl ?_
      obtain ⟨u224, e225, hf164⟩ := bs hf164
      obtain ⟨e225, e226, e227⟩ := appI_some e225
      refine l_append rfl h171 (h222.rd) rfl rfl (by decide) e226 e227 rfl fun A228 c229 w230 O231 S232 h233 => ?_
      rw [← e225] at h233 ⊢
      replace hZ := hZ.comp S232 (fun _ h => by cases h; decide)
      replace hB := hB.st S232 (by decide) (by decide)
      replace h53 := h53.st S232 (by decide)
      replace h22 := h22.st S232 (by decide)
      replace h25 := h25.st S232 (by decide)
      replace h28 := h28.st S232 (by decide)
      replace h58 := h58.st S232 (by decide)
      replace h35 := h35.st S232 (by decide)
      replace h38 := h38.st S232 (by decide)
      replace h41 := h41.st S232 (by decide)
      replace h63 := h63.st S232 (by decide)
      replace h85 := h85.st S232 (by decide)
      replace h86 := h86.st S232 (by decide)
      replace h87 := h87.st S232 (by decide)
      refine owp_loudS ⟨_, hZ⟩ ?_
      refine hws_pre (fuel := 1) [(15, true)] (by kernel_rfl) (by kernel_rfl) (by kernel_rfl) ⟨_, hZ⟩ ?_
      refine h_fa rfl rfl rfl  ?_
      refine hwp_nilT ?_
      refine hws_one (i := 16) (by kernel_rfl) rfl ?_
      refine l_store h85 rfl rfl rfl (Nat.le_of_ble_eq_true rfl) (by first | exact allOne rfl | simp [Value.cells, Value.oneCell', errV_one]) fun w235 S236 h85 => ?_
      replace h85 : Lc 7 w235 O231 x84.1 29 [(.slice x84.2.1.1 y81.1.length x84.2.1.2), (.slice A228 u224.length c229), (.slice x84.2.2.1 y81.2.length x84.2.2.2)] := h85
      replace hB := hB.st S236 (by decide) (by decide)
      replace h53 := h53.st S236 (by decide)
      replace h22 := h22.st S236 (by decide)
      replace h25 := h25.st S236 (by decide)
      replace h28 := h28.st S236 (by decide)
      replace h58 := h58.st S236 (by decide)
      replace h35 := h35.st S236 (by decide)
      replace h38 := h38.st S236 (by decide)
      replace h41 := h41.st S236 (by decide)
      replace h63 := h63.st S236 (by decide)
      replace h86 := h86.st S236 (by decide)
      replace h233 := h233.st S236 (by decide) (by decide)
      replace h87 := h87.st S236 (by decide)
      refine owp_loudSE (by kernel_rfl) ?_
      refine hws_nil (by kernel_rfl) ?_
      obtain rfl := sm hf164
      refine (?_ : Exists _)
      exact ⟨_, (A228, c229), rfl, ⟨rfl, rfl, rfl, rfl, rfl, rfl, rfl, trivial⟩, _, hB, h53, h22, h25, h28, h58, h35, h38, h41, h63, h85, h86, h233, h87⟩
    rintro l237 w238 ⟨s241, x242, rfl, hs240, O239, hB, h63, h85, h86, h171, h87⟩
    replace hm := fin_done hm
    refine ewp_sub _ hs240 ?_
    refine ewp_seq ?_
    refine ewp_region ?_
    refine o_la (hl := rfl) (hc := (h85.1).cellsAt) rfl rfl  ?_
    refine l_store h63 rfl rfl rfl (Nat.le_of_ble_eq_true rfl) (by first | exact allOne rfl | simp [Value.cells, Value.oneCell', errV_one]) fun w243 S244 h63 => ?_
    replace h63 : Lc 5 w243 O239 g59 29 [(.slice x84.2.1.1 y81.1.length x84.2.1.2), (.slice x242.1 s241.length x242.2), (.slice x84.2.2.1 y81.2.length x84.2.2.2)] := h63
    replace hB := hB.st S244 (by decide) (by decide)
    replace h86 := h86.st S244 (by decide)
    replace h171 := h171.st S244 (by decide) (by decide)
    replace h87 := h87.st S244 (by decide)
    refine o_as rfl rfl  ?_
    (first | refine owp_nilT ?_ | refine owp_nilB ?_ | refine owp_nilBB ?_ | refine owp_nil ?_)
    refine ewp_ret ?_
    obtain ⟨O245, S246, h171⟩ := h171.freeze
    replace hB := hB.st S246 (by decide) (by decide)
    replace h63 := h63.st S246 (by decide)
    replace h86 := h86.st S246 (by decide)
    replace h87 := h87.st S246 (by decide)
    obtain rfl := sm hm
    exact ret2 rfl (res_cell (cs := [(.slice x84.2.1.1 y81.1.length x84.2.1.2), (.slice x242.1 s241.length x242.2), (.slice x84.2.2.1 y81.2.length x84.2.2.2)]) rfl rfl h63.1.cellsAt) (res_tmp rfl) ⟨hB.ext, _, _, rfl, (Vb.mono (F := Fr 0 w243 O245) (Vb.ofAgg (cs := [(.slice x84.2.1.1 y81.1.length x84.2.1.2), (.slice x242.1 s241.length x242.2), (.slice x84.2.2.1 y81.2.length x84.2.2.2)]) (x := (⟨y81.1, s241, y81.2⟩ : Swp)) rfl ⟨_, _, _, rfl, h86, h171, h87⟩) hB.out), (vErr (show inI64 0 from by decide))⟩
noncomputable def m_symmetry_Inverse (x0 : Tsk) (x1 : Swp) : Option (Swp × Err) :=
  bnd (m_symmetry_demand x0 [x1]) fun q52 => if q52.n ≠ 0 then (some ((⟨([] : List Int), ([] : List (List Int)), ([] : List Int)⟩ : Swp), (⟨q52.n⟩ : Err))) else (bnd (bnd (m_symmetry_back x1.vars) fun q72 => bnd (m_symmetry_back x1.ops) fun q74 => bnd (mkI 24 (([] : List Int) : List Int) (x1.vals.length : Int)) fun u76 => some (q72, u76, q74) : Option ((List Int) × (List (List Int)) × (List Int))) fun y63 => bnd (rng (ρ := Swp × Err) (fun (k370 : Nat) (a371 : List Int) (s368 : (List (List Int))) => bnd (x1.vars[k370]?) fun a396 => bnd (m_symmetry_back a371) fun q406 => bnd (atI s368 a396) fun a415 => some (.next (s368.set (a396).toNat q406))) x1.vals 0 y63.2.1) fun res366 => fin res366 fun (s436 : (List (List Int))) => some ((⟨y63.1, s436, y63.2.2⟩ : Swp), (⟨0⟩ : Err)))
theorem c_symmetry_Inverse {w : World} {A : Nat → Prop} (hA : ∀ k, A k → k < w.heap.size) {vx0 : Value} {x0 : Tsk} (hx0 : Vb w A vx0 x0) {vx1 : Value} {x1 : Swp} (hx1 : Vb w A vx1 x1) {r : Swp × Err} (hm : m_symmetry_Inverse x0 x1 = some r) :
    Fn Try.prog 25 [vx0, vx1] w fun v w' => Ext w w' ∧ T2 w' (upA A w w') v r := by
  obtain ⟨O, hB, hA0⟩ := enter hA
  replace hx0 := hx0.mono hA0
  obtain ⟨cs1, rfl, v2, v3, v4, v5, rfl, h6, h9, h12, h15⟩ := hx0
  obtain ⟨A7, c8, rfl⟩ := h6.form
  obtain ⟨A10, c11, rfl⟩ := h9.form
  obtain ⟨A13, c14, rfl⟩ := h12.form
  obtain ⟨A16, c17, rfl⟩ := h15.form
  replace hx1 := hx1.mono hA0
  obtain ⟨cs18, rfl, v19, v20, v21, rfl, h22, h25, h28⟩ := hx1
  obtain ⟨A23, c24, rfl⟩ := h22.form
  obtain ⟨A26, c27, rfl⟩ := h25.form
  obtain ⟨A29, c30, rfl⟩ := h28.form
  refine fn_enter Try.func25 rfl Try.ntmps25 rfl ?_
  unfold m_symmetry_Inverse at hm
  refine ewp_seq ?_
  refine ewp_region ?_
  refine l_box 2 O rfl rfl fun g31 w32 O33 S34 h35 => ?_
  replace h35 : Lc 2 w32 O33 g31 26 [(.slice A7 x0.vars.length c8), (.slice A10 x0.init.length c11), (.slice A13 x0.goal.length c14), (.slice A16 x0.ops.length c17)] := h35
  replace hB := hB.st S34 (fun h => h) (fun h => h)
  replace h22 := h22.st S34 (fun h => h)
  replace h25 := h25.st S34 (fun h => h)
  replace h28 := h28.st S34 (fun h => h)
  replace h6 := h6.st S34 (fun h => h)
  replace h9 := h9.st S34 (fun h => h)
  replace h12 := h12.st S34 (fun h => h)
  replace h15 := h15.st S34 (fun h => h)
  refine l_box 3 O33 rfl rfl fun g36 w37 O38 S39 h40 => ?_
  replace h40 : Lc 3 w37 O38 g36 29 [(.slice A23 x1.vars.length c24), (.slice A26 x1.vals.length c27), (.slice A29 x1.ops.length c30)] := h40
  replace hB := hB.st S39 (fun h => h) (fun h => h)
  replace h35 := h35.st S39 (fun h => h)
  replace h6 := h6.st S39 (fun h => h)
  replace h9 := h9.st S39 (fun h => h)
  replace h12 := h12.st S39 (fun h => h)
  replace h15 := h15.st S39 (fun h => h)
  replace h22 := h22.st S39 (fun h => h)
  replace h25 := h25.st S39 (fun h => h)
  replace h28 := h28.st S39 (fun h => h)
  refine l_alloc 4 O38 rfl fun g41 w42 O43 S44 h45 => ?_
  replace hB := hB.st S44 (fun h => h) (fun h => h)
  replace h35 := h35.st S44 (fun h => h)
  replace h6 := h6.st S44 (fun h => h)
  replace h9 := h9.st S44 (fun h => h)
  replace h12 := h12.st S44 (fun h => h)
  replace h15 := h15.st S44 (fun h => h)
  replace h40 := h40.st S44 (fun h => h)
  replace h22 := h22.st S44 (fun h => h)
  replace h25 := h25.st S44 (fun h => h)
  replace h28 := h28.st S44 (fun h => h)
  refine o_as rfl rfl  ?_
  (first | refine owp_nilT ?_ | refine owp_nilB ?_ | refine owp_nilBB ?_ | refine owp_nil ?_)
  refine ewp_seq ?_
  refine ewp_seq ?_
  refine ewp_region ?_
  refine o_la (hl := rfl) (hc := (h35.1).cellsAt) rfl rfl  ?_
  refine o_la (hl := rfl) (hc := (h40.1).cellsAt) rfl rfl  ?_
  refine l_bslice 5 (by decide) O43 (xs := ([x1] : List Swp)) rfl rfl rfl rfl ⟨(Vb.ofAgg (cs := [(.slice A23 x1.vars.length c24), (.slice A26 x1.vals.length c27), (.slice A29 x1.ops.length c30)]) (x := x1) rfl ⟨_, _, _, rfl, h22, h25, h28⟩), trivial⟩ (by decide) (by decide) rfl fun g46 w47 O48 S49 h50 => ?_
  replace hB := hB.st S49 (fun h => h) (fun h => h)
  replace h40 := h40.st S49 (fun h => h)
  replace h22 := h22.st S49 (fun h => h)
  replace h25 := h25.st S49 (fun h => h)
  replace h28 := h28.st S49 (fun h => h)
  replace h45 := h45.st S49 (fun h => h)
  replace h6 := h6.st S49 (fun h => h)
  replace h9 := h9.st S49 (fun h => h)
  replace h12 := h12.st S49 (fun h => h)
  replace h15 := h15.st S49 (fun h => h)
  obtain ⟨q52, e53, hm⟩ := bs hm
  refine l_callA (O := O48) (A := All w47) (R := fun w' F v => Vb w' F v q52) (c_symmetry_demand (fun _ h => h) (Vb.mono (F := Fr 0 w47 O48) (Vb.ofAgg (cs := [(.slice A7 x0.vars.length c8), (.slice A10 x0.init.length c11), (.slice A13 x0.goal.length c14), (.slice A16 x0.ops.length c17)]) (x := x0) rfl ⟨_, _, _, _, rfl, h6, h9, h12, h15⟩) Fr.lt) (h50).all e53) rfl rfl fun v58 w54 O55 S56 h57 => ?_
  obtain ⟨rfl, r59⟩ := h57.err
  replace hB := hB.st S56 (fun h => h) (fun h => h)
  replace h40 := h40.st S56 (fun h => h)
  replace h22 := h22.st S56 (fun h => h)
  replace h25 := h25.st S56 (fun h => h)
  replace h28 := h28.st S56 (fun h => h)
  replace h45 := h45.st S56 (fun h => h)
  refine o_as rfl rfl  ?_
  (first | refine owp_nilT ?_ | refine owp_nilB ?_ | refine owp_nilBB ?_ | refine owp_nil ?_)
  refine ewp_seq ?_
  refine ewp_region ?_
  refine o_mv rfl rfl  ?_
  refine o_rnS rfl rfl (fun c60 => ?_) fun c60 => ?_
  · replace hm := ip hm c60
    (first | refine owp_nilT ?_ | refine owp_nilB ?_ | refine owp_nilBB ?_ | refine owp_nil ?_)
    refine ewp_true rfl ?_
    refine ewp_seq ?_
    refine ewp_region ?_
    refine o_bd rfl rfl rfl  ?_
    refine o_mv rfl rfl  ?_
    refine l_store h45 rfl rfl rfl (Nat.le_of_ble_eq_true rfl) (by first | exact allOne rfl | simp [Value.cells, Value.oneCell', errV_one]) fun w61 S62 h45 => ?_
    replace h45 : Lc 4 w61 O55 g41 29 [(.slice none 0 0), (.slice none 0 0), (.slice none 0 0)] := h45
    replace hB := hB.st S62 (by decide) (by decide)
    refine o_as rfl rfl  ?_
    (first | refine owp_nilT ?_ | refine owp_nilB ?_ | refine owp_nilBB ?_ | refine owp_nil ?_)
    refine ewp_ret ?_
    obtain rfl := sm hm
    exact ret2 rfl (res_cell (cs := [(.slice none 0 0), (.slice none 0 0), (.slice none 0 0)]) rfl rfl h45.1.cellsAt) (res_tmp rfl) ⟨hB.ext, _, _, rfl, (Vb.mono (F := Fr 0 w61 O55) (Vb.ofAgg (cs := [(.slice none 0 0), (.slice none 0 0), (.slice none 0 0)]) (x := (⟨([] : List Int), ([] : List (List Int)), ([] : List Int)⟩ : Swp)) rfl ⟨_, _, _, rfl, (Vb.nil _ _), (Vb.nil _ _), (Vb.nil _ _)⟩) hB.out), (vErr r59)⟩
  · replace hm := im hm c60
    (first | refine owp_nilT ?_ | refine owp_nilB ?_ | refine owp_nilBB ?_ | refine owp_nil ?_)
    refine ewp_false rfl ?_
    refine ewp_skip ?_
    refine ewp_seq ?_
    obtain ⟨y63, hy64, hm⟩ := bs hm
    refine ewp_join (fun l' w' => ∃ (x66 : Nat × (Option Addr × Nat) × (Option Addr × Nat) × (Option Addr × Nat)) (O' : Lab), subs l' [(3, (.pointer (some ⟨g36, 0, none⟩))), (4, (.pointer (some ⟨g41, 0, none⟩))), (7, (.pointer (some ⟨x66.1, 0, none⟩)))] ∧ Bs w A w' O' ∧ Lc 3 w' O' g36 29 [(.slice A23 x1.vars.length c24), (.slice A26 x1.vals.length c27), (.slice A29 x1.ops.length c30)] ∧ Vb w' (Fr 0 w' O') (.slice A23 x1.vars.length c24) x1.vars ∧ Vb w' (Fr 0 w' O') (.slice A26 x1.vals.length c27) x1.vals ∧ Vb w' (Fr 0 w' O') (.slice A29 x1.ops.length c30) x1.ops ∧ Lc 4 w' O' g41 29 [(.slice none 0 0), (.slice none 0 0), (.slice none 0 0)] ∧ Lc 7 w' O' x66.1 29 [(.slice x66.2.1.1 y63.1.length x66.2.1.2), (.slice x66.2.2.1.1 y63.2.1.length x66.2.2.1.2), (.slice x66.2.2.2.1 y63.2.2.length x66.2.2.2.2)] ∧ Vb w' (Fr 0 w' O') (.slice x66.2.1.1 y63.1.length x66.2.1.2) y63.1 ∧ Rw 6 w' O' 22 (.slice x66.2.2.1.1 y63.2.1.length x66.2.2.1.2) y63.2.1 ∧ Vb w' (Fr 0 w' O') (.slice x66.2.2.2.1 y63.2.2.length x66.2.2.2.2) y63.2.2) ?_ ?_
    · skip
      obtain ⟨q72, e73, hy64⟩ := bs hy64
      obtain ⟨q74, e75, hy64⟩ := bs hy64
      obtain ⟨u76, e77, hy64⟩ := bs hy64
      have hZ := St.refl (nT) w54 O55
      have zh40 := h40
      have zh22 := h22
      have zh25 := h25
      have zh28 := h28
      have zh45 := h45
      refine ewp_drawS (fun w' => ∃ O', St (nT) w54 O55 w' O') ?_
      refine hws_pre (fuel := 6) [(0, true), (1, true), (3, true), (4, true), (6, true), (7, true), (8, true)] (by kernel_rfl) (by kernel_rfl) (by kernel_rfl) ⟨_, hZ⟩ ?_
      refine h_fa rfl rfl rfl  ?_
      refine h_ldC (hc := fun w' ⟨O', hq⟩ => Blk.cell (i := 0) ((zh40.st hq (by decide)).1) rfl) rfl rfl rfl  ?_
      refine h_fa rfl rfl rfl  ?_
      refine h_ldC (hc := fun w' ⟨O', hq⟩ => Blk.cell (i := 2) ((zh40.st hq (by decide)).1) rfl) rfl rfl rfl  ?_
      refine h_fa rfl rfl rfl  ?_
      refine h_ldC (hc := fun w' ⟨O', hq⟩ => Blk.cell (i := 1) ((zh40.st hq (by decide)).1) rfl) rfl rfl rfl  ?_
      refine h_ln rfl rfl rfl  ?_
      have l79 : x1.vals.length ≤ 9223372036854775807 := Nat.le_trans h25.len.2.1 h25.len.2.2
      have r78 : inI64 (x1.vals.length : Int) := rngNat l79
      refine hwp_nilT ?_
      refine hws_three (i := 2) (j := 9) (k := 11) (by kernel_rfl) rfl rfl rfl ?_ ?_ ?_
      · skip
        refine l_call (O := O55) (R := fun w' F v => Vb w' F v q72) (c_symmetry_back Fr.lt h22 e73) rfl rfl fun v84 w80 O81 S82 h83 => ?_
        obtain ⟨A85, c86, rfl⟩ := h83.form
        replace hZ := hZ.comp S82 (fun _ h => h.elim)
        replace hB := hB.st S82 (fun h => h) (fun h => h)
        replace h40 := h40.st S82 (fun h => h)
        replace h22 := h22.st S82 (fun h => h)
        replace h25 := h25.st S82 (fun h => h)
        replace h28 := h28.st S82 (fun h => h)
        replace h45 := h45.st S82 (fun h => h)
        refine owp_loudS ⟨_, hZ⟩ ?_
        refine hws_three (i := 5) (j := 9) (k := 11) (by kernel_rfl) rfl rfl rfl ?_ ?_ ?_
        · skip
          refine l_call (O := O81) (R := fun w' F v => Vb w' F v q74) (c_symmetry_back Fr.lt h28 e75) rfl rfl fun v91 w87 O88 S89 h90 => ?_
          obtain ⟨A92, c93, rfl⟩ := h90.form
          replace hZ := hZ.comp S89 (fun _ h => h.elim)
          replace hB := hB.st S89 (fun h => h) (fun h => h)
          replace h40 := h40.st S89 (fun h => h)
          replace h22 := h22.st S89 (fun h => h)
          replace h25 := h25.st S89 (fun h => h)
          replace h28 := h28.st S89 (fun h => h)
          replace h45 := h45.st S89 (fun h => h)
          replace h83 := h83.st S89 (fun h => h)
          refine owp_loudS ⟨_, hZ⟩ ?_
          refine hws_two (i := 9) (j := 11) (by kernel_rfl) rfl rfl ?_ ?_
          · skip
            obtain ⟨m94, e95, e96, e97, e98⟩ := mkI_some e77
            refine l_make 6 (by decide) O88 (z0 := (([] : List Int) : List Int)) rfl rfl rfl rfl rfl e95 (Vb.nil _ _) e96 e97 rfl fun g99 w100 O101 S102 h103 => ?_
            rw [← e98] at h103 ⊢
            replace hZ := hZ.comp S102 (fun _ h => h.elim)
            replace hB := hB.st S102 (fun h => h) (fun h => h)
            replace h40 := h40.st S102 (fun h => h)
            replace h22 := h22.st S102 (fun h => h)
            replace h25 := h25.st S102 (fun h => h)
            replace h28 := h28.st S102 (fun h => h)
            replace h45 := h45.st S102 (fun h => h)
            replace h83 := h83.st S102 (fun h => h)
            replace h90 := h90.st S102 (fun h => h)
            refine owp_loudS ⟨_, hZ⟩ ?_
            refine hws_pre (fuel := 2) [(10, true)] (by kernel_rfl) (by kernel_rfl) (by kernel_rfl) ⟨_, hZ⟩ ?_
            refine h_bd rfl rfl rfl rfl  ?_
            refine hwp_nilT ?_
            refine hws_one (i := 11) (by kernel_rfl) rfl ?_
            refine l_alloc 7 O101 rfl fun g105 w106 O107 S108 h109 => ?_
            replace hZ := hZ.comp S108 (fun _ h => h.elim)
            replace hB := hB.st S108 (fun h => h) (fun h => h)
            replace h40 := h40.st S108 (fun h => h)
            replace h22 := h22.st S108 (fun h => h)
            replace h25 := h25.st S108 (fun h => h)
            replace h28 := h28.st S108 (fun h => h)
            replace h45 := h45.st S108 (fun h => h)
            replace h83 := h83.st S108 (fun h => h)
            replace h103 := h103.st S108 (fun h => h) (fun h => h)
            replace h90 := h90.st S108 (fun h => h)
            refine owp_loudS ⟨_, hZ⟩ ?_
            refine hws_one (i := 12) (by kernel_rfl) rfl ?_
            refine l_store h109 rfl rfl rfl (Nat.le_of_ble_eq_true rfl) (by first | exact allOne rfl | simp [Value.cells, Value.oneCell', errV_one]) fun w110 S111 h109 => ?_
            replace h109 : Lc 7 w110 O107 g105 29 [(.slice A85 q72.length c86), (.slice (some ⟨g99, 0, none⟩) u76.length m94), (.slice A92 q74.length c93)] := h109
            replace hB := hB.st S111 (by decide) (by decide)
            replace h40 := h40.st S111 (by decide)
            replace h22 := h22.st S111 (by decide)
            replace h25 := h25.st S111 (by decide)
            replace h28 := h28.st S111 (by decide)
            replace h45 := h45.st S111 (by decide)
            replace h83 := h83.st S111 (by decide)
            replace h103 := h103.st S111 (by decide) (by decide)
            replace h90 := h90.st S111 (by decide)
            refine owp_loudSE (by kernel_rfl) ?_
            refine hws_nil (by kernel_rfl) ?_
            obtain rfl := sm hy64
            exact ⟨(g105, (A85, c86), ((some ⟨g99, 0, none⟩), m94), (A92, c93)), _, ⟨rfl, rfl, rfl, trivial⟩, hB, h40, h22, h25, h28, h45, h109, h83, h103, h90⟩
          · skip
            refine l_alloc 7 O88 rfl fun g112 w113 O114 S115 h116 => ?_
            replace hZ := hZ.comp S115 (fun _ h => h.elim)
            replace hB := hB.st S115 (fun h => h) (fun h => h)
            replace h40 := h40.st S115 (fun h => h)
            replace h22 := h22.st S115 (fun h => h)
            replace h25 := h25.st S115 (fun h => h)
            replace h28 := h28.st S115 (fun h => h)
            replace h45 := h45.st S115 (fun h => h)
            replace h83 := h83.st S115 (fun h => h)
            replace h90 := h90.st S115 (fun h => h)
            refine owp_loudS ⟨_, hZ⟩ ?_
            refine hws_one (i := 9) (by kernel_rfl) rfl ?_
            obtain ⟨m117, e118, e119, e120, e121⟩ := mkI_some e77
            refine l_make 6 (by decide) O114 (z0 := (([] : List Int) : List Int)) rfl rfl rfl rfl rfl e118 (Vb.nil _ _) e119 e120 rfl fun g122 w123 O124 S125 h126 => ?_
            rw [← e121] at h126 ⊢
            replace hZ := hZ.comp S125 (fun _ h => h.elim)
            replace hB := hB.st S125 (fun h => h) (fun h => h)
            replace h40 := h40.st S125 (fun h => h)
            replace h22 := h22.st S125 (fun h => h)
            replace h25 := h25.st S125 (fun h => h)
            replace h28 := h28.st S125 (fun h => h)
            replace h45 := h45.st S125 (fun h => h)
            replace h116 := h116.st S125 (fun h => h)
            replace h83 := h83.st S125 (fun h => h)
            replace h90 := h90.st S125 (fun h => h)
            refine owp_loudS ⟨_, hZ⟩ ?_
            refine hws_pre (fuel := 1) [(10, true)] (by kernel_rfl) (by kernel_rfl) (by kernel_rfl) ⟨_, hZ⟩ ?_
            refine h_bd rfl rfl rfl rfl  ?_
            refine hwp_nilT ?_
            refine hws_one (i := 12) (by kernel_rfl) rfl ?_
            refine l_store h116 rfl rfl rfl (Nat.le_of_ble_eq_true rfl) (by first | exact allOne rfl | simp [Value.cells, Value.oneCell', errV_one]) fun w128 S129 h116 => ?_
            replace h116 : Lc 7 w128 O124 g112 29 [(.slice A85 q72.length c86), (.slice (some ⟨g122, 0, none⟩) u76.length m117), (.slice A92 q74.length c93)] := h116
            replace hB := hB.st S129 (by decide) (by decide)
            replace h40 := h40.st S129 (by decide)
            replace h22 := h22.st S129 (by decide)
            replace h25 := h25.st S129 (by decide)
            replace h28 := h28.st S129 (by decide)
            replace h45 := h45.st S129 (by decide)
            replace h83 := h83.st S129 (by decide)
            replace h126 := h126.st S129 (by decide) (by decide)
            replace h90 := h90.st S129 (by decide)
            refine owp_loudSE (by kernel_rfl) ?_
            refine hws_nil (by kernel_rfl) ?_
            obtain rfl := sm hy64
            exact ⟨(g112, (A85, c86), ((some ⟨g122, 0, none⟩), m117), (A92, c93)), _, ⟨rfl, rfl, rfl, trivial⟩, hB, h40, h22, h25, h28, h45, h116, h83, h126, h90⟩
        · skip
          obtain ⟨m130, e131, e132, e133, e134⟩ := mkI_some e77
          refine l_make 6 (by decide) O81 (z0 := (([] : List Int) : List Int)) rfl rfl rfl rfl rfl e131 (Vb.nil _ _) e132 e133 rfl fun g135 w136 O137 S138 h139 => ?_
          rw [← e134] at h139 ⊢
          replace hZ := hZ.comp S138 (fun _ h => h.elim)
          replace hB := hB.st S138 (fun h => h) (fun h => h)
          replace h40 := h40.st S138 (fun h => h)
          replace h22 := h22.st S138 (fun h => h)
          replace h25 := h25.st S138 (fun h => h)
          replace h28 := h28.st S138 (fun h => h)
          replace h45 := h45.st S138 (fun h => h)
          replace h83 := h83.st S138 (fun h => h)
          refine owp_loudS ⟨_, hZ⟩ ?_
          refine hws_two (i := 5) (j := 11) (by kernel_rfl) rfl rfl ?_ ?_
          · skip
            refine l_call (O := O137) (R := fun w' F v => Vb w' F v q74) (c_symmetry_back Fr.lt h28 e75) rfl rfl fun v145 w141 O142 S143 h144 => ?_
            obtain ⟨A146, c147, rfl⟩ := h144.form
            replace hZ := hZ.comp S143 (fun _ h => h.elim)
            replace hB := hB.st S143 (fun h => h) (fun h => h)
            replace h40 := h40.st S143 (fun h => h)
            replace h22 := h22.st S143 (fun h => h)
            replace h25 := h25.st S143 (fun h => h)
            replace h28 := h28.st S143 (fun h => h)
            replace h45 := h45.st S143 (fun h => h)
            replace h83 := h83.st S143 (fun h => h)
            replace h139 := h139.st S143 (fun h => h) (fun h => h)
            refine owp_loudS ⟨_, hZ⟩ ?_
            refine hws_pre (fuel := 2) [(10, true)] (by kernel_rfl) (by kernel_rfl) (by kernel_rfl) ⟨_, hZ⟩ ?_
            refine h_bd rfl rfl rfl rfl  ?_
            refine hwp_nilT ?_
            refine hws_one (i := 11) (by kernel_rfl) rfl ?_
            refine l_alloc 7 O142 rfl fun g148 w149 O150 S151 h152 => ?_
            replace hZ := hZ.comp S151 (fun _ h => h.elim)
            replace hB := hB.st S151 (fun h => h) (fun h => h)
            replace h40 := h40.st S151 (fun h => h)
            replace h22 := h22.st S151 (fun h => h)
            replace h25 := h25.st S151 (fun h => h)
            replace h28 := h28.st S151 (fun h => h)
            replace h45 := h45.st S151 (fun h => h)
            replace h83 := h83.st S151 (fun h => h)
            replace h139 := h139.st S151 (fun h => h) (fun h => h)
            replace h144 := h144.st S151 (fun h => h)
            refine owp_loudS ⟨_, hZ⟩ ?_
            refine hws_one (i := 12) (by kernel_rfl) rfl ?_
            refine l_store h152 rfl rfl rfl (Nat.le_of_ble_eq_true rfl) (by first | exact allOne rfl | simp [Value.cells, Value.oneCell', errV_one]) fun w153 S154 h152 => ?_
            replace h152 : Lc 7 w153 O150 g148 29 [(.slice A85 q72.length c86), (.slice (some ⟨g135, 0, none⟩) u76.length m130), (.slice A146 q74.length c147)] := h152
            replace hB := hB.st S154 (by decide) (by decide)
            replace h40 := h40.st S154 (by decide)
            replace h22 := h22.st S154 (by decide)
            replace h25 := h25.st S154 (by decide)
            replace h28 := h28.st S154 (by decide)
            replace h45 := h45.st S154 (by decide)
            replace h83 := h83.st S154 (by decide)
            replace h139 := h139.st S154 (by decide) (by decide)
            replace h144 := h144.st S154 (by decide)
            refine owp_loudSE (by kernel_rfl) ?_
            refine hws_nil (by kernel_rfl) ?_
            obtain rfl := sm hy64
            exact ⟨(g148, (A85, c86), ((some ⟨g135, 0, none⟩), m130), (A146, c147)), _, ⟨rfl, rfl, rfl, trivial⟩, hB, h40, h22, h25, h28, h45, h152, h83, h139, h144⟩
          · skip
            refine l_alloc 7 O137 rfl fun g155 w156 O157 S158 h159 => ?_
            replace hZ := hZ.comp S158 (fun _ h => h.elim)
            replace hB := hB.st S158 (fun h => h) (fun h => h)
            replace h40 := h40.st S158 (fun h => h)
            replace h22 := h22.st S158 (fun h => h)
            replace h25 := h25.st S158 (fun h => h)
            replace h28 := h28.st S158 (fun h => h)
            replace h45 := h45.st S158 (fun h => h)
            replace h83 := h83.st S158 (fun h => h)
            replace h139 := h139.st S158 (fun h => h) (fun h => h)
            refine owp_loudS ⟨_, hZ⟩ ?_
            refine hws_one (i := 5) (by kernel_rfl) rfl ?_
            refine l_call (O := O157) (R := fun w' F v => Vb w' F v q74) (c_symmetry_back Fr.lt h28 e75) rfl rfl fun v164 w160 O161 S162 h163 => ?_
            obtain ⟨A165, c166, rfl⟩ := h163.form
            replace hZ := hZ.comp S162 (fun _ h => h.elim)
            replace hB := hB.st S162 (fun h => h) (fun h => h)
            replace h40 := h40.st S162 (fun h => h)
            replace h22 := h22.st S162 (fun h => h)
            replace h25 := h25.st S162 (fun h => h)
            replace h28 := h28.st S162 (fun h => h)
            replace h45 := h45.st S162 (fun h => h)
            replace h159 := h159.st S162 (fun h => h)
            replace h83 := h83.st S162 (fun h => h)
            replace h139 := h139.st S162 (fun h => h) (fun h => h)
            refine owp_loudS ⟨_, hZ⟩ ?_
            refine hws_pre (fuel := 1) [(10, true)] (by kernel_rfl) (by kernel_rfl) (by kernel_rfl) ⟨_, hZ⟩ ?_
            refine h_bd rfl rfl rfl rfl  ?_
            refine hwp_nilT ?_
            refine hws_one (i := 12) (by kernel_rfl) rfl ?_
            refine l_store h159 rfl rfl rfl (Nat.le_of_ble_eq_true rfl) (by first | exact allOne rfl | simp [Value.cells, Value.oneCell', errV_one]) fun w167 S168 h159 => ?_
            replace h159 : Lc 7 w167 O161 g155 29 [(.slice A85 q72.length c86), (.slice (some ⟨g135, 0, none⟩) u76.length m130), (.slice A165 q74.length c166)] := h159
            replace hB := hB.st S168 (by decide) (by decide)
            replace h40 := h40.st S168 (by decide)
            replace h22 := h22.st S168 (by decide)
            replace h25 := h25.st S168 (by decide)
            replace h28 := h28.st S168 (by decide)
            replace h45 := h45.st S168 (by decide)
            replace h83 := h83.st S168 (by decide)
            replace h139 := h139.st S168 (by decide) (by decide)
            replace h163 := h163.st S168 (by decide)
            refine owp_loudSE (by kernel_rfl) ?_
            refine hws_nil (by kernel_rfl) ?_
            obtain rfl := sm hy64
            exact ⟨(g155, (A85, c86), ((some ⟨g135, 0, none⟩), m130), (A165, c166)), _, ⟨rfl, rfl, rfl, trivial⟩, hB, h40, h22, h25, h28, h45, h159, h83, h139, h163⟩
        · skip
          refine l_alloc 7 O81 rfl fun g169 w170 O171 S172 h173 => ?_
          replace hZ := hZ.comp S172 (fun _ h => h.elim)
          replace hB := hB.st S172 (fun h => h) (fun h => h)
          replace h40 := h40.st S172 (fun h => h)
          replace h22 := h22.st S172 (fun h => h)
          replace h25 := h25.st S172 (fun h => h)
          replace h28 := h28.st S172 (fun h => h)
          replace h45 := h45.st S172 (fun h => h)
          replace h83 := h83.st S172 (fun h => h)
          refine owp_loudS ⟨_, hZ⟩ ?_
          refine hws_two (i := 5) (j := 9) (by kernel_rfl) rfl rfl ?_ ?_
          · skip
            refine l_call (O := O171) (R := fun w' F v => Vb w' F v q74) (c_symmetry_back Fr.lt h28 e75) rfl rfl fun v178 w174 O175 S176 h177 => ?_
            obtain ⟨A179, c180, rfl⟩ := h177.form
            replace hZ := hZ.comp S176 (fun _ h => h.elim)
            replace hB := hB.st S176 (fun h => h) (fun h => h)
            replace h40 := h40.st S176 (fun h => h)
            replace h22 := h22.st S176 (fun h => h)
            replace h25 := h25.st S176 (fun h => h)
            replace h28 := h28.st S176 (fun h => h)
            replace h45 := h45.st S176 (fun h => h)
            replace h173 := h173.st S176 (fun h => h)
            replace h83 := h83.st S176 (fun h => h)
            refine owp_loudS ⟨_, hZ⟩ ?_
            refine hws_one (i := 9) (by kernel_rfl) rfl ?_
            obtain ⟨m181, e182, e183, e184, e185⟩ := mkI_some e77
            refine l_make 6 (by decide) O175 (z0 := (([] : List Int) : List Int)) rfl rfl rfl rfl rfl e182 (Vb.nil _ _) e183 e184 rfl fun g186 w187 O188 S189 h190 => ?_
            rw [← e185] at h190 ⊢
            replace hZ := hZ.comp S189 (fun _ h => h.elim)
            replace hB := hB.st S189 (fun h => h) (fun h => h)
            replace h40 := h40.st S189 (fun h => h)
            replace h22 := h22.st S189 (fun h => h)
            replace h25 := h25.st S189 (fun h => h)
            replace h28 := h28.st S189 (fun h => h)
            replace h45 := h45.st S189 (fun h => h)
            replace h173 := h173.st S189 (fun h => h)
            replace h83 := h83.st S189 (fun h => h)
            replace h177 := h177.st S189 (fun h => h)
            refine owp_loudS ⟨_, hZ⟩ ?_
            refine hws_pre (fuel := 1) [(10, true)] (by kernel_rfl) (by kernel_rfl) (by kernel_rfl) ⟨_, hZ⟩ ?_
            refine h_bd rfl rfl rfl rfl  ?_
            refine hwp_nilT ?_
            refine hws_one (i := 12) (by kernel_rfl) rfl ?_
            refine l_store h173 rfl rfl rfl (Nat.le_of_ble_eq_true rfl) (by first | exact allOne rfl | simp [Value.cells, Value.oneCell', errV_one]) fun w192 S193 h173 => ?_
            replace h173 : Lc 7 w192 O188 g169 29 [(.slice A85 q72.length c86), (.slice (some ⟨g186, 0, none⟩) u76.length m181), (.slice A179 q74.length c180)] := h173
            replace hB := hB.st S193 (by decide) (by decide)
            replace h40 := h40.st S193 (by decide)
            replace h22 := h22.st S193 (by decide)
            replace h25 := h25.st S193 (by decide)
            replace h28 := h28.st S193 (by decide)
            replace h45 := h45.st S193 (by decide)
            replace h83 := h83.st S193 (by decide)
            replace h190 := h190.st S193 (by decide) (by decide)
            replace h177 := h177.st S193 (by decide)
            refine owp_loudSE (by kernel_rfl) ?_
            refine hws_nil (by kernel_rfl) ?_
            obtain rfl := sm hy64
            exact ⟨(g169, (A85, c86), ((some ⟨g186, 0, none⟩), m181), (A179, c180)), _, ⟨rfl, rfl, rfl, trivial⟩, hB, h40, h22, h25, h28, h45, h173, h83, h190, h177⟩
          · skip
            obtain ⟨m194, e195, e196, e197, e198⟩ := mkI_some e77
            refine l_make 6 (by decide) O171 (z0 := (([] : List Int) : List Int)) rfl rfl rfl rfl rfl e195 (Vb.nil _ _) e196 e197 rfl fun g199 w200 O201 S202 h203 => ?_
            rw [← e198] at h203 ⊢
            replace hZ := hZ.comp S202 (fun _ h => h.elim)
            replace hB := hB.st S202 (fun h => h) (fun h => h)
            replace h40 := h40.st S202 (fun h => h)
            replace h22 := h22.st S202 (fun h => h)
            replace h25 := h25.st S202 (fun h => h)
            replace h28 := h28.st S202 (fun h => h)
            replace h45 := h45.st S202 (fun h => h)
            replace h173 := h173.st S202 (fun h => h)
            replace h83 := h83.st S202 (fun h => h)
            refine owp_loudS ⟨_, hZ⟩ ?_
            refine hws_one (i := 5) (by kernel_rfl) rfl ?_
            refine l_call (O := O201) (R := fun w' F v => Vb w' F v q74) (c_symmetry_back Fr.lt h28 e75) rfl rfl fun v209 w205 O206 S207 h208 => ?_
            obtain ⟨A210, c211, rfl⟩ := h208.form
            replace hZ := hZ.comp S207 (fun _ h => h.elim)
            replace hB := hB.st S207 (fun h => h) (fun h => h)
            replace h40 := h40.st S207 (fun h => h)
            replace h22 := h22.st S207 (fun h => h)
            replace h25 := h25.st S207 (fun h => h)
            replace h28 := h28.st S207 (fun h => h)
            replace h45 := h45.st S207 (fun h => h)
            replace h173 := h173.st S207 (fun h => h)
            replace h83 := h83.st S207 (fun h => h)
            replace h203 := h203.st S207 (fun h => h) (fun h => h)
            refine owp_loudS ⟨_, hZ⟩ ?_
            refine hws_pre (fuel := 1) [(10, true)] (by kernel_rfl) (by kernel_rfl) (by kernel_rfl) ⟨_, hZ⟩ ?_
            refine h_bd rfl rfl rfl rfl  ?_
            refine hwp_nilT ?_
            refine hws_one (i := 12) (by kernel_rfl) rfl ?_
            refine l_store h173 rfl rfl rfl (Nat.le_of_ble_eq_true rfl) (by first | exact allOne rfl | simp [Value.cells, Value.oneCell', errV_one]) fun w212 S213 h173 => ?_
            replace h173 : Lc 7 w212 O206 g169 29 [(.slice A85 q72.length c86), (.slice (some ⟨g199, 0, none⟩) u76.length m194), (.slice A210 q74.length c211)] := h173
            replace hB := hB.st S213 (by decide) (by decide)
            replace h40 := h40.st S213 (by decide)
            replace h22 := h22.st S213 (by decide)
            replace h25 := h25.st S213 (by decide)
            replace h28 := h28.st S213 (by decide)
            replace h45 := h45.st S213 (by decide)
            replace h83 := h83.st S213 (by decide)
            replace h203 := h203.st S213 (by decide) (by decide)
            replace h208 := h208.st S213 (by decide)
            refine owp_loudSE (by kernel_rfl) ?_
            refine hws_nil (by kernel_rfl) ?_
            obtain rfl := sm hy64
            exact ⟨(g169, (A85, c86), ((some ⟨g199, 0, none⟩), m194), (A210, c211)), _, ⟨rfl, rfl, rfl, trivial⟩, hB, h40, h22, h25, h28, h45, h173, h83, h203, h208⟩
      · skip
        obtain ⟨m214, e215, e216, e217, e218⟩ := mkI_some e77
        refine l_make 6 (by decide) O55 (z0 := (([] : List Int) : List Int)) rfl rfl rfl rfl rfl e215 (Vb.nil _ _) e216 e217 rfl fun g219 w220 O221 S222 h223 => ?_
        rw [← e218] at h223 ⊢
        replace hZ := hZ.comp S222 (fun _ h => h.elim)
        replace hB := hB.st S222 (fun h => h) (fun h => h)
        replace h40 := h40.st S222 (fun h => h)
        replace h22 := h22.st S222 (fun h => h)
        replace h25 := h25.st S222 (fun h => h)
        replace h28 := h28.st S222 (fun h => h)
        replace h45 := h45.st S222 (fun h => h)
        refine owp_loudS ⟨_, hZ⟩ ?_
        refine hws_two (i := 2) (j := 11) (by kernel_rfl) rfl rfl ?_ ?_
        · skip
          refine l_call (O := O221) (R := fun w' F v => Vb w' F v q72) (c_symmetry_back Fr.lt h22 e73) rfl rfl fun v229 w225 O226 S227 h228 => ?_
          obtain ⟨A230, c231, rfl⟩ := h228.form
          replace hZ := hZ.comp S227 (fun _ h => h.elim)
          replace hB := hB.st S227 (fun h => h) (fun h => h)
          replace h40 := h40.st S227 (fun h => h)
          replace h22 := h22.st S227 (fun h => h)
          replace h25 := h25.st S227 (fun h => h)
          replace h28 := h28.st S227 (fun h => h)
          replace h45 := h45.st S227 (fun h => h)
          replace h223 := h223.st S227 (fun h => h) (fun h => h)
          refine owp_loudS ⟨_, hZ⟩ ?_
          refine hws_two (i := 5) (j := 11) (by kernel_rfl) rfl rfl ?_ ?_
          · skip
            refine l_call (O := O226) (R := fun w' F v => Vb w' F v q74) (c_symmetry_back Fr.lt h28 e75) rfl rfl fun v236 w232 O233 S234 h235 => ?_
            obtain ⟨A237, c238, rfl⟩ := h235.form
            replace hZ := hZ.comp S234 (fun _ h => h.elim)
            replace hB := hB.st S234 (fun h => h) (fun h => h)
            replace h40 := h40.st S234 (fun h => h)
            replace h22 := h22.st S234 (fun h => h)
            replace h25 := h25.st S234 (fun h => h)
            replace h28 := h28.st S234 (fun h => h)
            replace h45 := h45.st S234 (fun h => h)
            replace h228 := h228.st S234 (fun h => h)
            replace h223 := h223.st S234 (fun h => h) (fun h => h)
            refine owp_loudS ⟨_, hZ⟩ ?_
            refine hws_pre (fuel := 2) [(10, true)] (by kernel_rfl) (by kernel_rfl) (by kernel_rfl) ⟨_, hZ⟩ ?_
            refine h_bd rfl rfl rfl rfl  ?_
            refine hwp_nilT ?_
            refine hws_one (i := 11) (by kernel_rfl) rfl ?_
            refine l_alloc 7 O233 rfl fun g239 w240 O241 S242 h243 => ?_
            replace hZ := hZ.comp S242 (fun _ h => h.elim)
            replace hB := hB.st S242 (fun h => h) (fun h => h)
            replace h40 := h40.st S242 (fun h => h)
            replace h22 := h22.st S242 (fun h => h)
            replace h25 := h25.st S242 (fun h => h)
            replace h28 := h28.st S242 (fun h => h)
            replace h45 := h45.st S242 (fun h => h)
            replace h228 := h228.st S242 (fun h => h)
            replace h223 := h223.st S242 (fun h => h) (fun h => h)
            replace h235 := h235.st S242 (fun h => h)
            refine owp_loudS ⟨_, hZ⟩ ?_
            refine hws_one (i := 12) (by kernel_rfl) rfl ?_
            refine l_store h243 rfl rfl rfl (Nat.le_of_ble_eq_true rfl) (by first | exact allOne rfl | simp [Value.cells, Value.oneCell', errV_one]) fun w244 S245 h243 => ?_
            replace h243 : Lc 7 w244 O241 g239 29 [(.slice A230 q72.length c231), (.slice (some ⟨g219, 0, none⟩) u76.length m214), (.slice A237 q74.length c238)] := h243
            replace hB := hB.st S245 (by decide) (by decide)
            replace h40 := h40.st S245 (by decide)
            replace h22 := h22.st S245 (by decide)
            replace h25 := h25.st S245 (by decide)
            replace h28 := h28.st S245 (by decide)
            replace h45 := h45.st S245 (by decide)
            replace h228 := h228.st S245 (by decide)
            replace h223 := h223.st S245 (by decide) (by decide)
            replace h235 := h235.st S245 (by decide)
            refine owp_loudSE (by kernel_rfl) ?_
            refine hws_nil (by kernel_rfl) ?_
            obtain rfl := sm hy64
            exact ⟨(g239, (A230, c231), ((some ⟨g219, 0, none⟩), m214), (A237, c238)), _, ⟨rfl, rfl, rfl, trivial⟩, hB, h40, h22, h25, h28, h45, h243, h228, h223, h235⟩
          · skip
            refine l_alloc 7 O226 rfl fun g246 w247 O248 S249 h250 => ?_
            replace hZ := hZ.comp S249 (fun _ h => h.elim)
            replace hB := hB.st S249 (fun h => h) (fun h => h)
            replace h40 := h40.st S249 (fun h => h)
            replace h22 := h22.st S249 (fun h => h)
            replace h25 := h25.st S249 (fun h => h)
            replace h28 := h28.st S249 (fun h => h)
            replace h45 := h45.st S249 (fun h => h)
            replace h228 := h228.st S249 (fun h => h)
            replace h223 := h223.st S249 (fun h => h) (fun h => h)
            refine owp_loudS ⟨_, hZ⟩ ?_
            refine hws_one (i := 5) (by kernel_rfl) rfl ?_
            refine l_call (O := O248) (R := fun w' F v => Vb w' F v q74) (c_symmetry_back Fr.lt h28 e75) rfl rfl fun v255 w251 O252 S253 h254 => ?_
            obtain ⟨A256, c257, rfl⟩ := h254.form
            replace hZ := hZ.comp S253 (fun _ h => h.elim)
            replace hB := hB.st S253 (fun h => h) (fun h => h)
            replace h40 := h40.st S253 (fun h => h)
            replace h22 := h22.st S253 (fun h => h)
            replace h25 := h25.st S253 (fun h => h)
            replace h28 := h28.st S253 (fun h => h)
            replace h45 := h45.st S253 (fun h => h)
            replace h250 := h250.st S253 (fun h => h)
            replace h228 := h228.st S253 (fun h => h)
            replace h223 := h223.st S253 (fun h => h) (fun h => h)
            refine owp_loudS ⟨_, hZ⟩ ?_
            refine hws_pre (fuel := 1) [(10, true)] (by kernel_rfl) (by kernel_rfl) (by kernel_rfl) ⟨_, hZ⟩ ?_
            refine h_bd rfl rfl rfl rfl  ?_
            refine hwp_nilT ?_
            refine hws_one (i := 12) (by kernel_rfl) rfl ?_
            refine l_store h250 rfl rfl rfl (Nat.le_of_ble_eq_true rfl) (by first | exact allOne rfl | simp [Value.cells, Value.oneCell', errV_one]) fun w258 S259 h250 => ?_
            replace h250 : Lc 7 w258 O252 g246 29 [(.slice A230 q72.length c231), (.slice (some ⟨g219, 0, none⟩) u76.length m214), (.slice A256 q74.length c257)] := h250
            replace hB := hB.st S259 (by decide) (by decide)
            replace h40 := h40.st S259 (by decide)
            replace h22 := h22.st S259 (by decide)
            replace h25 := h25.st S259 (by decide)
            replace h28 := h28.st S259 (by decide)
            replace h45 := h45.st S259 (by decide)
            replace h228 := h228.st S259 (by decide)
            replace h223 := h223.st S259 (by decide) (by decide)
            replace h254 := h254.st S259 (by decide)
            refine owp_loudSE (by kernel_rfl) ?_
            refine hws_nil (by kernel_rfl) ?_
            obtain rfl := sm hy64
            exact ⟨(g246, (A230, c231), ((some ⟨g219, 0, none⟩), m214), (A256, c257)), _, ⟨rfl, rfl, rfl, trivial⟩, hB, h40, h22, h25, h28, h45, h250, h228, h223, h254⟩
        · skip
          refine l_alloc 7 O221 rfl fun g260 w261 O262 S263 h264 => ?_
          replace hZ := hZ.comp S263 (fun _ h => h.elim)
          replace hB := hB.st S263 (fun h => h) (fun h => h)
          replace h40 := h40.st S263 (fun h => h)
          replace h22 := h22.st S263 (fun h => h)
          replace h25 := h25.st S263 (fun h => h)
          replace h28 := h28.st S263 (fun h => h)
          replace h45 := h45.st S263 (fun h => h)
          replace h223 := h223.st S263 (fun h => h) (fun h => h)
          refine owp_loudS ⟨_, hZ⟩ ?_
          refine hws_one (i := 2) (by kernel_rfl) rfl ?_
          refine l_call (O := O262) (R := fun w' F v => Vb w' F v q72) (c_symmetry_back Fr.lt h22 e73) rfl rfl fun v269 w265 O266 S267 h268 => ?_
          obtain ⟨A270, c271, rfl⟩ := h268.form
          replace hZ := hZ.comp S267 (fun _ h => h.elim)
          replace hB := hB.st S267 (fun h => h) (fun h => h)
          replace h40 := h40.st S267 (fun h => h)
          replace h22 := h22.st S267 (fun h => h)
          replace h25 := h25.st S267 (fun h => h)
          replace h28 := h28.st S267 (fun h => h)
          replace h45 := h45.st S267 (fun h => h)
          replace h264 := h264.st S267 (fun h => h)
          replace h223 := h223.st S267 (fun h => h) (fun h => h)
          refine owp_loudS ⟨_, hZ⟩ ?_
          refine hws_one (i := 5) (by kernel_rfl) rfl ?_
          refine l_call (O := O266) (R := fun w' F v => Vb w' F v q74) (c_symmetry_back Fr.lt h28 e75) rfl rfl fun v276 w272 O273 S274 h275 => ?_
          obtain ⟨A277, c278, rfl⟩ := h275.form
          replace hZ := hZ.comp S274 (fun _ h => h.elim)
          replace hB := hB.st S274 (fun h => h) (fun h => h)
          replace h40 := h40.st S274 (fun h => h)
          replace h22 := h22.st S274 (fun h => h)
          replace h25 := h25.st S274 (fun h => h)
          replace h28 := h28.st S274 (fun h => h)
          replace h45 := h45.st S274 (fun h => h)
          replace h264 := h264.st S274 (fun h => h)
          replace h268 := h268.st S274 (fun h => h)
          replace h223 := h223.st S274 (fun h => h) (fun h => h)
          refine owp_loudS ⟨_, hZ⟩ ?_
          refine hws_pre (fuel := 1) [(10, true)] (by kernel_rfl) (by kernel_rfl) (by kernel_rfl) ⟨_, hZ⟩ ?_
          refine h_bd rfl rfl rfl rfl  ?_
          refine hwp_nilT ?_
          refine hws_one (i := 12) (by kernel_rfl) rfl ?_
          refine l_store h264 rfl rfl rfl (Nat.le_of_ble_eq_true rfl) (by first | exact allOne rfl | simp [Value.cells, Value.oneCell', errV_one]) fun w279 S280 h264 => ?_
          replace h264 : Lc 7 w279 O273 g260 29 [(.slice A270 q72.length c271), (.slice (some ⟨g219, 0, none⟩) u76.length m214), (.slice A277 q74.length c278)] := h264
          replace hB := hB.st S280 (by decide) (by decide)
          replace h40 := h40.st S280 (by decide)
          replace h22 := h22.st S280 (by decide)
          replace h25 := h25.st S280 (by decide)
          replace h28 := h28.st S280 (by decide)
          replace h45 := h45.st S280 (by decide)
          replace h268 := h268.st S280 (by decide)
          replace h223 := h223.st S280 (by decide) (by decide)
          replace h275 := h275.st S280 (by decide)
          refine owp_loudSE (by kernel_rfl) ?_
          refine hws_nil (by kernel_rfl) ?_
          obtain rfl := sm hy64
          exact ⟨(g260, (A270, c271), ((some ⟨g219, 0, none⟩), m214), (A277, c278)), _, ⟨rfl, rfl, rfl, trivial⟩, hB, h40, h22, h25, h28, h45, h264, h268, h223, h275⟩
      · skip
        refine l_alloc 7 O55 rfl fun g281 w282 O283 S284 h285 => ?_
        replace hZ := hZ.comp S284 (fun _ h => h.elim)
        replace hB := hB.st S284 (fun h => h) (fun h => h)
        replace h40 := h40.st S284 (fun h => h)
        replace h22 := h22.st S284 (fun h => h)
        replace h25 := h25.st S284 (fun h => h)
        replace h28 := h28.st S284 (fun h => h)
        replace h45 := h45.st S284 (fun h => h)
        refine owp_loudS ⟨_, hZ⟩ ?_
        refine hws_two (i := 2) (j := 9) (by kernel_rfl) rfl rfl ?_ ?_
        · skip
          refine l_call (O := O283) (R := fun w' F v => Vb w' F v q72) (c_symmetry_back Fr.lt h22 e73) rfl rfl fun v290 w286 O287 S288 h289 => ?_
          obtain ⟨A291, c292, rfl⟩ := h289.form
          replace hZ := hZ.comp S288 (fun _ h => h.elim)
          replace hB := hB.st S288 (fun h => h) (fun h => h)
          replace h40 := h40.st S288 (fun h => h)
          replace h22 := h22.st S288 (fun h => h)
          replace h25 := h25.st S288 (fun h => h)
          replace h28 := h28.st S288 (fun h => h)
          replace h45 := h45.st S288 (fun h => h)
          replace h285 := h285.st S288 (fun h => h)
          refine owp_loudS ⟨_, hZ⟩ ?_
          refine hws_two (i := 5) (j := 9) (by kernel_rfl) rfl rfl ?_ ?_
          · skip
            refine l_call (O := O287) (R := fun w' F v => Vb w' F v q74) (c_symmetry_back Fr.lt h28 e75) rfl rfl fun v297 w293 O294 S295 h296 => ?_
            obtain ⟨A298, c299, rfl⟩ := h296.form
            replace hZ := hZ.comp S295 (fun _ h => h.elim)
            replace hB := hB.st S295 (fun h => h) (fun h => h)
            replace h40 := h40.st S295 (fun h => h)
            replace h22 := h22.st S295 (fun h => h)
            replace h25 := h25.st S295 (fun h => h)
            replace h28 := h28.st S295 (fun h => h)
            replace h45 := h45.st S295 (fun h => h)
            replace h285 := h285.st S295 (fun h => h)
            replace h289 := h289.st S295 (fun h => h)
            refine owp_loudS ⟨_, hZ⟩ ?_
            refine hws_one (i := 9) (by kernel_rfl) rfl ?_
            obtain ⟨m300, e301, e302, e303, e304⟩ := mkI_some e77
            refine l_make 6 (by decide) O294 (z0 := (([] : List Int) : List Int)) rfl rfl rfl rfl rfl e301 (Vb.nil _ _) e302 e303 rfl fun g305 w306 O307 S308 h309 => ?_
            rw [← e304] at h309 ⊢
            replace hZ := hZ.comp S308 (fun _ h => h.elim)
            replace hB := hB.st S308 (fun h => h) (fun h => h)
            replace h40 := h40.st S308 (fun h => h)
            replace h22 := h22.st S308 (fun h => h)
            replace h25 := h25.st S308 (fun h => h)
            replace h28 := h28.st S308 (fun h => h)
            replace h45 := h45.st S308 (fun h => h)
            replace h285 := h285.st S308 (fun h => h)
            replace h289 := h289.st S308 (fun h => h)
            replace h296 := h296.st S308 (fun h => h)
            refine owp_loudS ⟨_, hZ⟩ ?_
            refine hws_pre (fuel := 1) [(10, true)] (by kernel_rfl) (by kernel_rfl) (by kernel_rfl) ⟨_, hZ⟩ ?_
            refine h_bd rfl rfl rfl rfl  ?_
            refine hwp_nilT ?_
            refine hws_one (i := 12) (by kernel_rfl) rfl ?_
            refine l_store h285 rfl rfl rfl (Nat.le_of_ble_eq_true rfl) (by first | exact allOne rfl | simp [Value.cells, Value.oneCell', errV_one]) fun w311 S312 h285 => ?_
            replace h285 : Lc 7 w311 O307 g281 29 [(.slice A291 q72.length c292), (.slice (some ⟨g305, 0, none⟩) u76.length m300), (.slice A298 q74.length c299)] := h285
            replace hB := hB.st S312 (by decide) (by decide)
            replace h40 := h40.st S312 (by decide)
            replace h22 := h22.st S312 (by decide)
            replace h25 := h25.st S312 (by decide)
            replace h28 := h28.st S312 (by decide)
            replace h45 := h45.st S312 (by decide)
            replace h289 := h289.st S312 (by decide)
            replace h309 := h309.st S312 (by decide) (by decide)
            replace h296 := h296.st S312 (by decide)
            refine owp_loudSE (by kernel_rfl) ?_
            refine hws_nil (by kernel_rfl) ?_
            obtain rfl := sm hy64
            exact ⟨(g281, (A291, c292), ((some ⟨g305, 0, none⟩), m300), (A298, c299)), _, ⟨rfl, rfl, rfl, trivial⟩, hB, h40, h22, h25, h28, h45, h285, h289, h309, h296⟩
          · skip
            obtain ⟨m313, e314, e315, e316, e317⟩ := mkI_some e77
            refine l_make 6 (by decide) O287 (z0 := (([] : List Int) : List Int)) rfl rfl rfl rfl rfl e314 (Vb.nil _ _) e315 e316 rfl fun g318 w319 O320 S321 h322 => ?_
            rw [← e317] at h322 ⊢
            replace hZ := hZ.comp S321 (fun _ h => h.elim)
            replace hB := hB.st S321 (fun h => h) (fun h => h)
            replace h40 := h40.st S321 (fun h => h)
            replace h22 := h22.st S321 (fun h => h)
            replace h25 := h25.st S321 (fun h => h)
            replace h28 := h28.st S321 (fun h => h)
            replace h45 := h45.st S321 (fun h => h)
            replace h285 := h285.st S321 (fun h => h)
            replace h289 := h289.st S321 (fun h => h)
            refine owp_loudS ⟨_, hZ⟩ ?_
            refine hws_one (i := 5) (by kernel_rfl) rfl ?_
            refine l_call (O := O320) (R := fun w' F v => Vb w' F v q74) (c_symmetry_back Fr.lt h28 e75) rfl rfl fun v328 w324 O325 S326 h327 => ?_
            obtain ⟨A329, c330, rfl⟩ := h327.form
            replace hZ := hZ.comp S326 (fun _ h => h.elim)
            replace hB := hB.st S326 (fun h => h) (fun h => h)
            replace h40 := h40.st S326 (fun h => h)
            replace h22 := h22.st S326 (fun h => h)
            replace h25 := h25.st S326 (fun h => h)
            replace h28 := h28.st S326 (fun h => h)
            replace h45 := h45.st S326 (fun h => h)
            replace h285 := h285.st S326 (fun h => h)
            replace h289 := h289.st S326 (fun h => h)
            replace h322 := h322.st S326 (fun h => h) (fun h => h)
            refine owp_loudS ⟨_, hZ⟩ ?_
            refine hws_pre (fuel := 1) [(10, true)] (by kernel_rfl) (by kernel_rfl) (by kernel_rfl) ⟨_, hZ⟩ ?_
            refine h_bd rfl rfl rfl rfl  ?_
            refine hwp_nilT ?_
            refine hws_one (i := 12) (by kernel_rfl) rfl ?_
            refine l_store h285 rfl rfl rfl (Nat.le_of_ble_eq_true rfl) (by first | exact allOne rfl | simp [Value.cells, Value.oneCell', errV_one]) fun w331 S332 h285 => ?_
            replace h285 : Lc 7 w331 O325 g281 29 [(.slice A291 q72.length c292), (.slice (some ⟨g318, 0, none⟩) u76.length m313), (.slice A329 q74.length c330)] := h285
            replace hB := hB.st S332 (by decide) (by decide)
            replace h40 := h40.st S332 (by decide)
            replace h22 := h22.st S332 (by decide)
            replace h25 := h25.st S332 (by decide)
            replace h28 := h28.st S332 (by decide)
            replace h45 := h45.st S332 (by decide)
            replace h289 := h289.st S332 (by decide)
            replace h322 := h322.st S332 (by decide) (by decide)
            replace h327 := h327.st S332 (by decide)
            refine owp_loudSE (by kernel_rfl) ?_
            refine hws_nil (by kernel_rfl) ?_
            obtain rfl := sm hy64
            exact ⟨(g281, (A291, c292), ((some ⟨g318, 0, none⟩), m313), (A329, c330)), _, ⟨rfl, rfl, rfl, trivial⟩, hB, h40, h22, h25, h28, h45, h285, h289, h322, h327⟩
        · skip
          obtain ⟨m333, e334, e335, e336, e337⟩ := mkI_some e77
          refine l_make 6 (by decide) O283 (z0 := (([] : List Int) : List Int)) rfl rfl rfl rfl rfl e334 (Vb.nil _ _) e335 e336 rfl fun g338 w339 O340 S341 h342 => ?_
          rw [← e337] at h342 ⊢
          replace hZ := hZ.comp S341 (fun _ h => h.elim)
          replace hB := hB.st S341 (fun h => h) (fun h => h)
          replace h40 := h40.st S341 (fun h => h)
          replace h22 := h22.st S341 (fun h => h)
          replace h25 := h25.st S341 (fun h => h)
          replace h28 := h28.st S341 (fun h => h)
          replace h45 := h45.st S341 (fun h => h)
          replace h285 := h285.st S341 (fun h => h)
          refine owp_loudS ⟨_, hZ⟩ ?_
          refine hws_one (i := 2) (by kernel_rfl) rfl ?_
          refine l_call (O := O340) (R := fun w' F v => Vb w' F v q72) (c_symmetry_back Fr.lt h22 e73) rfl rfl fun v348 w344 O345 S346 h347 => ?_
          obtain ⟨A349, c350, rfl⟩ := h347.form
          replace hZ := hZ.comp S346 (fun _ h => h.elim)
          replace hB := hB.st S346 (fun h => h) (fun h => h)
          replace h40 := h40.st S346 (fun h => h)
          replace h22 := h22.st S346 (fun h => h)
          replace h25 := h25.st S346 (fun h => h)
          replace h28 := h28.st S346 (fun h => h)
          replace h45 := h45.st S346 (fun h => h)
          replace h285 := h285.st S346 (fun h => h)
          replace h342 := h342.st S346 (fun h => h) (fun h => h)
          refine owp_loudS ⟨_, hZ⟩ ?_
          refine hws_one (i := 5) (by kernel_rfl) rfl ?_
          refine l_call (O := O345) (R := fun w' F v => Vb w' F v q74) (c_symmetry_back Fr.lt h28 e75) rfl rfl fun v355 w351 O352 S353 h354 => ?_
          obtain ⟨A356, c357, rfl⟩ := h354.form
          replace hZ := hZ.comp S353 (fun _ h => h.elim)
          replace hB := hB.st S353 (fun h => h) (fun h => h)
          replace h40 := h40.st S353 (fun h => h)
          replace h22 := h22.st S353 (fun h => h)
          replace h25 := h25.st S353 (fun h => h)
          replace h28 := h28.st S353 (fun h => h)
          replace h45 := h45.st S353 (fun h => h)
          replace h285 := h285.st S353 (fun h => h)
          replace h347 := h347.st S353 (fun h => h)
          replace h342 := h342.st S353 (fun h => h) (fun h => h)
          refine owp_loudS ⟨_, hZ⟩ ?_
          refine hws_pre (fuel := 1) [(10, true)] (by kernel_rfl) (by kernel_rfl) (by kernel_rfl) ⟨_, hZ⟩ ?_
          refine h_bd rfl rfl rfl rfl  ?_
          refine hwp_nilT ?_
          refine hws_one (i := 12) (by kernel_rfl) rfl ?_
          refine l_store h285 rfl rfl rfl (Nat.le_of_ble_eq_true rfl) (by first | exact allOne rfl | simp [Value.cells, Value.oneCell', errV_one]) fun w358 S359 h285 => ?_
          replace h285 : Lc 7 w358 O352 g281 29 [(.slice A349 q72.length c350), (.slice (some ⟨g338, 0, none⟩) u76.length m333), (.slice A356 q74.length c357)] := h285
          replace hB := hB.st S359 (by decide) (by decide)
          replace h40 := h40.st S359 (by decide)
          replace h22 := h22.st S359 (by decide)
          replace h25 := h25.st S359 (by decide)
          replace h28 := h28.st S359 (by decide)
          replace h45 := h45.st S359 (by decide)
          replace h347 := h347.st S359 (by decide)
          replace h342 := h342.st S359 (by decide) (by decide)
          replace h354 := h354.st S359 (by decide)
          refine owp_loudSE (by kernel_rfl) ?_
          refine hws_nil (by kernel_rfl) ?_
          obtain rfl := sm hy64
          exact ⟨(g281, (A349, c350), ((some ⟨g338, 0, none⟩), m333), (A356, c357)), _, ⟨rfl, rfl, rfl, trivial⟩, hB, h40, h22, h25, h28, h45, h285, h347, h342, h354⟩
    rintro l360 w361 ⟨x66, O362, hs363, hB, h40, h22, h25, h28, h45, h67, h68, h69, h71⟩
    refine ewp_sub _ hs363 ?_
    refine ewp_seq ?_
    refine ewp_seq ?_
    refine ewp_region ?_
    refine o_fa rfl rfl  ?_
    refine o_ld (hc := Blk.cell (i := 1) (h40.1) rfl) rfl rfl  ?_
    refine o_ln rfl rfl  ?_
    have l365 : x1.vals.length ≤ 9223372036854775807 := Nat.le_trans h25.len.2.1 h25.len.2.2
    have r364 : inI64 (x1.vals.length : Int) := rngNat l365
    refine o_mv rfl rfl  ?_
    (first | refine owp_nilT ?_ | refine owp_nilB ?_ | refine owp_nilBB ?_ | refine owp_nil ?_)
    obtain ⟨res366, hL367, hm⟩ := bs hm
    refine ewp_join (aft res366 (fun (s368 : (List (List Int))) (x369 : (Option Addr × Nat)) => [(4, (.pointer (some ⟨g41, 0, none⟩))), (7, (.pointer (some ⟨x66.1, 0, none⟩)))]) (fun s368 x369 w' => ∃ O' : Lab, Bs w A w' O' ∧ Lc 4 w' O' g41 29 [(.slice none 0 0), (.slice none 0 0), (.slice none 0 0)] ∧ Lc 7 w' O' x66.1 29 [(.slice x66.2.1.1 y63.1.length x66.2.1.2), (.slice x369.1 s368.length x369.2), (.slice x66.2.2.2.1 y63.2.2.length x66.2.2.2.2)] ∧ Vb w' (Fr 0 w' O') (.slice x66.2.1.1 y63.1.length x66.2.1.2) y63.1 ∧ Rw 6 w' O' 22 (.slice x369.1 s368.length x369.2) s368 ∧ Vb w' (Fr 0 w' O') (.slice x66.2.2.2.1 y63.2.2.length x66.2.2.2.2) y63.2.2)) ?_ ?_
    · refine ewp_block ?_
      refine ewp_rng (σ := (List (List Int))) (X := (Option Addr × Nat)) (x1.vals.length) hL367 rfl l365 (fun (s368 : (List (List Int))) (x369 : (Option Addr × Nat)) => [(3, (.pointer (some ⟨g36, 0, none⟩))), (4, (.pointer (some ⟨g41, 0, none⟩))), (7, (.pointer (some ⟨x66.1, 0, none⟩))), (30, (.slice A26 x1.vals.length c27))]) _ (fun s368 x369 w' => ∃ O' : Lab, Bs w A w' O' ∧ Lc 3 w' O' g36 29 [(.slice A23 x1.vars.length c24), (.slice A26 x1.vals.length c27), (.slice A29 x1.ops.length c30)] ∧ Vb w' (Fr 0 w' O') (.slice A23 x1.vars.length c24) x1.vars ∧ Vb w' (Fr 0 w' O') (.slice A26 x1.vals.length c27) x1.vals ∧ Vb w' (Fr 0 w' O') (.slice A29 x1.ops.length c30) x1.ops ∧ Lc 4 w' O' g41 29 [(.slice none 0 0), (.slice none 0 0), (.slice none 0 0)] ∧ Lc 7 w' O' x66.1 29 [(.slice x66.2.1.1 y63.1.length x66.2.1.2), (.slice x369.1 s368.length x369.2), (.slice x66.2.2.2.1 y63.2.2.length x66.2.2.2.2)] ∧ Vb w' (Fr 0 w' O') (.slice x66.2.1.1 y63.1.length x66.2.1.2) y63.1 ∧ Rw 6 w' O' 22 (.slice x369.1 s368.length x369.2) s368 ∧ Vb w' (Fr 0 w' O') (.slice x66.2.2.2.1 y63.2.2.length x66.2.2.2.2) y63.2.2) _ (x66.2.2.1.1, x66.2.2.1.2) ⟨O362, hB, h40, h22, h25, h28, h45, h67, h68, h69, h71⟩ ⟨rfl, rfl, rfl, rfl, rfl, rfl, trivial⟩ (fun _ _ => ⟨rfl, rfl⟩) (fun _ _ => ⟨rfl, rfl, trivial⟩) (fun _ _ _ ⟨O', hB, h40, h22, h25, h28, h45, h67, h68, h383, h71⟩ => ⟨O', hB, h45, h67, h68, h383, h71⟩) ⟨rfl, rfl, rfl⟩ ⟨rfl, rfl⟩ ?_
      rintro k370 a371 s368 x369 w372 cc374 hx375 ⟨O373, hB, h40, h22, h25, h28, h45, h67, h68, h383, h71⟩ hf376 hret377 hbrk378
      have rk370 : inI64 (k370 : Int) := rngK hx375 l365
      refine ewp_seq ?_
      refine ewp_region ?_
      refine o_mv rfl rfl  ?_
      obtain ⟨b385, o386, ce387, hA388, hl389, hd390, v392, rfl, h393⟩ := h25.elem' hx375
      replace h393 := Vb.of_slice h393
      obtain ⟨A394, c395, rfl⟩ := h393.form
      refine o_iaE (hA := hA388) (hj := rfl) (hlt := hl389) rfl rfl rfl  ?_
      refine o_ld (hc := cat0 hd390) rfl rfl  ?_
      refine o_as rfl rfl  ?_
      refine o_as rfl rfl  ?_
      (first | refine owp_nilT ?_ | refine owp_nilB ?_ | refine owp_nilBB ?_ | refine owp_nil ?_)
      have hZ := St.refl (nT) w372 O373
      have zh40 := h40
      have zh22 := h22
      have zh25 := h25
      have zh28 := h28
      have zh45 := h45
      have zh67 := h67
      have zh68 := h68
      have zh383 := h383
      have zh71 := h71
      have zh393 := h393
      refine ewp_drawS (fun w' => ∃ O', St (nT) w372 O373 w' O') ?_
      refine hws_pre (fuel := 3) [(0, true), (1, true), (2, true), (3, true), (4, true), (5, true), (6, true), (7, true)] (by kernel_rfl) (by kernel_rfl) (by kernel_rfl) ⟨_, hZ⟩ ?_
      refine h_fa rfl rfl rfl  ?_
      refine h_ldC (hc := fun w' ⟨O', hq⟩ => Blk.cell (i := 1) ((zh67.st hq (by decide)).1) rfl) rfl rfl rfl  ?_
      refine h_fa rfl rfl rfl  ?_
      refine h_ldC (hc := fun w' ⟨O', hq⟩ => Blk.cell (i := 0) ((zh40.st hq (by decide)).1) rfl) rfl rfl rfl  ?_
      refine h_mv rfl rfl rfl  ?_
      obtain ⟨a396, e397, hf376⟩ := bs hf376
      obtain ⟨b398, o399, ce400, hA401, hF404, hl402, hd403, rfl, r405⟩ := zh22.elem e397
      refine h_iaE (hA := hA401) (hj := rfl) (hlt := hl402) rfl rfl rfl rfl  ?_
      refine h_ldC (hc := fun w' ⟨O', hq⟩ => cat0 (cellsAt_agree (hq.agree (i := 0) (by decide)) hF404 hd403)) rfl rfl rfl  ?_
      refine h_mv rfl rfl rfl  ?_
      refine hwp_nilT ?_
      refine hws_one (i := 8) (by kernel_rfl) rfl ?_
      obtain ⟨q406, e407, hf376⟩ := bs hf376
      refine l_call (O := O373) (R := fun w' F v => Vb w' F v q406) (c_symmetry_back Fr.lt h393 e407) rfl rfl fun v412 w408 O409 S410 h411 => ?_
      obtain ⟨A413, c414, rfl⟩ := h411.form
      replace hZ := hZ.comp S410 (fun _ h => h.elim)
      replace hB := hB.st S410 (fun h => h) (fun h => h)
      replace h40 := h40.st S410 (fun h => h)
      replace h22 := h22.st S410 (fun h => h)
      replace h25 := h25.st S410 (fun h => h)
      replace h28 := h28.st S410 (fun h => h)
      replace h45 := h45.st S410 (fun h => h)
      replace h67 := h67.st S410 (fun h => h)
      replace h68 := h68.st S410 (fun h => h)
      replace h383 := h383.st S410 (fun h => h) (fun h => h)
      replace h71 := h71.st S410 (fun h => h)
      refine owp_loudS ⟨_, hZ⟩ ?_
      refine hws_pre (fuel := 1) [(9, true)] (by kernel_rfl) (by kernel_rfl) (by kernel_rfl) ⟨_, hZ⟩ ?_
      obtain ⟨a415, e416, hf376⟩ := bs hf376
      obtain ⟨p418, x417⟩ := atI_some' e416
      obtain ⟨b419, o420, ce421, hA422, hF425, hl423, hd424, v426, rfl, h427⟩ := zh383.elemF x417
      replace h427 := Vb.of_slice h427
      obtain ⟨A428, c429, rfl⟩ := h427.form
      have zh427 := h427
      replace h427 := h427.st hZ (by decide)
      refine h_iaE (hA := hA422) (hj := (Int.toNat_of_nonneg p418).symm) (hlt := hl423) rfl rfl rfl rfl  ?_
      refine hwp_nilT ?_
      refine hws_one (i := 10) (by kernel_rfl) rfl ?_
      refine l_setE rfl h383 (a := q406) h411 hA422 rfl rfl (lt_of_get x417) fun w430 S431 h383 => ?_
      replace hB := hB.st S431 (by decide) (by decide)
      replace h40 := h40.st S431 (by decide)
      replace h22 := h22.st S431 (by decide)
      replace h25 := h25.st S431 (by decide)
      replace h28 := h28.st S431 (by decide)
      replace h45 := h45.st S431 (by decide)
      replace h67 := h67.st S431 (by decide)
      replace h68 := h68.st S431 (by decide)
      replace h71 := h71.st S431 (by decide)
      refine owp_loudSE (by kernel_rfl) ?_
      refine hws_nil (by kernel_rfl) ?_
      obtain rfl := sm hf376
      refine (?_ : Exists _)
      exact ⟨_, (x369.1, x369.2), rfl, ⟨rfl, rfl, rfl, rfl, rfl, rfl, trivial⟩, _, hB, h40, h22, h25, h28, h45, (by have q := h67; rw [← ((by simp : (s368.set (a396).toNat q406).length = s368.length).trans rfl)] at q; exact q), h68, h383.relen, h71⟩
    rintro l432 w433 ⟨s436, x437, rfl, hs435, O434, hB, h45, h67, h68, h383, h71⟩
    replace hm := fin_done hm
    refine ewp_sub _ hs435 ?_
    refine ewp_seq ?_
    refine ewp_region ?_
    refine o_la (hl := rfl) (hc := (h67.1).cellsAt) rfl rfl  ?_
    refine l_store h45 rfl rfl rfl (Nat.le_of_ble_eq_true rfl) (by first | exact allOne rfl | simp [Value.cells, Value.oneCell', errV_one]) fun w438 S439 h45 => ?_
    replace h45 : Lc 4 w438 O434 g41 29 [(.slice x66.2.1.1 y63.1.length x66.2.1.2), (.slice x437.1 s436.length x437.2), (.slice x66.2.2.2.1 y63.2.2.length x66.2.2.2.2)] := h45
    replace hB := hB.st S439 (by decide) (by decide)
    replace h68 := h68.st S439 (by decide)
    replace h383 := h383.st S439 (by decide) (by decide)
    replace h71 := h71.st S439 (by decide)
    refine o_as rfl rfl  ?_
    (first | refine owp_nilT ?_ | refine owp_nilB ?_ | refine owp_nilBB ?_ | refine owp_nil ?_)
    refine ewp_ret ?_
    obtain ⟨O440, S441, h383⟩ := h383.freeze
    replace hB := hB.st S441 (by decide) (by decide)
    replace h45 := h45.st S441 (by decide)
    replace h68 := h68.st S441 (by decide)
    replace h71 := h71.st S441 (by decide)
    obtain rfl := sm hm
    exact ret2 rfl (res_cell (cs := [(.slice x66.2.1.1 y63.1.length x66.2.1.2), (.slice x437.1 s436.length x437.2), (.slice x66.2.2.2.1 y63.2.2.length x66.2.2.2.2)]) rfl rfl h45.1.cellsAt) (res_tmp rfl) ⟨hB.ext, _, _, rfl, (Vb.mono (F := Fr 0 w438 O440) (Vb.ofAgg (cs := [(.slice x66.2.1.1 y63.1.length x66.2.1.2), (.slice x437.1 s436.length x437.2), (.slice x66.2.2.2.1 y63.2.2.length x66.2.2.2.2)]) (x := (⟨y63.1, s436, y63.2.2⟩ : Swp)) rfl ⟨_, _, _, rfl, h68, h383, h71⟩) hB.out), (vErr (show inI64 0 from by decide))⟩
noncomputable def m_law51_Same (x0 : Swp) (x1 : Swp) : Option Bool :=
  bnd (bnd (m_base_Ints x0.vars x1.vars) fun q41 => if q41 = true then bnd (m_base_Ints x0.ops x1.ops) fun q48 => if q48 = true then if (x0.vals.length : Int) ≠ (x1.vals.length : Int) then (some true) else (some false) else some true else some true : Option Bool) fun y37 => if y37 = true then (some false) else (bnd (rng (ρ := Bool) (fun (k71 : Nat) (a72 : List Int) (s69 : Unit) => bnd (x1.vals[k71]?) fun a93 => bnd (m_base_Ints a72 a93) fun q106 => if q106 = true then some (.next ()) else some (.ret false)) x0.vals 0 ()) fun res67 => fin res67 fun (s117 : Unit) => some true)
theorem c_law51_Same {w : World} {A : Nat → Prop} (hA : ∀ k, A k → k < w.heap.size) {vx0 : Value} {x0 : Swp} (hx0 : Vb w A vx0 x0) {vx1 : Value} {x1 : Swp} (hx1 : Vb w A vx1 x1) {r : Bool} (hm : m_law51_Same x0 x1 = some r) :
    Fn Try.prog 24 [vx0, vx1] w fun v w' => Ext w w' ∧ Vb w' (upA A w w') v r := by
  obtain ⟨O, hB, hA0⟩ := enter hA
  replace hx0 := hx0.mono hA0
  obtain ⟨cs1, rfl, v2, v3, v4, rfl, h5, h8, h11⟩ := hx0
  obtain ⟨A6, c7, rfl⟩ := h5.form
  obtain ⟨A9, c10, rfl⟩ := h8.form
  obtain ⟨A12, c13, rfl⟩ := h11.form
  replace hx1 := hx1.mono hA0
  obtain ⟨cs14, rfl, v15, v16, v17, rfl, h18, h21, h24⟩ := hx1
  obtain ⟨A19, c20, rfl⟩ := h18.form
  obtain ⟨A22, c23, rfl⟩ := h21.form
  obtain ⟨A25, c26, rfl⟩ := h24.form
  refine fn_enter Try.func24 rfl Try.ntmps24 rfl ?_
  unfold m_law51_Same at hm
  refine ewp_seq ?_
  refine ewp_region ?_
  refine l_box 2 O rfl rfl fun g27 w28 O29 S30 h31 => ?_
  replace h31 : Lc 2 w28 O29 g27 29 [(.slice A6 x0.vars.length c7), (.slice A9 x0.vals.length c10), (.slice A12 x0.ops.length c13)] := h31
  replace hB := hB.st S30 (fun h => h) (fun h => h)
  replace h18 := h18.st S30 (fun h => h)
  replace h21 := h21.st S30 (fun h => h)
  replace h24 := h24.st S30 (fun h => h)
  replace h5 := h5.st S30 (fun h => h)
  replace h8 := h8.st S30 (fun h => h)
  replace h11 := h11.st S30 (fun h => h)
  refine l_box 3 O29 rfl rfl fun g32 w33 O34 S35 h36 => ?_
  replace h36 : Lc 3 w33 O34 g32 29 [(.slice A19 x1.vars.length c20), (.slice A22 x1.vals.length c23), (.slice A25 x1.ops.length c26)] := h36
  replace hB := hB.st S35 (fun h => h) (fun h => h)
  replace h31 := h31.st S35 (fun h => h)
  replace h5 := h5.st S35 (fun h => h)
  replace h8 := h8.st S35 (fun h => h)
  replace h11 := h11.st S35 (fun h => h)
  replace h18 := h18.st S35 (fun h => h)
  replace h21 := h21.st S35 (fun h => h)
  replace h24 := h24.st S35 (fun h => h)
  refine o_as rfl rfl  ?_
  (first | refine owp_nilT ?_ | refine owp_nilB ?_ | refine owp_nilBB ?_ | refine owp_nil ?_)
  refine ewp_seq ?_
  refine ewp_seq ?_
  obtain ⟨y37, hy38, hm⟩ := bs hm
  refine ewp_join (fun l' w' => ∃ (x40 : Unit) (O' : Lab), subs l' [(2, (.pointer (some ⟨g27, 0, none⟩))), (3, (.pointer (some ⟨g32, 0, none⟩))), (28, (.bool y37))] ∧ Bs w A w' O' ∧ Lc 2 w' O' g27 29 [(.slice A6 x0.vars.length c7), (.slice A9 x0.vals.length c10), (.slice A12 x0.ops.length c13)] ∧ Vb w' (Fr 0 w' O') (.slice A6 x0.vars.length c7) x0.vars ∧ Vb w' (Fr 0 w' O') (.slice A9 x0.vals.length c10) x0.vals ∧ Vb w' (Fr 0 w' O') (.slice A12 x0.ops.length c13) x0.ops ∧ Lc 3 w' O' g32 29 [(.slice A19 x1.vars.length c20), (.slice A22 x1.vals.length c23), (.slice A25 x1.ops.length c26)] ∧ Vb w' (Fr 0 w' O') (.slice A19 x1.vars.length c20) x1.vars ∧ Vb w' (Fr 0 w' O') (.slice A22 x1.vals.length c23) x1.vals ∧ Vb w' (Fr 0 w' O') (.slice A25 x1.ops.length c26) x1.ops) ?_ ?_
  · skip
    refine ewp_region ?_
    refine o_fa rfl rfl  ?_
    refine o_ld (hc := Blk.cell (i := 0) (h31.1) rfl) rfl rfl  ?_
    refine o_fa rfl rfl  ?_
    refine o_ld (hc := Blk.cell (i := 0) (h36.1) rfl) rfl rfl  ?_
    obtain ⟨q41, e42, hy38⟩ := bs hy38
    refine l_callA (O := O34) (A := All w33) (R := fun w' F v => Vb w' F v q41) (c_base_Ints (fun _ h => h) (Vb.mono (F := Fr 0 w33 O34) h5 Fr.lt) (Vb.mono (F := Fr 0 w33 O34) h18 Fr.lt) e42) rfl rfl fun v47 w43 O44 S45 h46 => ?_
    obtain rfl := h46.bool
    replace hB := hB.st S45 (fun h => h) (fun h => h)
    replace h31 := h31.st S45 (fun h => h)
    replace h5 := h5.st S45 (fun h => h)
    replace h8 := h8.st S45 (fun h => h)
    replace h11 := h11.st S45 (fun h => h)
    replace h36 := h36.st S45 (fun h => h)
    replace h18 := h18.st S45 (fun h => h)
    replace h21 := h21.st S45 (fun h => h)
    replace h24 := h24.st S45 (fun h => h)
    cases q41
    case false =>
      replace hy38 := iF hy38
      refine o_nf rfl rfl  ?_
      refine o_mv rfl rfl  ?_
      refine owp_no rfl rfl rfl rfl ?_
      refine owp_no rfl rfl rfl rfl ?_
      refine owp_no rfl rfl rfl rfl ?_
      refine owp_no rfl rfl rfl rfl ?_
      refine owp_no rfl rfl rfl rfl ?_
      refine owp_no rfl rfl rfl rfl ?_
      refine o_pt rfl rfl rfl  ?_
      refine o_mv rfl rfl  ?_
      refine owp_no rfl rfl rfl rfl ?_
      refine owp_no rfl rfl rfl rfl ?_
      refine owp_no rfl rfl rfl rfl ?_
      refine owp_no rfl rfl rfl rfl ?_
      refine owp_no rfl rfl rfl rfl ?_
      refine owp_no rfl rfl rfl rfl ?_
      refine owp_no rfl rfl rfl rfl ?_
      refine o_pt rfl rfl rfl  ?_
      (first | refine owp_nilT ?_ | refine owp_nilB ?_ | refine owp_nilBB ?_ | refine owp_nil ?_)
      obtain rfl := sm hy38
      exact ⟨(), _, ⟨rfl, rfl, rfl, trivial⟩, hB, h31, h5, h8, h11, h36, h18, h21, h24⟩
    replace hy38 := iT hy38
    refine o_nt rfl rfl  ?_
    refine o_mv rfl rfl  ?_
    refine owp_yes rfl rfl ?_
    refine o_fa rfl rfl  ?_
    refine owp_yes rfl rfl ?_
    refine o_ld (hc := Blk.cell (i := 2) (h31.1) rfl) rfl rfl  ?_
    refine owp_yes rfl rfl ?_
    refine o_fa rfl rfl  ?_
    refine owp_yes rfl rfl ?_
    refine o_ld (hc := Blk.cell (i := 2) (h36.1) rfl) rfl rfl  ?_
    refine owp_yes rfl rfl ?_
    obtain ⟨q48, e49, hy38⟩ := bs hy38
    refine l_callA (O := O44) (A := All w43) (R := fun w' F v => Vb w' F v q48) (c_base_Ints (fun _ h => h) (Vb.mono (F := Fr 0 w43 O44) h11 Fr.lt) (Vb.mono (F := Fr 0 w43 O44) h24 Fr.lt) e49) rfl rfl fun v54 w50 O51 S52 h53 => ?_
    obtain rfl := h53.bool
    replace hB := hB.st S52 (fun h => h) (fun h => h)
    replace h31 := h31.st S52 (fun h => h)
    replace h5 := h5.st S52 (fun h => h)
    replace h8 := h8.st S52 (fun h => h)
    replace h11 := h11.st S52 (fun h => h)
    replace h36 := h36.st S52 (fun h => h)
    replace h18 := h18.st S52 (fun h => h)
    replace h21 := h21.st S52 (fun h => h)
    replace h24 := h24.st S52 (fun h => h)
    cases q48
    case false =>
      replace hy38 := iF hy38
      refine owp_yes rfl rfl ?_
      refine o_nf rfl rfl  ?_
      refine o_pf rfl rfl rfl  ?_
      refine o_mv rfl rfl  ?_
      refine owp_no rfl rfl rfl rfl ?_
      refine owp_no rfl rfl rfl rfl ?_
      refine owp_no rfl rfl rfl rfl ?_
      refine owp_no rfl rfl rfl rfl ?_
      refine owp_no rfl rfl rfl rfl ?_
      refine owp_no rfl rfl rfl rfl ?_
      refine owp_no rfl rfl rfl rfl ?_
      refine o_pt rfl rfl rfl  ?_
      (first | refine owp_nilT ?_ | refine owp_nilB ?_ | refine owp_nilBB ?_ | refine owp_nil ?_)
      obtain rfl := sm hy38
      exact ⟨(), _, ⟨rfl, rfl, rfl, trivial⟩, hB, h31, h5, h8, h11, h36, h18, h21, h24⟩
    replace hy38 := iT hy38
    refine owp_yes rfl rfl ?_
    refine o_nt rfl rfl  ?_
    refine o_pf rfl rfl rfl  ?_
    refine o_mv rfl rfl  ?_
    refine owp_yes rfl rfl ?_
    refine o_fa rfl rfl  ?_
    refine owp_yes rfl rfl ?_
    refine o_ld (hc := Blk.cell (i := 1) (h31.1) rfl) rfl rfl  ?_
    refine owp_yes rfl rfl ?_
    refine o_ln rfl rfl  ?_
    have l56 : x0.vals.length ≤ 9223372036854775807 := Nat.le_trans h8.len.2.1 h8.len.2.2
    have r55 : inI64 (x0.vals.length : Int) := rngNat l56
    refine owp_yes rfl rfl ?_
    refine o_fa rfl rfl  ?_
    refine owp_yes rfl rfl ?_
    refine o_ld (hc := Blk.cell (i := 1) (h36.1) rfl) rfl rfl  ?_
    refine owp_yes rfl rfl ?_
    refine o_ln rfl rfl  ?_
    have l58 : x1.vals.length ≤ 9223372036854775807 := Nat.le_trans h21.len.2.1 h21.len.2.2
    have r57 : inI64 (x1.vals.length : Int) := rngNat l58
    refine owp_yes rfl rfl ?_
    refine o_neS rfl rfl rfl (fun c59 => ?_) fun c59 => ?_
    · replace hy38 := ip hy38 c59
      refine o_pf rfl rfl rfl  ?_
      (first | refine owp_nilT ?_ | refine owp_nilB ?_ | refine owp_nilBB ?_ | refine owp_nil ?_)
      obtain rfl := sm hy38
      exact ⟨(), _, ⟨rfl, rfl, rfl, trivial⟩, hB, h31, h5, h8, h11, h36, h18, h21, h24⟩
    · replace hy38 := im hy38 c59
      refine o_pf rfl rfl rfl  ?_
      (first | refine owp_nilT ?_ | refine owp_nilB ?_ | refine owp_nilBB ?_ | refine owp_nil ?_)
      obtain rfl := sm hy38
      exact ⟨(), _, ⟨rfl, rfl, rfl, trivial⟩, hB, h31, h5, h8, h11, h36, h18, h21, h24⟩
  rintro l60 w61 ⟨x40, O62, hs63, hB, h31, h5, h8, h11, h36, h18, h21, h24⟩
  refine ewp_sub _ hs63 ?_
  refine ewp_cond rfl (fun c64 => ?_) (fun c64 => ?_)
  · replace hm := ip hm c64
    refine ewp_seq ?_
    refine ewp_region ?_
    refine o_as rfl rfl  ?_
    (first | refine owp_nilT ?_ | refine owp_nilB ?_ | refine owp_nilBB ?_ | refine owp_nil ?_)
    refine ewp_ret ?_
    obtain rfl := sm hm
    exact ret1v rfl (res_tmp rfl) ⟨hB.ext, vBool⟩
  · replace hm := im' hm c64
    refine ewp_skip ?_
    refine ewp_seq ?_
    refine ewp_seq ?_
    refine ewp_region ?_
    refine o_fa rfl rfl  ?_
    refine o_ld (hc := Blk.cell (i := 1) (h31.1) rfl) rfl rfl  ?_
    refine o_ln rfl rfl  ?_
    have l66 : x0.vals.length ≤ 9223372036854775807 := Nat.le_trans h8.len.2.1 h8.len.2.2
    have r65 : inI64 (x0.vals.length : Int) := rngNat l66
    refine o_mv rfl rfl  ?_
    (first | refine owp_nilT ?_ | refine owp_nilB ?_ | refine owp_nilBB ?_ | refine owp_nil ?_)
    obtain ⟨res67, hL68, hm⟩ := bs hm
    refine ewp_join (aft res67 (fun (s69 : Unit) (x70 : Unit) => []) (fun s69 x70 w' => ∃ O' : Lab, Bs w A w' O')) ?_ ?_
    · refine ewp_block ?_
      refine ewp_rng (σ := Unit) (X := Unit) (x0.vals.length) hL68 rfl l66 (fun (s69 : Unit) (x70 : Unit) => [(2, (.pointer (some ⟨g27, 0, none⟩))), (3, (.pointer (some ⟨g32, 0, none⟩)))]) _ (fun s69 x70 w' => ∃ O' : Lab, Bs w A w' O' ∧ Lc 2 w' O' g27 29 [(.slice A6 x0.vars.length c7), (.slice A9 x0.vals.length c10), (.slice A12 x0.ops.length c13)] ∧ Vb w' (Fr 0 w' O') (.slice A6 x0.vars.length c7) x0.vars ∧ Vb w' (Fr 0 w' O') (.slice A9 x0.vals.length c10) x0.vals ∧ Vb w' (Fr 0 w' O') (.slice A12 x0.ops.length c13) x0.ops ∧ Lc 3 w' O' g32 29 [(.slice A19 x1.vars.length c20), (.slice A22 x1.vals.length c23), (.slice A25 x1.ops.length c26)] ∧ Vb w' (Fr 0 w' O') (.slice A19 x1.vars.length c20) x1.vars ∧ Vb w' (Fr 0 w' O') (.slice A22 x1.vals.length c23) x1.vals ∧ Vb w' (Fr 0 w' O') (.slice A25 x1.ops.length c26) x1.ops) _ () ⟨O62, hB, h31, h5, h8, h11, h36, h18, h21, h24⟩ ⟨rfl, rfl, rfl, rfl, trivial⟩ (fun _ _ => ⟨rfl, rfl⟩) (fun _ _ => trivial) (fun _ _ _ ⟨O', hB, h31, h5, h8, h11, h36, h18, h21, h24⟩ => ⟨O', hB⟩) ⟨rfl, rfl, rfl⟩ ⟨rfl, rfl⟩ ?_
      rintro k71 a72 s69 x70 w73 cc75 hx76 ⟨O74, hB, h31, h5, h8, h11, h36, h18, h21, h24⟩ hf77 hret78 hbrk79
      have rk71 : inI64 (k71 : Int) := rngK hx76 l66
      refine ewp_seq ?_
      refine ewp_region ?_
      refine o_mv rfl rfl  ?_
      refine o_as rfl rfl  ?_
      (first | refine owp_nilT ?_ | refine owp_nilB ?_ | refine owp_nilBB ?_ | refine owp_nil ?_)
      refine ewp_seq ?_
      have hZ := St.refl (nT) w73 O74
      have zh31 := h31
      have zh5 := h5
      have zh8 := h8
      have zh11 := h11
      have zh36 := h36
      have zh18 := h18
      have zh21 := h21
      have zh24 := h24
      refine ewp_drawS (fun w' => ∃ O', St (nT) w73 O74 w' O') ?_
      refine hws_pre (fuel := 2) [(0, true), (1, true), (2, true), (3, true), (4, true), (5, true), (6, true), (7, true), (8, true), (9, true)] (by kernel_rfl) (by kernel_rfl) (by kernel_rfl) ⟨_, hZ⟩ ?_
      refine h_fa rfl rfl rfl  ?_
      refine h_ldC (hc := fun w' ⟨O', hq⟩ => Blk.cell (i := 1) ((zh31.st hq (by decide)).1) rfl) rfl rfl rfl  ?_
      refine h_mv rfl rfl rfl  ?_
      obtain ⟨b82, o83, ce84, hA85, hF88, hl86, hd87, v89, rfl, h90⟩ := zh8.elem hx76
      replace h90 := Vb.of_slice h90
      obtain ⟨A91, c92, rfl⟩ := h90.form
      have zh90 := h90
      refine h_iaE (hA := hA85) (hj := rfl) (hlt := hl86) rfl rfl rfl rfl  ?_
      refine h_ldC (hc := fun w' ⟨O', hq⟩ => cat0 (cellsAt_agree (hq.agree (i := 0) (by decide)) hF88 hd87)) rfl rfl rfl  ?_
      refine h_fa rfl rfl rfl  ?_
      refine h_ldC (hc := fun w' ⟨O', hq⟩ => Blk.cell (i := 1) ((zh36.st hq (by decide)).1) rfl) rfl rfl rfl  ?_
      refine h_mv rfl rfl rfl  ?_
      obtain ⟨a93, e94, hf77⟩ := bs hf77
      obtain ⟨b95, o96, ce97, hA98, hF101, hl99, hd100, v102, rfl, h103⟩ := zh21.elem e94
      replace h103 := Vb.of_slice h103
      obtain ⟨A104, c105, rfl⟩ := h103.form
      have zh103 := h103
      refine h_iaE (hA := hA98) (hj := rfl) (hlt := hl99) rfl rfl rfl rfl  ?_
      refine h_ldC (hc := fun w' ⟨O', hq⟩ => cat0 (cellsAt_agree (hq.agree (i := 0) (by decide)) hF101 hd100)) rfl rfl rfl  ?_
      refine hwp_nilT ?_
      refine hws_one (i := 10) (by kernel_rfl) rfl ?_
      obtain ⟨q106, e107, hf77⟩ := bs hf77
      refine l_callA (O := O74) (A := All w73) (R := fun w' F v => Vb w' F v q106) (c_base_Ints (fun _ h => h) (Vb.mono (F := Fr 0 w73 O74) h90 Fr.lt) (Vb.mono (F := Fr 0 w73 O74) h103 Fr.lt) e107) rfl rfl fun v112 w108 O109 S110 h111 => ?_
      obtain rfl := h111.bool
      replace hZ := hZ.comp S110 (fun _ h => h.elim)
      replace hB := hB.st S110 (fun h => h) (fun h => h)
      replace h31 := h31.st S110 (fun h => h)
      replace h5 := h5.st S110 (fun h => h)
      replace h8 := h8.st S110 (fun h => h)
      replace h11 := h11.st S110 (fun h => h)
      replace h36 := h36.st S110 (fun h => h)
      replace h18 := h18.st S110 (fun h => h)
      replace h21 := h21.st S110 (fun h => h)
      replace h24 := h24.st S110 (fun h => h)
      cases q106
      case false =>
        replace hf77 := iF hf77
        refine owp_loudS ⟨_, hZ⟩ ?_
        refine hws_pre (fuel := 0) [(11, true)] (by kernel_rfl) (by kernel_rfl) (by kernel_rfl) ⟨_, hZ⟩ ?_
        refine h_nf rfl rfl rfl  ?_
        refine hwp_nilT ?_
        refine hws_nil (by kernel_rfl) ?_
        refine ewp_true rfl ?_
        refine ewp_seq ?_
        refine ewp_region ?_
        refine o_as rfl rfl  ?_
        (first | refine owp_nilT ?_ | refine owp_nilB ?_ | refine owp_nilBB ?_ | refine owp_nil ?_)
        refine ewp_ret ?_
        obtain rfl := sm hf77
        obtain rfl := hret78 _ rfl
        obtain rfl := sm (fin_ret hm)
        exact ret1v rfl (res_tmp rfl) ⟨hB.ext, vBool⟩
      replace hf77 := iT hf77
      refine owp_loudS ⟨_, hZ⟩ ?_
      refine hws_pre (fuel := 0) [(11, true)] (by kernel_rfl) (by kernel_rfl) (by kernel_rfl) ⟨_, hZ⟩ ?_
      refine h_nt rfl rfl rfl  ?_
      refine hwp_nilT ?_
      refine hws_nil (by kernel_rfl) ?_
      refine ewp_false rfl ?_
      refine ewp_skip ?_
      obtain rfl := sm hf77
      refine (?_ : Exists _)
      exact ⟨_, (), rfl, ⟨rfl, rfl, rfl, rfl, trivial⟩, _, hB, h31, h5, h8, h11, h36, h18, h21, h24⟩
    rintro l113 w114 ⟨s117, x118, rfl, hs116, O115, hB⟩
    replace hm := fin_done hm
    refine ewp_sub _ hs116 ?_
    refine ewp_seq ?_
    refine ewp_region ?_
    refine o_as rfl rfl  ?_
    (first | refine owp_nilT ?_ | refine owp_nilB ?_ | refine owp_nilBB ?_ | refine owp_nil ?_)
    refine ewp_ret ?_
    obtain rfl := sm hm
    exact ret1v rfl (res_tmp rfl) ⟨hB.ext, vBool⟩
noncomputable def m_law51_SymmetryGroup (x0 : Tsk) (x1 : Swp) (x2 : Swp) : Option Bool :=
  bnd (bnd (m_base_Small x0) fun q63 => if q63 = true then bnd (m_law51_long x1) fun q70 => if q70 = true then some true else bnd (m_law51_long x2) fun q77 => if q77 = true then some true else bnd (m_law51_awake) fun q84 => if q84 = true then some false else some true else some true : Option Bool) fun y59 => if y59 = true then (bnd (bnd (m_law51_awake) fun q100 => if q100 = true then some true else some false : Option Bool) fun y96 => some y96) else (bnd (m_symmetry_Identity x0) fun q111 => bnd (if q111.2.n ≠ 0 then (some true) else (bnd (m_symmetry_Check x0 q111.1) fun q148 => if q148 = true then some false else some true) : Option Bool) fun y143 => if y143 = true then (some false) else (bnd (m_symmetry_Compose x0 x1 x2) fun q160 => bnd (bnd (m_symmetry_Check x0 x1) fun q196 => if q196 = true then bnd (m_symmetry_Check x0 x2) fun q203 => if q203 = true then some false else some true else some true : Option Bool) fun y192 => if y192 = true then (bnd (bnd (m_base_Is (⟨q160.2.n⟩ : Err) 2) fun q219 => if q219 = true then bnd (m_law51_Same q160.1 (⟨([] : List Int), ([] : List (List Int)), ([] : List Int)⟩ : Swp)) fun q226 => if q226 = true then some true else some false else some false : Option Bool) fun y215 => some y215) else (bnd (m_symmetry_Inverse x0 x1) fun q237 => bnd (if q160.2.n ≠ 0 then (some true) else (if q237.2.n ≠ 0 then (some true) else (bnd (m_symmetry_Check x0 q160.1) fun q275 => if q275 = true then bnd (m_symmetry_Check x0 q237.1) fun q282 => if q282 = true then some false else some true else some true)) : Option Bool) fun y269 => if y269 = true then (some false) else (bnd (m_symmetry_Compose x0 x1 q237.1) fun q294 => bnd (m_symmetry_Compose x0 q237.1 x1) fun q326 => bnd (if q294.2.n ≠ 0 then (some true) else (if q326.2.n ≠ 0 then (some true) else (bnd (m_law51_Same q294.1 q111.1) fun q364 => if q364 = true then bnd (m_law51_Same q326.1 q111.1) fun q371 => if q371 = true then some false else some true else some true)) : Option Bool) fun y358 => if y358 = true then (some false) else (bnd (m_base_States x0.vars) fun q383 => bnd (rng (ρ := Bool) (fun (k398 : Nat) (a399 : List Int) (s396 : Unit) => bnd (m_symmetry_State x0 x1 a399) fun q420 => bnd (m_symmetry_State x0 x2 q420.1) fun q434 => bnd (m_symmetry_State x0 q160.1 a399) fun q448 => bnd (m_symmetry_State x0 q111.1 a399) fun q462 => bnd (if q420.2.n ≠ 0 then (some true) else (if q434.2.n ≠ 0 then (some true) else (if q448.2.n ≠ 0 then (some true) else (if q462.2.n ≠ 0 then (some true) else (bnd (m_base_Ints q434.1 q448.1) fun q484 => if q484 = true then bnd (m_base_Ints q462.1 a399) fun q491 => if q491 = true then some false else some true else some true)))) : Option Bool) fun y476 => if y476 = true then (some (.ret false)) else (some (.next ()))) q383 0 ()) fun res394 => fin res394 fun (s507 : Unit) => some true)))))
theorem c_law51_SymmetryGroup {w : World} {A : Nat → Prop} (hA : ∀ k, A k → k < w.heap.size) {vx0 : Value} {x0 : Tsk} (hx0 : Vb w A vx0 x0) {vx1 : Value} {x1 : Swp} (hx1 : Vb w A vx1 x1) {vx2 : Value} {x2 : Swp} (hx2 : Vb w A vx2 x2) {r : Bool} (hm : m_law51_SymmetryGroup x0 x1 x2 = some r) :
    Fn Try.prog 5 [vx0, vx1, vx2] w fun v w' => Ext w w' ∧ Vb w' (upA A w w') v r := by
  obtain ⟨O, hB, hA0⟩ := enter hA
  replace hx0 := hx0.mono hA0
  obtain ⟨cs1, rfl, v2, v3, v4, v5, rfl, h6, h9, h12, h15⟩ := hx0
  obtain ⟨A7, c8, rfl⟩ := h6.form
  obtain ⟨A10, c11, rfl⟩ := h9.form
  obtain ⟨A13, c14, rfl⟩ := h12.form
  obtain ⟨A16, c17, rfl⟩ := h15.form
  replace hx1 := hx1.mono hA0
  obtain ⟨cs18, rfl, v19, v20, v21, rfl, h22, h25, h28⟩ := hx1
  obtain ⟨A23, c24, rfl⟩ := h22.form
  obtain ⟨A26, c27, rfl⟩ := h25.form
  obtain ⟨A29, c30, rfl⟩ := h28.form
  replace hx2 := hx2.mono hA0
  obtain ⟨cs31, rfl, v32, v33, v34, rfl, h35, h38, h41⟩ := hx2
  obtain ⟨A36, c37, rfl⟩ := h35.form
  obtain ⟨A39, c40, rfl⟩ := h38.form
  obtain ⟨A42, c43, rfl⟩ := h41.form
  refine fn_enter Try.func5 rfl Try.ntmps5 rfl ?_
  unfold m_law51_SymmetryGroup at hm
  refine ewp_seq ?_
  refine ewp_region ?_
  refine l_box 2 O rfl rfl fun g44 w45 O46 S47 h48 => ?_
  replace h48 : Lc 2 w45 O46 g44 26 [(.slice A7 x0.vars.length c8), (.slice A10 x0.init.length c11), (.slice A13 x0.goal.length c14), (.slice A16 x0.ops.length c17)] := h48
  replace hB := hB.st S47 (fun h => h) (fun h => h)
  replace h22 := h22.st S47 (fun h => h)
  replace h25 := h25.st S47 (fun h => h)
  replace h28 := h28.st S47 (fun h => h)
  replace h35 := h35.st S47 (fun h => h)
  replace h38 := h38.st S47 (fun h => h)
  replace h41 := h41.st S47 (fun h => h)
  replace h6 := h6.st S47 (fun h => h)
  replace h9 := h9.st S47 (fun h => h)
  replace h12 := h12.st S47 (fun h => h)
  replace h15 := h15.st S47 (fun h => h)
  refine l_box 3 O46 rfl rfl fun g49 w50 O51 S52 h53 => ?_
  replace h53 : Lc 3 w50 O51 g49 29 [(.slice A23 x1.vars.length c24), (.slice A26 x1.vals.length c27), (.slice A29 x1.ops.length c30)] := h53
  replace hB := hB.st S52 (fun h => h) (fun h => h)
  replace h35 := h35.st S52 (fun h => h)
  replace h38 := h38.st S52 (fun h => h)
  replace h41 := h41.st S52 (fun h => h)
  replace h48 := h48.st S52 (fun h => h)
  replace h6 := h6.st S52 (fun h => h)
  replace h9 := h9.st S52 (fun h => h)
  replace h12 := h12.st S52 (fun h => h)
  replace h15 := h15.st S52 (fun h => h)
  replace h22 := h22.st S52 (fun h => h)
  replace h25 := h25.st S52 (fun h => h)
  replace h28 := h28.st S52 (fun h => h)
  refine l_box 4 O51 rfl rfl fun g54 w55 O56 S57 h58 => ?_
  replace h58 : Lc 4 w55 O56 g54 29 [(.slice A36 x2.vars.length c37), (.slice A39 x2.vals.length c40), (.slice A42 x2.ops.length c43)] := h58
  replace hB := hB.st S57 (fun h => h) (fun h => h)
  replace h48 := h48.st S57 (fun h => h)
  replace h6 := h6.st S57 (fun h => h)
  replace h9 := h9.st S57 (fun h => h)
  replace h12 := h12.st S57 (fun h => h)
  replace h15 := h15.st S57 (fun h => h)
  replace h53 := h53.st S57 (fun h => h)
  replace h22 := h22.st S57 (fun h => h)
  replace h25 := h25.st S57 (fun h => h)
  replace h28 := h28.st S57 (fun h => h)
  replace h35 := h35.st S57 (fun h => h)
  replace h38 := h38.st S57 (fun h => h)
  replace h41 := h41.st S57 (fun h => h)
  refine o_as rfl rfl  ?_
  (first | refine owp_nilT ?_ | refine owp_nilB ?_ | refine owp_nilBB ?_ | refine owp_nil ?_)
  refine ewp_seq ?_
  refine ewp_seq ?_
  obtain ⟨y59, hy60, hm⟩ := bs hm
  refine ewp_join (fun l' w' => ∃ (x62 : Unit) (O' : Lab), subs l' [(3, (.pointer (some ⟨g44, 0, none⟩))), (4, (.pointer (some ⟨g49, 0, none⟩))), (5, (.pointer (some ⟨g54, 0, none⟩))), (38, (.bool y59))] ∧ Bs w A w' O' ∧ Lc 2 w' O' g44 26 [(.slice A7 x0.vars.length c8), (.slice A10 x0.init.length c11), (.slice A13 x0.goal.length c14), (.slice A16 x0.ops.length c17)] ∧ Vb w' (Fr 0 w' O') (.slice A7 x0.vars.length c8) x0.vars ∧ Vb w' (Fr 0 w' O') (.slice A10 x0.init.length c11) x0.init ∧ Vb w' (Fr 0 w' O') (.slice A13 x0.goal.length c14) x0.goal ∧ Vb w' (Fr 0 w' O') (.slice A16 x0.ops.length c17) x0.ops ∧ Lc 3 w' O' g49 29 [(.slice A23 x1.vars.length c24), (.slice A26 x1.vals.length c27), (.slice A29 x1.ops.length c30)] ∧ Vb w' (Fr 0 w' O') (.slice A23 x1.vars.length c24) x1.vars ∧ Vb w' (Fr 0 w' O') (.slice A26 x1.vals.length c27) x1.vals ∧ Vb w' (Fr 0 w' O') (.slice A29 x1.ops.length c30) x1.ops ∧ Lc 4 w' O' g54 29 [(.slice A36 x2.vars.length c37), (.slice A39 x2.vals.length c40), (.slice A42 x2.ops.length c43)] ∧ Vb w' (Fr 0 w' O') (.slice A36 x2.vars.length c37) x2.vars ∧ Vb w' (Fr 0 w' O') (.slice A39 x2.vals.length c40) x2.vals ∧ Vb w' (Fr 0 w' O') (.slice A42 x2.ops.length c43) x2.ops) ?_ ?_
  · skip
    refine ewp_region ?_
    refine o_la (hl := rfl) (hc := (h48.1).cellsAt) rfl rfl  ?_
    obtain ⟨q63, e64, hy60⟩ := bs hy60
    refine l_callA (O := O56) (A := All w55) (R := fun w' F v => Vb w' F v q63) (c_base_Small (fun _ h => h) (Vb.mono (F := Fr 0 w55 O56) (Vb.ofAgg (cs := [(.slice A7 x0.vars.length c8), (.slice A10 x0.init.length c11), (.slice A13 x0.goal.length c14), (.slice A16 x0.ops.length c17)]) (x := x0) rfl ⟨_, _, _, _, rfl, h6, h9, h12, h15⟩) Fr.lt) e64) rfl rfl fun v69 w65 O66 S67 h68 => ?_
    obtain rfl := h68.bool
    replace hB := hB.st S67 (fun h => h) (fun h => h)
    replace h48 := h48.st S67 (fun h => h)
    replace h6 := h6.st S67 (fun h => h)
    replace h9 := h9.st S67 (fun h => h)
    replace h12 := h12.st S67 (fun h => h)
    replace h15 := h15.st S67 (fun h => h)
    replace h53 := h53.st S67 (fun h => h)
    replace h22 := h22.st S67 (fun h => h)
    replace h25 := h25.st S67 (fun h => h)
    replace h28 := h28.st S67 (fun h => h)
    replace h58 := h58.st S67 (fun h => h)
    replace h35 := h35.st S67 (fun h => h)
    replace h38 := h38.st S67 (fun h => h)
    replace h41 := h41.st S67 (fun h => h)
    cases q63
    case false =>
      replace hy60 := iF hy60
      refine o_nf rfl rfl  ?_
      refine o_mv rfl rfl  ?_
      refine owp_no rfl rfl rfl rfl ?_
      refine owp_no rfl rfl rfl rfl ?_
      refine o_pt rfl rfl rfl  ?_
      refine o_mv rfl rfl  ?_
      refine owp_no rfl rfl rfl rfl ?_
      refine owp_no rfl rfl rfl rfl ?_
      refine o_pt rfl rfl rfl  ?_
      refine o_mv rfl rfl  ?_
      refine owp_no rfl rfl rfl rfl ?_
      refine owp_no rfl rfl rfl rfl ?_
      refine o_pt rfl rfl rfl  ?_
      (first | refine owp_nilT ?_ | refine owp_nilB ?_ | refine owp_nilBB ?_ | refine owp_nil ?_)
      obtain rfl := sm hy60
      exact ⟨(), _, ⟨rfl, rfl, rfl, rfl, trivial⟩, hB, h48, h6, h9, h12, h15, h53, h22, h25, h28, h58, h35, h38, h41⟩
    replace hy60 := iT hy60
    refine o_nt rfl rfl  ?_
    refine o_mv rfl rfl  ?_
    refine owp_yes rfl rfl ?_
    refine o_la (hl := rfl) (hc := (h53.1).cellsAt) rfl rfl  ?_
    refine owp_yes rfl rfl ?_
    obtain ⟨q70, e71, hy60⟩ := bs hy60
    refine l_callA (O := O66) (A := All w65) (R := fun w' F v => Vb w' F v q70) (c_law51_long (fun _ h => h) (Vb.mono (F := Fr 0 w65 O66) (Vb.ofAgg (cs := [(.slice A23 x1.vars.length c24), (.slice A26 x1.vals.length c27), (.slice A29 x1.ops.length c30)]) (x := x1) rfl ⟨_, _, _, rfl, h22, h25, h28⟩) Fr.lt) e71) rfl rfl fun v76 w72 O73 S74 h75 => ?_
    obtain rfl := h75.bool
    replace hB := hB.st S74 (fun h => h) (fun h => h)
    replace h48 := h48.st S74 (fun h => h)
    replace h6 := h6.st S74 (fun h => h)
    replace h9 := h9.st S74 (fun h => h)
    replace h12 := h12.st S74 (fun h => h)
    replace h15 := h15.st S74 (fun h => h)
    replace h53 := h53.st S74 (fun h => h)
    replace h22 := h22.st S74 (fun h => h)
    replace h25 := h25.st S74 (fun h => h)
    replace h28 := h28.st S74 (fun h => h)
    replace h58 := h58.st S74 (fun h => h)
    replace h35 := h35.st S74 (fun h => h)
    replace h38 := h38.st S74 (fun h => h)
    replace h41 := h41.st S74 (fun h => h)
    cases q70
    case false =>
      replace hy60 := iF hy60
      refine o_pf rfl rfl rfl  ?_
      refine o_mv rfl rfl  ?_
      refine owp_yes rfl rfl ?_
      refine o_la (hl := rfl) (hc := (h58.1).cellsAt) rfl rfl  ?_
      refine owp_yes rfl rfl ?_
      obtain ⟨q77, e78, hy60⟩ := bs hy60
      refine l_callA (O := O73) (A := All w72) (R := fun w' F v => Vb w' F v q77) (c_law51_long (fun _ h => h) (Vb.mono (F := Fr 0 w72 O73) (Vb.ofAgg (cs := [(.slice A36 x2.vars.length c37), (.slice A39 x2.vals.length c40), (.slice A42 x2.ops.length c43)]) (x := x2) rfl ⟨_, _, _, rfl, h35, h38, h41⟩) Fr.lt) e78) rfl rfl fun v83 w79 O80 S81 h82 => ?_
      obtain rfl := h82.bool
      replace hB := hB.st S81 (fun h => h) (fun h => h)
      replace h48 := h48.st S81 (fun h => h)
      replace h6 := h6.st S81 (fun h => h)
      replace h9 := h9.st S81 (fun h => h)
      replace h12 := h12.st S81 (fun h => h)
      replace h15 := h15.st S81 (fun h => h)
      replace h53 := h53.st S81 (fun h => h)
      replace h22 := h22.st S81 (fun h => h)
      replace h25 := h25.st S81 (fun h => h)
      replace h28 := h28.st S81 (fun h => h)
      replace h58 := h58.st S81 (fun h => h)
      replace h35 := h35.st S81 (fun h => h)
      replace h38 := h38.st S81 (fun h => h)
      replace h41 := h41.st S81 (fun h => h)
      cases q77
      case false =>
        replace hy60 := iF hy60
        refine o_pf rfl rfl rfl  ?_
        refine o_mv rfl rfl  ?_
        refine owp_yes rfl rfl ?_
        obtain ⟨q84, e85, hy60⟩ := bs hy60
        refine l_callA (O := O80) (A := All w79) (R := fun w' F v => Vb w' F v q84) (c_law51_awake (fun _ h => h)  e85) rfl rfl fun v90 w86 O87 S88 h89 => ?_
        obtain rfl := h89.bool
        replace hB := hB.st S88 (fun h => h) (fun h => h)
        replace h48 := h48.st S88 (fun h => h)
        replace h6 := h6.st S88 (fun h => h)
        replace h9 := h9.st S88 (fun h => h)
        replace h12 := h12.st S88 (fun h => h)
        replace h15 := h15.st S88 (fun h => h)
        replace h53 := h53.st S88 (fun h => h)
        replace h22 := h22.st S88 (fun h => h)
        replace h25 := h25.st S88 (fun h => h)
        replace h28 := h28.st S88 (fun h => h)
        replace h58 := h58.st S88 (fun h => h)
        replace h35 := h35.st S88 (fun h => h)
        replace h38 := h38.st S88 (fun h => h)
        replace h41 := h41.st S88 (fun h => h)
        cases q84
        case false =>
          replace hy60 := iF hy60
          refine owp_yes rfl rfl ?_
          refine o_nf rfl rfl  ?_
          refine o_pf rfl rfl rfl  ?_
          (first | refine owp_nilT ?_ | refine owp_nilB ?_ | refine owp_nilBB ?_ | refine owp_nil ?_)
          obtain rfl := sm hy60
          exact ⟨(), _, ⟨rfl, rfl, rfl, rfl, trivial⟩, hB, h48, h6, h9, h12, h15, h53, h22, h25, h28, h58, h35, h38, h41⟩
        replace hy60 := iT hy60
        refine owp_yes rfl rfl ?_
        refine o_nt rfl rfl  ?_
        refine o_pf rfl rfl rfl  ?_
        (first | refine owp_nilT ?_ | refine owp_nilB ?_ | refine owp_nilBB ?_ | refine owp_nil ?_)
        obtain rfl := sm hy60
        exact ⟨(), _, ⟨rfl, rfl, rfl, rfl, trivial⟩, hB, h48, h6, h9, h12, h15, h53, h22, h25, h28, h58, h35, h38, h41⟩
      replace hy60 := iT hy60
      refine o_pf rfl rfl rfl  ?_
      refine o_mv rfl rfl  ?_
      refine owp_no rfl rfl rfl rfl ?_
      refine owp_no rfl rfl rfl rfl ?_
      refine o_pt rfl rfl rfl  ?_
      (first | refine owp_nilT ?_ | refine owp_nilB ?_ | refine owp_nilBB ?_ | refine owp_nil ?_)
      obtain rfl := sm hy60
      exact ⟨(), _, ⟨rfl, rfl, rfl, rfl, trivial⟩, hB, h48, h6, h9, h12, h15, h53, h22, h25, h28, h58, h35, h38, h41⟩
    replace hy60 := iT hy60
    refine o_pf rfl rfl rfl  ?_
    refine o_mv rfl rfl  ?_
    refine owp_no rfl rfl rfl rfl ?_
    refine owp_no rfl rfl rfl rfl ?_
    refine o_pt rfl rfl rfl  ?_
    refine o_mv rfl rfl  ?_
    refine owp_no rfl rfl rfl rfl ?_
    refine owp_no rfl rfl rfl rfl ?_
    refine o_pt rfl rfl rfl  ?_
    (first | refine owp_nilT ?_ | refine owp_nilB ?_ | refine owp_nilBB ?_ | refine owp_nil ?_)
    obtain rfl := sm hy60
    exact ⟨(), _, ⟨rfl, rfl, rfl, rfl, trivial⟩, hB, h48, h6, h9, h12, h15, h53, h22, h25, h28, h58, h35, h38, h41⟩
  rintro l91 w92 ⟨x62, O93, hs94, hB, h48, h6, h9, h12, h15, h53, h22, h25, h28, h58, h35, h38, h41⟩
  refine ewp_sub _ hs94 ?_
  refine ewp_cond rfl (fun c95 => ?_) (fun c95 => ?_)
  · replace hm := ip hm c95
    refine ewp_seq ?_
    obtain ⟨y96, hy97, hm⟩ := bs hm
    refine ewp_join (fun l' w' => ∃ (x99 : Unit) (O' : Lab), subs l' [(6, (.bool y96))] ∧ Bs w A w' O') ?_ ?_
    · skip
      refine ewp_region ?_
      obtain ⟨q100, e101, hy97⟩ := bs hy97
      refine l_callA (O := O93) (A := All w92) (R := fun w' F v => Vb w' F v q100) (c_law51_awake (fun _ h => h)  e101) rfl rfl fun v106 w102 O103 S104 h105 => ?_
      obtain rfl := h105.bool
      replace hB := hB.st S104 (fun h => h) (fun h => h)
      cases q100
      case false =>
        replace hy97 := iF hy97
        refine o_as rfl rfl  ?_
        (first | refine owp_nilT ?_ | refine owp_nilB ?_ | refine owp_nilBB ?_ | refine owp_nil ?_)
        obtain rfl := sm hy97
        exact ⟨(), _, ⟨rfl, trivial⟩, hB⟩
      replace hy97 := iT hy97
      refine o_as rfl rfl  ?_
      (first | refine owp_nilT ?_ | refine owp_nilB ?_ | refine owp_nilBB ?_ | refine owp_nil ?_)
      obtain rfl := sm hy97
      exact ⟨(), _, ⟨rfl, trivial⟩, hB⟩
    rintro l107 w108 ⟨x99, O109, hs110, hB⟩
    refine ewp_sub _ hs110 ?_
    refine ewp_ret ?_
    obtain rfl := sm hm
    exact ret1v rfl (res_tmp rfl) ⟨hB.ext, vBool⟩
  · replace hm := im' hm c95
    refine ewp_skip ?_
    refine ewp_seq ?_
    refine ewp_region ?_
    refine o_la (hl := rfl) (hc := (h48.1).cellsAt) rfl rfl  ?_
    obtain ⟨q111, e112, hm⟩ := bs hm
    refine l_call (O := O93) (R := fun w' F v => T2 w' F v q111) (c_symmetry_Identity Fr.lt (Vb.ofAgg (cs := [(.slice A7 x0.vars.length c8), (.slice A10 x0.init.length c11), (.slice A13 x0.goal.length c14), (.slice A16 x0.ops.length c17)]) (x := x0) rfl ⟨_, _, _, _, rfl, h6, h9, h12, h15⟩) e112) rfl rfl fun v117 w113 O114 S115 h116 => ?_
    obtain ⟨v118, v119, rfl, h120, h121⟩ := h116
    obtain ⟨cs122, rfl, v123, v124, v125, rfl, h126, h129, h132⟩ := h120
    obtain ⟨A127, c128, rfl⟩ := h126.form
    obtain ⟨A130, c131, rfl⟩ := h129.form
    obtain ⟨A133, c134, rfl⟩ := h132.form
    obtain ⟨rfl, r135⟩ := h121.err
    replace hB := hB.st S115 (fun h => h) (fun h => h)
    replace h48 := h48.st S115 (fun h => h)
    replace h6 := h6.st S115 (fun h => h)
    replace h9 := h9.st S115 (fun h => h)
    replace h12 := h12.st S115 (fun h => h)
    replace h15 := h15.st S115 (fun h => h)
    replace h53 := h53.st S115 (fun h => h)
    replace h22 := h22.st S115 (fun h => h)
    replace h25 := h25.st S115 (fun h => h)
    replace h28 := h28.st S115 (fun h => h)
    replace h58 := h58.st S115 (fun h => h)
    replace h35 := h35.st S115 (fun h => h)
    replace h38 := h38.st S115 (fun h => h)
    replace h41 := h41.st S115 (fun h => h)
    refine o_mv rfl rfl  ?_
    refine o_ex rfl rfl rfl  ?_
    refine o_ex rfl rfl rfl  ?_
    refine l_alloc 5 O114 rfl fun g136 w137 O138 S139 h140 => ?_
    replace hB := hB.st S139 (fun h => h) (fun h => h)
    replace h48 := h48.st S139 (fun h => h)
    replace h6 := h6.st S139 (fun h => h)
    replace h9 := h9.st S139 (fun h => h)
    replace h12 := h12.st S139 (fun h => h)
    replace h15 := h15.st S139 (fun h => h)
    replace h53 := h53.st S139 (fun h => h)
    replace h22 := h22.st S139 (fun h => h)
    replace h25 := h25.st S139 (fun h => h)
    replace h28 := h28.st S139 (fun h => h)
    replace h58 := h58.st S139 (fun h => h)
    replace h35 := h35.st S139 (fun h => h)
    replace h38 := h38.st S139 (fun h => h)
    replace h41 := h41.st S139 (fun h => h)
    replace h126 := h126.st S139 (fun h => h)
    replace h129 := h129.st S139 (fun h => h)
    replace h132 := h132.st S139 (fun h => h)
    refine l_store h140 rfl rfl rfl (Nat.le_of_ble_eq_true rfl) (by first | exact allOne rfl | simp [Value.cells, Value.oneCell', errV_one]) fun w141 S142 h140 => ?_
    replace h140 : Lc 5 w141 O138 g136 29 [(.slice A127 q111.1.vars.length c128), (.slice A130 q111.1.vals.length c131), (.slice A133 q111.1.ops.length c134)] := h140
    replace hB := hB.st S142 (by decide) (by decide)
    replace h48 := h48.st S142 (by decide)
    replace h6 := h6.st S142 (by decide)
    replace h9 := h9.st S142 (by decide)
    replace h12 := h12.st S142 (by decide)
    replace h15 := h15.st S142 (by decide)
    replace h53 := h53.st S142 (by decide)
    replace h22 := h22.st S142 (by decide)
    replace h25 := h25.st S142 (by decide)
    replace h28 := h28.st S142 (by decide)
    replace h58 := h58.st S142 (by decide)
    replace h35 := h35.st S142 (by decide)
    replace h38 := h38.st S142 (by decide)
    replace h41 := h41.st S142 (by decide)
    replace h126 := h126.st S142 (by decide)
    replace h129 := h129.st S142 (by decide)
    replace h132 := h132.st S142 (by decide)
    refine o_as rfl rfl  ?_
    (first | refine owp_nilT ?_ | refine owp_nilB ?_ | refine owp_nilBB ?_ | refine owp_nil ?_)
    refine ewp_seq ?_
    refine ewp_seq ?_
    obtain ⟨y143, hy144, hm⟩ := bs hm
    refine ewp_join (fun l' w' => ∃ (x146 : Unit) (O' : Lab), subs l' [(3, (.pointer (some ⟨g44, 0, none⟩))), (4, (.pointer (some ⟨g49, 0, none⟩))), (5, (.pointer (some ⟨g54, 0, none⟩))), (7, (.pointer (some ⟨g136, 0, none⟩))), (52, (.bool y143))] ∧ Bs w A w' O' ∧ Lc 2 w' O' g44 26 [(.slice A7 x0.vars.length c8), (.slice A10 x0.init.length c11), (.slice A13 x0.goal.length c14), (.slice A16 x0.ops.length c17)] ∧ Vb w' (Fr 0 w' O') (.slice A7 x0.vars.length c8) x0.vars ∧ Vb w' (Fr 0 w' O') (.slice A10 x0.init.length c11) x0.init ∧ Vb w' (Fr 0 w' O') (.slice A13 x0.goal.length c14) x0.goal ∧ Vb w' (Fr 0 w' O') (.slice A16 x0.ops.length c17) x0.ops ∧ Lc 3 w' O' g49 29 [(.slice A23 x1.vars.length c24), (.slice A26 x1.vals.length c27), (.slice A29 x1.ops.length c30)] ∧ Vb w' (Fr 0 w' O') (.slice A23 x1.vars.length c24) x1.vars ∧ Vb w' (Fr 0 w' O') (.slice A26 x1.vals.length c27) x1.vals ∧ Vb w' (Fr 0 w' O') (.slice A29 x1.ops.length c30) x1.ops ∧ Lc 4 w' O' g54 29 [(.slice A36 x2.vars.length c37), (.slice A39 x2.vals.length c40), (.slice A42 x2.ops.length c43)] ∧ Vb w' (Fr 0 w' O') (.slice A36 x2.vars.length c37) x2.vars ∧ Vb w' (Fr 0 w' O') (.slice A39 x2.vals.length c40) x2.vals ∧ Vb w' (Fr 0 w' O') (.slice A42 x2.ops.length c43) x2.ops ∧ Lc 5 w' O' g136 29 [(.slice A127 q111.1.vars.length c128), (.slice A130 q111.1.vals.length c131), (.slice A133 q111.1.ops.length c134)] ∧ Vb w' (Fr 0 w' O') (.slice A127 q111.1.vars.length c128) q111.1.vars ∧ Vb w' (Fr 0 w' O') (.slice A130 q111.1.vals.length c131) q111.1.vals ∧ Vb w' (Fr 0 w' O') (.slice A133 q111.1.ops.length c134) q111.1.ops) ?_ ?_
    · skip
      refine ewp_region ?_
      refine o_mv rfl rfl  ?_
      refine o_rnS rfl rfl (fun c147 => ?_) fun c147 => ?_
      · replace hy144 := ip hy144 c147
        refine o_mv rfl rfl  ?_
        refine owp_no rfl rfl rfl rfl ?_
        refine owp_no rfl rfl rfl rfl ?_
        refine owp_no rfl rfl rfl rfl ?_
        refine owp_no rfl rfl rfl rfl ?_
        refine o_pt rfl rfl rfl  ?_
        (first | refine owp_nilT ?_ | refine owp_nilB ?_ | refine owp_nilBB ?_ | refine owp_nil ?_)
        obtain rfl := sm hy144
        exact ⟨(), _, ⟨rfl, rfl, rfl, rfl, rfl, trivial⟩, hB, h48, h6, h9, h12, h15, h53, h22, h25, h28, h58, h35, h38, h41, h140, h126, h129, h132⟩
      · replace hy144 := im hy144 c147
        refine o_mv rfl rfl  ?_
        refine owp_yes rfl rfl ?_
        refine o_la (hl := rfl) (hc := (h48.1).cellsAt) rfl rfl  ?_
        refine owp_yes rfl rfl ?_
        refine o_la (hl := rfl) (hc := (h140.1).cellsAt) rfl rfl  ?_
        refine owp_yes rfl rfl ?_
        obtain ⟨q148, e149, hy144⟩ := bs hy144
        refine l_callA (O := O138) (A := All w141) (R := fun w' F v => Vb w' F v q148) (c_symmetry_Check (fun _ h => h) (Vb.mono (F := Fr 0 w141 O138) (Vb.ofAgg (cs := [(.slice A7 x0.vars.length c8), (.slice A10 x0.init.length c11), (.slice A13 x0.goal.length c14), (.slice A16 x0.ops.length c17)]) (x := x0) rfl ⟨_, _, _, _, rfl, h6, h9, h12, h15⟩) Fr.lt) (Vb.mono (F := Fr 0 w141 O138) (Vb.ofAgg (cs := [(.slice A127 q111.1.vars.length c128), (.slice A130 q111.1.vals.length c131), (.slice A133 q111.1.ops.length c134)]) (x := q111.1) rfl ⟨_, _, _, rfl, h126, h129, h132⟩) Fr.lt) e149) rfl rfl fun v154 w150 O151 S152 h153 => ?_
        obtain rfl := h153.bool
        replace hB := hB.st S152 (fun h => h) (fun h => h)
        replace h48 := h48.st S152 (fun h => h)
        replace h6 := h6.st S152 (fun h => h)
        replace h9 := h9.st S152 (fun h => h)
        replace h12 := h12.st S152 (fun h => h)
        replace h15 := h15.st S152 (fun h => h)
        replace h53 := h53.st S152 (fun h => h)
        replace h22 := h22.st S152 (fun h => h)
        replace h25 := h25.st S152 (fun h => h)
        replace h28 := h28.st S152 (fun h => h)
        replace h58 := h58.st S152 (fun h => h)
        replace h35 := h35.st S152 (fun h => h)
        replace h38 := h38.st S152 (fun h => h)
        replace h41 := h41.st S152 (fun h => h)
        replace h140 := h140.st S152 (fun h => h)
        replace h126 := h126.st S152 (fun h => h)
        replace h129 := h129.st S152 (fun h => h)
        replace h132 := h132.st S152 (fun h => h)
        cases q148
        case false =>
          replace hy144 := iF hy144
          refine owp_yes rfl rfl ?_
          refine o_nf rfl rfl  ?_
          refine o_pf rfl rfl rfl  ?_
          (first | refine owp_nilT ?_ | refine owp_nilB ?_ | refine owp_nilBB ?_ | refine owp_nil ?_)
          obtain rfl := sm hy144
          exact ⟨(), _, ⟨rfl, rfl, rfl, rfl, rfl, trivial⟩, hB, h48, h6, h9, h12, h15, h53, h22, h25, h28, h58, h35, h38, h41, h140, h126, h129, h132⟩
        replace hy144 := iT hy144
        refine owp_yes rfl rfl ?_
        refine o_nt rfl rfl  ?_
        refine o_pf rfl rfl rfl  ?_
        (first | refine owp_nilT ?_ | refine owp_nilB ?_ | refine owp_nilBB ?_ | refine owp_nil ?_)
        obtain rfl := sm hy144
        exact ⟨(), _, ⟨rfl, rfl, rfl, rfl, rfl, trivial⟩, hB, h48, h6, h9, h12, h15, h53, h22, h25, h28, h58, h35, h38, h41, h140, h126, h129, h132⟩
    rintro l155 w156 ⟨x146, O157, hs158, hB, h48, h6, h9, h12, h15, h53, h22, h25, h28, h58, h35, h38, h41, h140, h126, h129, h132⟩
    refine ewp_sub _ hs158 ?_
    refine ewp_cond rfl (fun c159 => ?_) (fun c159 => ?_)
    · replace hm := ip hm c159
      refine ewp_seq ?_
      refine ewp_region ?_
      refine o_as rfl rfl  ?_
      (first | refine owp_nilT ?_ | refine owp_nilB ?_ | refine owp_nilBB ?_ | refine owp_nil ?_)
      refine ewp_ret ?_
      obtain rfl := sm hm
      exact ret1v rfl (res_tmp rfl) ⟨hB.ext, vBool⟩
    · replace hm := im' hm c159
      refine ewp_skip ?_
      refine ewp_seq ?_
      refine ewp_region ?_
      refine o_la (hl := rfl) (hc := (h48.1).cellsAt) rfl rfl  ?_
      refine o_la (hl := rfl) (hc := (h53.1).cellsAt) rfl rfl  ?_
      refine o_la (hl := rfl) (hc := (h58.1).cellsAt) rfl rfl  ?_
      obtain ⟨q160, e161, hm⟩ := bs hm
      refine l_call (O := O157) (R := fun w' F v => T2 w' F v q160) (c_symmetry_Compose Fr.lt (Vb.ofAgg (cs := [(.slice A7 x0.vars.length c8), (.slice A10 x0.init.length c11), (.slice A13 x0.goal.length c14), (.slice A16 x0.ops.length c17)]) (x := x0) rfl ⟨_, _, _, _, rfl, h6, h9, h12, h15⟩) (Vb.ofAgg (cs := [(.slice A23 x1.vars.length c24), (.slice A26 x1.vals.length c27), (.slice A29 x1.ops.length c30)]) (x := x1) rfl ⟨_, _, _, rfl, h22, h25, h28⟩) (Vb.ofAgg (cs := [(.slice A36 x2.vars.length c37), (.slice A39 x2.vals.length c40), (.slice A42 x2.ops.length c43)]) (x := x2) rfl ⟨_, _, _, rfl, h35, h38, h41⟩) e161) rfl rfl fun v166 w162 O163 S164 h165 => ?_
      obtain ⟨v167, v168, rfl, h169, h170⟩ := h165
      obtain ⟨cs171, rfl, v172, v173, v174, rfl, h175, h178, h181⟩ := h169
      obtain ⟨A176, c177, rfl⟩ := h175.form
      obtain ⟨A179, c180, rfl⟩ := h178.form
      obtain ⟨A182, c183, rfl⟩ := h181.form
      obtain ⟨rfl, r184⟩ := h170.err
      replace hB := hB.st S164 (fun h => h) (fun h => h)
      replace h48 := h48.st S164 (fun h => h)
      replace h6 := h6.st S164 (fun h => h)
      replace h9 := h9.st S164 (fun h => h)
      replace h12 := h12.st S164 (fun h => h)
      replace h15 := h15.st S164 (fun h => h)
      replace h53 := h53.st S164 (fun h => h)
      replace h22 := h22.st S164 (fun h => h)
      replace h25 := h25.st S164 (fun h => h)
      replace h28 := h28.st S164 (fun h => h)
      replace h58 := h58.st S164 (fun h => h)
      replace h35 := h35.st S164 (fun h => h)
      replace h38 := h38.st S164 (fun h => h)
      replace h41 := h41.st S164 (fun h => h)
      replace h140 := h140.st S164 (fun h => h)
      replace h126 := h126.st S164 (fun h => h)
      replace h129 := h129.st S164 (fun h => h)
      replace h132 := h132.st S164 (fun h => h)
      refine o_mv rfl rfl  ?_
      refine o_ex rfl rfl rfl  ?_
      refine o_ex rfl rfl rfl  ?_
      refine l_alloc 6 O163 rfl fun g185 w186 O187 S188 h189 => ?_
      replace hB := hB.st S188 (fun h => h) (fun h => h)
      replace h48 := h48.st S188 (fun h => h)
      replace h6 := h6.st S188 (fun h => h)
      replace h9 := h9.st S188 (fun h => h)
      replace h12 := h12.st S188 (fun h => h)
      replace h15 := h15.st S188 (fun h => h)
      replace h53 := h53.st S188 (fun h => h)
      replace h22 := h22.st S188 (fun h => h)
      replace h25 := h25.st S188 (fun h => h)
      replace h28 := h28.st S188 (fun h => h)
      replace h58 := h58.st S188 (fun h => h)
      replace h35 := h35.st S188 (fun h => h)
      replace h38 := h38.st S188 (fun h => h)
      replace h41 := h41.st S188 (fun h => h)
      replace h140 := h140.st S188 (fun h => h)
      replace h126 := h126.st S188 (fun h => h)
      replace h129 := h129.st S188 (fun h => h)
      replace h132 := h132.st S188 (fun h => h)
      replace h175 := h175.st S188 (fun h => h)
      replace h178 := h178.st S188 (fun h => h)
      replace h181 := h181.st S188 (fun h => h)
      refine l_store h189 rfl rfl rfl (Nat.le_of_ble_eq_true rfl) (by first | exact allOne rfl | simp [Value.cells, Value.oneCell', errV_one]) fun w190 S191 h189 => ?_
      replace h189 : Lc 6 w190 O187 g185 29 [(.slice A176 q160.1.vars.length c177), (.slice A179 q160.1.vals.length c180), (.slice A182 q160.1.ops.length c183)] := h189
      replace hB := hB.st S191 (by decide) (by decide)
      replace h48 := h48.st S191 (by decide)
      replace h6 := h6.st S191 (by decide)
      replace h9 := h9.st S191 (by decide)
      replace h12 := h12.st S191 (by decide)
      replace h15 := h15.st S191 (by decide)
      replace h53 := h53.st S191 (by decide)
      replace h22 := h22.st S191 (by decide)
      replace h25 := h25.st S191 (by decide)
      replace h28 := h28.st S191 (by decide)
      replace h58 := h58.st S191 (by decide)
      replace h35 := h35.st S191 (by decide)
      replace h38 := h38.st S191 (by decide)
      replace h41 := h41.st S191 (by decide)
      replace h140 := h140.st S191 (by decide)
      replace h126 := h126.st S191 (by decide)
      replace h129 := h129.st S191 (by decide)
      replace h132 := h132.st S191 (by decide)
      replace h175 := h175.st S191 (by decide)
      replace h178 := h178.st S191 (by decide)
      replace h181 := h181.st S191 (by decide)
      refine o_as rfl rfl  ?_
      (first | refine owp_nilT ?_ | refine owp_nilB ?_ | refine owp_nilBB ?_ | refine owp_nil ?_)
      refine ewp_seq ?_
      refine ewp_seq ?_
      obtain ⟨y192, hy193, hm⟩ := bs hm
      refine ewp_join (fun l' w' => ∃ (x195 : Unit) (O' : Lab), subs l' [(3, (.pointer (some ⟨g44, 0, none⟩))), (4, (.pointer (some ⟨g49, 0, none⟩))), (5, (.pointer (some ⟨g54, 0, none⟩))), (7, (.pointer (some ⟨g136, 0, none⟩))), (8, (errV q160.2.n)), (9, (.pointer (some ⟨g185, 0, none⟩))), (69, (.bool y192))] ∧ Bs w A w' O' ∧ Lc 2 w' O' g44 26 [(.slice A7 x0.vars.length c8), (.slice A10 x0.init.length c11), (.slice A13 x0.goal.length c14), (.slice A16 x0.ops.length c17)] ∧ Vb w' (Fr 0 w' O') (.slice A7 x0.vars.length c8) x0.vars ∧ Vb w' (Fr 0 w' O') (.slice A10 x0.init.length c11) x0.init ∧ Vb w' (Fr 0 w' O') (.slice A13 x0.goal.length c14) x0.goal ∧ Vb w' (Fr 0 w' O') (.slice A16 x0.ops.length c17) x0.ops ∧ Lc 3 w' O' g49 29 [(.slice A23 x1.vars.length c24), (.slice A26 x1.vals.length c27), (.slice A29 x1.ops.length c30)] ∧ Vb w' (Fr 0 w' O') (.slice A23 x1.vars.length c24) x1.vars ∧ Vb w' (Fr 0 w' O') (.slice A26 x1.vals.length c27) x1.vals ∧ Vb w' (Fr 0 w' O') (.slice A29 x1.ops.length c30) x1.ops ∧ Lc 4 w' O' g54 29 [(.slice A36 x2.vars.length c37), (.slice A39 x2.vals.length c40), (.slice A42 x2.ops.length c43)] ∧ Vb w' (Fr 0 w' O') (.slice A36 x2.vars.length c37) x2.vars ∧ Vb w' (Fr 0 w' O') (.slice A39 x2.vals.length c40) x2.vals ∧ Vb w' (Fr 0 w' O') (.slice A42 x2.ops.length c43) x2.ops ∧ Lc 5 w' O' g136 29 [(.slice A127 q111.1.vars.length c128), (.slice A130 q111.1.vals.length c131), (.slice A133 q111.1.ops.length c134)] ∧ Vb w' (Fr 0 w' O') (.slice A127 q111.1.vars.length c128) q111.1.vars ∧ Vb w' (Fr 0 w' O') (.slice A130 q111.1.vals.length c131) q111.1.vals ∧ Vb w' (Fr 0 w' O') (.slice A133 q111.1.ops.length c134) q111.1.ops ∧ Lc 6 w' O' g185 29 [(.slice A176 q160.1.vars.length c177), (.slice A179 q160.1.vals.length c180), (.slice A182 q160.1.ops.length c183)] ∧ Vb w' (Fr 0 w' O') (.slice A176 q160.1.vars.length c177) q160.1.vars ∧ Vb w' (Fr 0 w' O') (.slice A179 q160.1.vals.length c180) q160.1.vals ∧ Vb w' (Fr 0 w' O') (.slice A182 q160.1.ops.length c183) q160.1.ops) ?_ ?_
      · skip
        refine ewp_region ?_
        refine o_la (hl := rfl) (hc := (h48.1).cellsAt) rfl rfl  ?_
        refine o_la (hl := rfl) (hc := (h53.1).cellsAt) rfl rfl  ?_
        obtain ⟨q196, e197, hy193⟩ := bs hy193
        refine l_callA (O := O187) (A := All w190) (R := fun w' F v => Vb w' F v q196) (c_symmetry_Check (fun _ h => h) (Vb.mono (F := Fr 0 w190 O187) (Vb.ofAgg (cs := [(.slice A7 x0.vars.length c8), (.slice A10 x0.init.length c11), (.slice A13 x0.goal.length c14), (.slice A16 x0.ops.length c17)]) (x := x0) rfl ⟨_, _, _, _, rfl, h6, h9, h12, h15⟩) Fr.lt) (Vb.mono (F := Fr 0 w190 O187) (Vb.ofAgg (cs := [(.slice A23 x1.vars.length c24), (.slice A26 x1.vals.length c27), (.slice A29 x1.ops.length c30)]) (x := x1) rfl ⟨_, _, _, rfl, h22, h25, h28⟩) Fr.lt) e197) rfl rfl fun v202 w198 O199 S200 h201 => ?_
        obtain rfl := h201.bool
        replace hB := hB.st S200 (fun h => h) (fun h => h)
        replace h48 := h48.st S200 (fun h => h)
        replace h6 := h6.st S200 (fun h => h)
        replace h9 := h9.st S200 (fun h => h)
        replace h12 := h12.st S200 (fun h => h)
        replace h15 := h15.st S200 (fun h => h)
        replace h53 := h53.st S200 (fun h => h)
        replace h22 := h22.st S200 (fun h => h)
        replace h25 := h25.st S200 (fun h => h)
        replace h28 := h28.st S200 (fun h => h)
        replace h58 := h58.st S200 (fun h => h)
        replace h35 := h35.st S200 (fun h => h)
        replace h38 := h38.st S200 (fun h => h)
        replace h41 := h41.st S200 (fun h => h)
        replace h140 := h140.st S200 (fun h => h)
        replace h126 := h126.st S200 (fun h => h)
        replace h129 := h129.st S200 (fun h => h)
        replace h132 := h132.st S200 (fun h => h)
        replace h189 := h189.st S200 (fun h => h)
        replace h175 := h175.st S200 (fun h => h)
        replace h178 := h178.st S200 (fun h => h)
        replace h181 := h181.st S200 (fun h => h)
        cases q196
        case false =>
          replace hy193 := iF hy193
          refine o_nf rfl rfl  ?_
          refine o_mv rfl rfl  ?_
          refine owp_no rfl rfl rfl rfl ?_
          refine owp_no rfl rfl rfl rfl ?_
          refine owp_no rfl rfl rfl rfl ?_
          refine owp_no rfl rfl rfl rfl ?_
          refine o_pt rfl rfl rfl  ?_
          (first | refine owp_nilT ?_ | refine owp_nilB ?_ | refine owp_nilBB ?_ | refine owp_nil ?_)
          obtain rfl := sm hy193
          exact ⟨(), _, ⟨rfl, rfl, rfl, rfl, rfl, rfl, rfl, trivial⟩, hB, h48, h6, h9, h12, h15, h53, h22, h25, h28, h58, h35, h38, h41, h140, h126, h129, h132, h189, h175, h178, h181⟩
        replace hy193 := iT hy193
        refine o_nt rfl rfl  ?_
        refine o_mv rfl rfl  ?_
        refine owp_yes rfl rfl ?_
        refine o_la (hl := rfl) (hc := (h48.1).cellsAt) rfl rfl  ?_
        refine owp_yes rfl rfl ?_
        refine o_la (hl := rfl) (hc := (h58.1).cellsAt) rfl rfl  ?_
        refine owp_yes rfl rfl ?_
        obtain ⟨q203, e204, hy193⟩ := bs hy193
        refine l_callA (O := O199) (A := All w198) (R := fun w' F v => Vb w' F v q203) (c_symmetry_Check (fun _ h => h) (Vb.mono (F := Fr 0 w198 O199) (Vb.ofAgg (cs := [(.slice A7 x0.vars.length c8), (.slice A10 x0.init.length c11), (.slice A13 x0.goal.length c14), (.slice A16 x0.ops.length c17)]) (x := x0) rfl ⟨_, _, _, _, rfl, h6, h9, h12, h15⟩) Fr.lt) (Vb.mono (F := Fr 0 w198 O199) (Vb.ofAgg (cs := [(.slice A36 x2.vars.length c37), (.slice A39 x2.vals.length c40), (.slice A42 x2.ops.length c43)]) (x := x2) rfl ⟨_, _, _, rfl, h35, h38, h41⟩) Fr.lt) e204) rfl rfl fun v209 w205 O206 S207 h208 => ?_
        obtain rfl := h208.bool
        replace hB := hB.st S207 (fun h => h) (fun h => h)
        replace h48 := h48.st S207 (fun h => h)
        replace h6 := h6.st S207 (fun h => h)
        replace h9 := h9.st S207 (fun h => h)
        replace h12 := h12.st S207 (fun h => h)
        replace h15 := h15.st S207 (fun h => h)
        replace h53 := h53.st S207 (fun h => h)
        replace h22 := h22.st S207 (fun h => h)
        replace h25 := h25.st S207 (fun h => h)
        replace h28 := h28.st S207 (fun h => h)
        replace h58 := h58.st S207 (fun h => h)
        replace h35 := h35.st S207 (fun h => h)
        replace h38 := h38.st S207 (fun h => h)
        replace h41 := h41.st S207 (fun h => h)
        replace h140 := h140.st S207 (fun h => h)
        replace h126 := h126.st S207 (fun h => h)
        replace h129 := h129.st S207 (fun h => h)
        replace h132 := h132.st S207 (fun h => h)
        replace h189 := h189.st S207 (fun h => h)
        replace h175 := h175.st S207 (fun h => h)
        replace h178 := h178.st S207 (fun h => h)
        replace h181 := h181.st S207 (fun h => h)
        cases q203
        case false =>
          replace hy193 := iF hy193
          refine owp_yes rfl rfl ?_
          refine o_nf rfl rfl  ?_
          refine o_pf rfl rfl rfl  ?_
          (first | refine owp_nilT ?_ | refine owp_nilB ?_ | refine owp_nilBB ?_ | refine owp_nil ?_)
          obtain rfl := sm hy193
          exact ⟨(), _, ⟨rfl, rfl, rfl, rfl, rfl, rfl, rfl, trivial⟩, hB, h48, h6, h9, h12, h15, h53, h22, h25, h28, h58, h35, h38, h41, h140, h126, h129, h132, h189, h175, h178, h181⟩
        replace hy193 := iT hy193
        refine owp_yes rfl rfl ?_
        refine o_nt rfl rfl  ?_
        refine o_pf rfl rfl rfl  ?_
        (first | refine owp_nilT ?_ | refine owp_nilB ?_ | refine owp_nilBB ?_ | refine owp_nil ?_)
        obtain rfl := sm hy193
        exact ⟨(), _, ⟨rfl, rfl, rfl, rfl, rfl, rfl, rfl, trivial⟩, hB, h48, h6, h9, h12, h15, h53, h22, h25, h28, h58, h35, h38, h41, h140, h126, h129, h132, h189, h175, h178, h181⟩
      rintro l210 w211 ⟨x195, O212, hs213, hB, h48, h6, h9, h12, h15, h53, h22, h25, h28, h58, h35, h38, h41, h140, h126, h129, h132, h189, h175, h178, h181⟩
      refine ewp_sub _ hs213 ?_
      refine ewp_cond rfl (fun c214 => ?_) (fun c214 => ?_)
      · replace hm := ip hm c214
        refine ewp_seq ?_
        obtain ⟨y215, hy216, hm⟩ := bs hm
        refine ewp_join (fun l' w' => ∃ (x218 : Unit) (O' : Lab), subs l' [(6, (.bool y215))] ∧ Bs w A w' O') ?_ ?_
        · skip
          refine ewp_region ?_
          refine o_mv rfl rfl  ?_
          obtain ⟨q219, e220, hy216⟩ := bs hy216
          refine l_callA (O := O212) (A := All w211) (R := fun w' F v => Vb w' F v q219) (c_base_Is (fun _ h => h) r184 (show inI64 (2) from by decide) e220) rfl rfl fun v225 w221 O222 S223 h224 => ?_
          obtain rfl := h224.bool
          replace hB := hB.st S223 (fun h => h) (fun h => h)
          replace h189 := h189.st S223 (fun h => h)
          replace h175 := h175.st S223 (fun h => h)
          replace h178 := h178.st S223 (fun h => h)
          replace h181 := h181.st S223 (fun h => h)
          cases q219
          case false =>
            replace hy216 := iF hy216
            refine o_mv rfl rfl  ?_
            refine owp_no rfl rfl rfl rfl ?_
            refine owp_no rfl rfl rfl rfl ?_
            refine owp_no rfl rfl rfl rfl ?_
            refine o_pf rfl rfl rfl  ?_
            refine o_as rfl rfl  ?_
            (first | refine owp_nilT ?_ | refine owp_nilB ?_ | refine owp_nilBB ?_ | refine owp_nil ?_)
            obtain rfl := sm hy216
            exact ⟨(), _, ⟨rfl, trivial⟩, hB⟩
          replace hy216 := iT hy216
          refine o_mv rfl rfl  ?_
          refine owp_yes rfl rfl ?_
          refine o_la (hl := rfl) (hc := (h189.1).cellsAt) rfl rfl  ?_
          refine owp_yes rfl rfl ?_
          refine o_bd rfl rfl rfl  ?_
          refine owp_yes rfl rfl ?_
          obtain ⟨q226, e227, hy216⟩ := bs hy216
          refine l_callA (O := O222) (A := All w221) (R := fun w' F v => Vb w' F v q226) (c_law51_Same (fun _ h => h) (Vb.mono (F := Fr 0 w221 O222) (Vb.ofAgg (cs := [(.slice A176 q160.1.vars.length c177), (.slice A179 q160.1.vals.length c180), (.slice A182 q160.1.ops.length c183)]) (x := q160.1) rfl ⟨_, _, _, rfl, h175, h178, h181⟩) Fr.lt) (Vb.mono (F := Fr 0 w221 O222) (Vb.ofAgg (cs := [(.slice none 0 0), (.slice none 0 0), (.slice none 0 0)]) (x := (⟨([] : List Int), ([] : List (List Int)), ([] : List Int)⟩ : Swp)) rfl ⟨_, _, _, rfl, (Vb.nil _ _), (Vb.nil _ _), (Vb.nil _ _)⟩) Fr.lt) e227) rfl rfl fun v232 w228 O229 S230 h231 => ?_
          obtain rfl := h231.bool
          replace hB := hB.st S230 (fun h => h) (fun h => h)
          cases q226
          case false =>
            replace hy216 := iF hy216
            refine o_pt rfl rfl rfl  ?_
            refine o_as rfl rfl  ?_
            (first | refine owp_nilT ?_ | refine owp_nilB ?_ | refine owp_nilBB ?_ | refine owp_nil ?_)
            obtain rfl := sm hy216
            exact ⟨(), _, ⟨rfl, trivial⟩, hB⟩
          replace hy216 := iT hy216
          refine o_pt rfl rfl rfl  ?_
          refine o_as rfl rfl  ?_
          (first | refine owp_nilT ?_ | refine owp_nilB ?_ | refine owp_nilBB ?_ | refine owp_nil ?_)
          obtain rfl := sm hy216
          exact ⟨(), _, ⟨rfl, trivial⟩, hB⟩
        rintro l233 w234 ⟨x218, O235, hs236, hB⟩
        refine ewp_sub _ hs236 ?_
        refine ewp_ret ?_
        obtain rfl := sm hm
        exact ret1v rfl (res_tmp rfl) ⟨hB.ext, vBool⟩
      · replace hm := im' hm c214
        refine ewp_skip ?_
        refine ewp_seq ?_
        refine ewp_region ?_
        refine o_la (hl := rfl) (hc := (h48.1).cellsAt) rfl rfl  ?_
        refine o_la (hl := rfl) (hc := (h53.1).cellsAt) rfl rfl  ?_
        obtain ⟨q237, e238, hm⟩ := bs hm
        refine l_call (O := O212) (R := fun w' F v => T2 w' F v q237) (c_symmetry_Inverse Fr.lt (Vb.ofAgg (cs := [(.slice A7 x0.vars.length c8), (.slice A10 x0.init.length c11), (.slice A13 x0.goal.length c14), (.slice A16 x0.ops.length c17)]) (x := x0) rfl ⟨_, _, _, _, rfl, h6, h9, h12, h15⟩) (Vb.ofAgg (cs := [(.slice A23 x1.vars.length c24), (.slice A26 x1.vals.length c27), (.slice A29 x1.ops.length c30)]) (x := x1) rfl ⟨_, _, _, rfl, h22, h25, h28⟩) e238) rfl rfl fun v243 w239 O240 S241 h242 => ?_
        obtain ⟨v244, v245, rfl, h246, h247⟩ := h242
        obtain ⟨cs248, rfl, v249, v250, v251, rfl, h252, h255, h258⟩ := h246
        obtain ⟨A253, c254, rfl⟩ := h252.form
        obtain ⟨A256, c257, rfl⟩ := h255.form
        obtain ⟨A259, c260, rfl⟩ := h258.form
        obtain ⟨rfl, r261⟩ := h247.err
        replace hB := hB.st S241 (fun h => h) (fun h => h)
        replace h48 := h48.st S241 (fun h => h)
        replace h6 := h6.st S241 (fun h => h)
        replace h9 := h9.st S241 (fun h => h)
        replace h12 := h12.st S241 (fun h => h)
        replace h15 := h15.st S241 (fun h => h)
        replace h53 := h53.st S241 (fun h => h)
        replace h22 := h22.st S241 (fun h => h)
        replace h25 := h25.st S241 (fun h => h)
        replace h28 := h28.st S241 (fun h => h)
        replace h58 := h58.st S241 (fun h => h)
        replace h35 := h35.st S241 (fun h => h)
        replace h38 := h38.st S241 (fun h => h)
        replace h41 := h41.st S241 (fun h => h)
        replace h140 := h140.st S241 (fun h => h)
        replace h126 := h126.st S241 (fun h => h)
        replace h129 := h129.st S241 (fun h => h)
        replace h132 := h132.st S241 (fun h => h)
        replace h189 := h189.st S241 (fun h => h)
        replace h175 := h175.st S241 (fun h => h)
        replace h178 := h178.st S241 (fun h => h)
        replace h181 := h181.st S241 (fun h => h)
        refine o_mv rfl rfl  ?_
        refine o_ex rfl rfl rfl  ?_
        refine o_ex rfl rfl rfl  ?_
        refine l_alloc 7 O240 rfl fun g262 w263 O264 S265 h266 => ?_
        replace hB := hB.st S265 (fun h => h) (fun h => h)
        replace h48 := h48.st S265 (fun h => h)
        replace h6 := h6.st S265 (fun h => h)
        replace h9 := h9.st S265 (fun h => h)
        replace h12 := h12.st S265 (fun h => h)
        replace h15 := h15.st S265 (fun h => h)
        replace h53 := h53.st S265 (fun h => h)
        replace h22 := h22.st S265 (fun h => h)
        replace h25 := h25.st S265 (fun h => h)
        replace h28 := h28.st S265 (fun h => h)
        replace h58 := h58.st S265 (fun h => h)
        replace h35 := h35.st S265 (fun h => h)
        replace h38 := h38.st S265 (fun h => h)
        replace h41 := h41.st S265 (fun h => h)
        replace h140 := h140.st S265 (fun h => h)
        replace h126 := h126.st S265 (fun h => h)
        replace h129 := h129.st S265 (fun h => h)
        replace h132 := h132.st S265 (fun h => h)
        replace h189 := h189.st S265 (fun h => h)
        replace h175 := h175.st S265 (fun h => h)
        replace h178 := h178.st S265 (fun h => h)
        replace h181 := h181.st S265 (fun h => h)
        replace h252 := h252.st S265 (fun h => h)
        replace h255 := h255.st S265 (fun h => h)
        replace h258 := h258.st S265 (fun h => h)
        refine l_store h266 rfl rfl rfl (Nat.le_of_ble_eq_true rfl) (by first | exact allOne rfl | simp [Value.cells, Value.oneCell', errV_one]) fun w267 S268 h266 => ?_
        replace h266 : Lc 7 w267 O264 g262 29 [(.slice A253 q237.1.vars.length c254), (.slice A256 q237.1.vals.length c257), (.slice A259 q237.1.ops.length c260)] := h266
        replace hB := hB.st S268 (by decide) (by decide)
        replace h48 := h48.st S268 (by decide)
        replace h6 := h6.st S268 (by decide)
        replace h9 := h9.st S268 (by decide)
        replace h12 := h12.st S268 (by decide)
        replace h15 := h15.st S268 (by decide)
        replace h53 := h53.st S268 (by decide)
        replace h22 := h22.st S268 (by decide)
        replace h25 := h25.st S268 (by decide)
        replace h28 := h28.st S268 (by decide)
        replace h58 := h58.st S268 (by decide)
        replace h35 := h35.st S268 (by decide)
        replace h38 := h38.st S268 (by decide)
        replace h41 := h41.st S268 (by decide)
        replace h140 := h140.st S268 (by decide)
        replace h126 := h126.st S268 (by decide)
        replace h129 := h129.st S268 (by decide)
        replace h132 := h132.st S268 (by decide)
        replace h189 := h189.st S268 (by decide)
        replace h175 := h175.st S268 (by decide)
        replace h178 := h178.st S268 (by decide)
        replace h181 := h181.st S268 (by decide)
        replace h252 := h252.st S268 (by decide)
        replace h255 := h255.st S268 (by decide)
        replace h258 := h258.st S268 (by decide)
        refine o_as rfl rfl  ?_
        (first | refine owp_nilT ?_ | refine owp_nilB ?_ | refine owp_nilBB ?_ | refine owp_nil ?_)
        refine ewp_seq ?_
        refine ewp_seq ?_
        obtain ⟨y269, hy270, hm⟩ := bs hm
        refine ewp_join (fun l' w' => ∃ (x272 : Unit) (O' : Lab), subs l' [(3, (.pointer (some ⟨g44, 0, none⟩))), (4, (.pointer (some ⟨g49, 0, none⟩))), (5, (.pointer (some ⟨g54, 0, none⟩))), (7, (.pointer (some ⟨g136, 0, none⟩))), (9, (.pointer (some ⟨g185, 0, none⟩))), (10, (.pointer (some ⟨g262, 0, none⟩))), (100, (.bool y269))] ∧ Bs w A w' O' ∧ Lc 2 w' O' g44 26 [(.slice A7 x0.vars.length c8), (.slice A10 x0.init.length c11), (.slice A13 x0.goal.length c14), (.slice A16 x0.ops.length c17)] ∧ Vb w' (Fr 0 w' O') (.slice A7 x0.vars.length c8) x0.vars ∧ Vb w' (Fr 0 w' O') (.slice A10 x0.init.length c11) x0.init ∧ Vb w' (Fr 0 w' O') (.slice A13 x0.goal.length c14) x0.goal ∧ Vb w' (Fr 0 w' O') (.slice A16 x0.ops.length c17) x0.ops ∧ Lc 3 w' O' g49 29 [(.slice A23 x1.vars.length c24), (.slice A26 x1.vals.length c27), (.slice A29 x1.ops.length c30)] ∧ Vb w' (Fr 0 w' O') (.slice A23 x1.vars.length c24) x1.vars ∧ Vb w' (Fr 0 w' O') (.slice A26 x1.vals.length c27) x1.vals ∧ Vb w' (Fr 0 w' O') (.slice A29 x1.ops.length c30) x1.ops ∧ Lc 4 w' O' g54 29 [(.slice A36 x2.vars.length c37), (.slice A39 x2.vals.length c40), (.slice A42 x2.ops.length c43)] ∧ Vb w' (Fr 0 w' O') (.slice A36 x2.vars.length c37) x2.vars ∧ Vb w' (Fr 0 w' O') (.slice A39 x2.vals.length c40) x2.vals ∧ Vb w' (Fr 0 w' O') (.slice A42 x2.ops.length c43) x2.ops ∧ Lc 5 w' O' g136 29 [(.slice A127 q111.1.vars.length c128), (.slice A130 q111.1.vals.length c131), (.slice A133 q111.1.ops.length c134)] ∧ Vb w' (Fr 0 w' O') (.slice A127 q111.1.vars.length c128) q111.1.vars ∧ Vb w' (Fr 0 w' O') (.slice A130 q111.1.vals.length c131) q111.1.vals ∧ Vb w' (Fr 0 w' O') (.slice A133 q111.1.ops.length c134) q111.1.ops ∧ Lc 6 w' O' g185 29 [(.slice A176 q160.1.vars.length c177), (.slice A179 q160.1.vals.length c180), (.slice A182 q160.1.ops.length c183)] ∧ Vb w' (Fr 0 w' O') (.slice A176 q160.1.vars.length c177) q160.1.vars ∧ Vb w' (Fr 0 w' O') (.slice A179 q160.1.vals.length c180) q160.1.vals ∧ Vb w' (Fr 0 w' O') (.slice A182 q160.1.ops.length c183) q160.1.ops ∧ Lc 7 w' O' g262 29 [(.slice A253 q237.1.vars.length c254), (.slice A256 q237.1.vals.length c257), (.slice A259 q237.1.ops.length c260)] ∧ Vb w' (Fr 0 w' O') (.slice A253 q237.1.vars.length c254) q237.1.vars ∧ Vb w' (Fr 0 w' O') (.slice A256 q237.1.vals.length c257) q237.1.vals ∧ Vb w' (Fr 0 w' O') (.slice A259 q237.1.ops.length c260) q237.1.ops) ?_ ?_
        · skip
          refine ewp_region ?_
          refine o_mv rfl rfl  ?_
          refine o_rnS rfl rfl (fun c273 => ?_) fun c273 => ?_
          · replace hy270 := ip hy270 c273
            refine o_mv rfl rfl  ?_
            refine owp_no rfl rfl rfl rfl ?_
            refine owp_no rfl rfl rfl rfl ?_
            refine o_pt rfl rfl rfl  ?_
            refine o_mv rfl rfl  ?_
            refine owp_no rfl rfl rfl rfl ?_
            refine owp_no rfl rfl rfl rfl ?_
            refine owp_no rfl rfl rfl rfl ?_
            refine owp_no rfl rfl rfl rfl ?_
            refine o_pt rfl rfl rfl  ?_
            refine o_mv rfl rfl  ?_
            refine owp_no rfl rfl rfl rfl ?_
            refine owp_no rfl rfl rfl rfl ?_
            refine owp_no rfl rfl rfl rfl ?_
            refine owp_no rfl rfl rfl rfl ?_
            refine o_pt rfl rfl rfl  ?_
            (first | refine owp_nilT ?_ | refine owp_nilB ?_ | refine owp_nilBB ?_ | refine owp_nil ?_)
            obtain rfl := sm hy270
            exact ⟨(), _, ⟨rfl, rfl, rfl, rfl, rfl, rfl, rfl, trivial⟩, hB, h48, h6, h9, h12, h15, h53, h22, h25, h28, h58, h35, h38, h41, h140, h126, h129, h132, h189, h175, h178, h181, h266, h252, h255, h258⟩
          · replace hy270 := im hy270 c273
            refine o_mv rfl rfl  ?_
            refine owp_yes rfl rfl ?_
            refine o_mv rfl rfl  ?_
            refine owp_yes rfl rfl ?_
            refine o_rnS rfl rfl (fun c274 => ?_) fun c274 => ?_
            · replace hy270 := ip hy270 c274
              refine o_pf rfl rfl rfl  ?_
              refine o_mv rfl rfl  ?_
              refine owp_no rfl rfl rfl rfl ?_
              refine owp_no rfl rfl rfl rfl ?_
              refine owp_no rfl rfl rfl rfl ?_
              refine owp_no rfl rfl rfl rfl ?_
              refine o_pt rfl rfl rfl  ?_
              refine o_mv rfl rfl  ?_
              refine owp_no rfl rfl rfl rfl ?_
              refine owp_no rfl rfl rfl rfl ?_
              refine owp_no rfl rfl rfl rfl ?_
              refine owp_no rfl rfl rfl rfl ?_
              refine o_pt rfl rfl rfl  ?_
              (first | refine owp_nilT ?_ | refine owp_nilB ?_ | refine owp_nilBB ?_ | refine owp_nil ?_)
              obtain rfl := sm hy270
              exact ⟨(), _, ⟨rfl, rfl, rfl, rfl, rfl, rfl, rfl, trivial⟩, hB, h48, h6, h9, h12, h15, h53, h22, h25, h28, h58, h35, h38, h41, h140, h126, h129, h132, h189, h175, h178, h181, h266, h252, h255, h258⟩
            · replace hy270 := im hy270 c274
              refine o_pf rfl rfl rfl  ?_
              refine o_mv rfl rfl  ?_
              refine owp_yes rfl rfl ?_
              refine o_la (hl := rfl) (hc := (h48.1).cellsAt) rfl rfl  ?_
              refine owp_yes rfl rfl ?_
              refine o_la (hl := rfl) (hc := (h189.1).cellsAt) rfl rfl  ?_
              refine owp_yes rfl rfl ?_
              obtain ⟨q275, e276, hy270⟩ := bs hy270
              refine l_callA (O := O264) (A := All w267) (R := fun w' F v => Vb w' F v q275) (c_symmetry_Check (fun _ h => h) (Vb.mono (F := Fr 0 w267 O264) (Vb.ofAgg (cs := [(.slice A7 x0.vars.length c8), (.slice A10 x0.init.length c11), (.slice A13 x0.goal.length c14), (.slice A16 x0.ops.length c17)]) (x := x0) rfl ⟨_, _, _, _, rfl, h6, h9, h12, h15⟩) Fr.lt) (Vb.mono (F := Fr 0 w267 O264) (Vb.ofAgg (cs := [(.slice A176 q160.1.vars.length c177), (.slice A179 q160.1.vals.length c180), (.slice A182 q160.1.ops.length c183)]) (x := q160.1) rfl ⟨_, _, _, rfl, h175, h178, h181⟩) Fr.lt) e276) rfl rfl fun v281 w277 O278 S279 h280 => ?_
              obtain rfl := h280.bool
              replace hB := hB.st S279 (fun h => h) (fun h => h)
              replace h48 := h48.st S279 (fun h => h)
              replace h6 := h6.st S279 (fun h => h)
              replace h9 := h9.st S279 (fun h => h)
              replace h12 := h12.st S279 (fun h => h)
              replace h15 := h15.st S279 (fun h => h)
              replace h53 := h53.st S279 (fun h => h)
              replace h22 := h22.st S279 (fun h => h)
              replace h25 := h25.st S279 (fun h => h)
              replace h28 := h28.st S279 (fun h => h)
              replace h58 := h58.st S279 (fun h => h)
              replace h35 := h35.st S279 (fun h => h)
              replace h38 := h38.st S279 (fun h => h)
              replace h41 := h41.st S279 (fun h => h)
              replace h140 := h140.st S279 (fun h => h)
              replace h126 := h126.st S279 (fun h => h)
              replace h129 := h129.st S279 (fun h => h)
              replace h132 := h132.st S279 (fun h => h)
              replace h189 := h189.st S279 (fun h => h)
              replace h175 := h175.st S279 (fun h => h)
              replace h178 := h178.st S279 (fun h => h)
              replace h181 := h181.st S279 (fun h => h)
              replace h266 := h266.st S279 (fun h => h)
              replace h252 := h252.st S279 (fun h => h)
              replace h255 := h255.st S279 (fun h => h)
              replace h258 := h258.st S279 (fun h => h)
              cases q275
              case false =>
                replace hy270 := iF hy270
                refine owp_yes rfl rfl ?_
                refine o_nf rfl rfl  ?_
                refine o_pf rfl rfl rfl  ?_
                refine o_mv rfl rfl  ?_
                refine owp_no rfl rfl rfl rfl ?_
                refine owp_no rfl rfl rfl rfl ?_
                refine owp_no rfl rfl rfl rfl ?_
                refine owp_no rfl rfl rfl rfl ?_
                refine o_pt rfl rfl rfl  ?_
                (first | refine owp_nilT ?_ | refine owp_nilB ?_ | refine owp_nilBB ?_ | refine owp_nil ?_)
                obtain rfl := sm hy270
                exact ⟨(), _, ⟨rfl, rfl, rfl, rfl, rfl, rfl, rfl, trivial⟩, hB, h48, h6, h9, h12, h15, h53, h22, h25, h28, h58, h35, h38, h41, h140, h126, h129, h132, h189, h175, h178, h181, h266, h252, h255, h258⟩
              replace hy270 := iT hy270
              refine owp_yes rfl rfl ?_
              refine o_nt rfl rfl  ?_
              refine o_pf rfl rfl rfl  ?_
              refine o_mv rfl rfl  ?_
              refine owp_yes rfl rfl ?_
              refine o_la (hl := rfl) (hc := (h48.1).cellsAt) rfl rfl  ?_
              refine owp_yes rfl rfl ?_
              refine o_la (hl := rfl) (hc := (h266.1).cellsAt) rfl rfl  ?_
              refine owp_yes rfl rfl ?_
              obtain ⟨q282, e283, hy270⟩ := bs hy270
              refine l_callA (O := O278) (A := All w277) (R := fun w' F v => Vb w' F v q282) (c_symmetry_Check (fun _ h => h) (Vb.mono (F := Fr 0 w277 O278) (Vb.ofAgg (cs := [(.slice A7 x0.vars.length c8), (.slice A10 x0.init.length c11), (.slice A13 x0.goal.length c14), (.slice A16 x0.ops.length c17)]) (x := x0) rfl ⟨_, _, _, _, rfl, h6, h9, h12, h15⟩) Fr.lt) (Vb.mono (F := Fr 0 w277 O278) (Vb.ofAgg (cs := [(.slice A253 q237.1.vars.length c254), (.slice A256 q237.1.vals.length c257), (.slice A259 q237.1.ops.length c260)]) (x := q237.1) rfl ⟨_, _, _, rfl, h252, h255, h258⟩) Fr.lt) e283) rfl rfl fun v288 w284 O285 S286 h287 => ?_
              obtain rfl := h287.bool
              replace hB := hB.st S286 (fun h => h) (fun h => h)
              replace h48 := h48.st S286 (fun h => h)
              replace h6 := h6.st S286 (fun h => h)
              replace h9 := h9.st S286 (fun h => h)
              replace h12 := h12.st S286 (fun h => h)
              replace h15 := h15.st S286 (fun h => h)
              replace h53 := h53.st S286 (fun h => h)
              replace h22 := h22.st S286 (fun h => h)
              replace h25 := h25.st S286 (fun h => h)
              replace h28 := h28.st S286 (fun h => h)
              replace h58 := h58.st S286 (fun h => h)
              replace h35 := h35.st S286 (fun h => h)
              replace h38 := h38.st S286 (fun h => h)
              replace h41 := h41.st S286 (fun h => h)
              replace h140 := h140.st S286 (fun h => h)
              replace h126 := h126.st S286 (fun h => h)
              replace h129 := h129.st S286 (fun h => h)
              replace h132 := h132.st S286 (fun h => h)
              replace h189 := h189.st S286 (fun h => h)
              replace h175 := h175.st S286 (fun h => h)
              replace h178 := h178.st S286 (fun h => h)
              replace h181 := h181.st S286 (fun h => h)
              replace h266 := h266.st S286 (fun h => h)
              replace h252 := h252.st S286 (fun h => h)
              replace h255 := h255.st S286 (fun h => h)
              replace h258 := h258.st S286 (fun h => h)
              cases q282
              case false =>
                replace hy270 := iF hy270
                refine owp_yes rfl rfl ?_
                refine o_nf rfl rfl  ?_
                refine o_pf rfl rfl rfl  ?_
                (first | refine owp_nilT ?_ | refine owp_nilB ?_ | refine owp_nilBB ?_ | refine owp_nil ?_)
                obtain rfl := sm hy270
                exact ⟨(), _, ⟨rfl, rfl, rfl, rfl, rfl, rfl, rfl, trivial⟩, hB, h48, h6, h9, h12, h15, h53, h22, h25, h28, h58, h35, h38, h41, h140, h126, h129, h132, h189, h175, h178, h181, h266, h252, h255, h258⟩
              replace hy270 := iT hy270
              refine owp_yes rfl rfl ?_
              refine o_nt rfl rfl  ?_
              refine o_pf rfl rfl rfl  ?_
              (first | refine owp_nilT ?_ | refine owp_nilB ?_ | refine owp_nilBB ?_ | refine owp_nil ?_)
              obtain rfl := sm hy270
              exact ⟨(), _, ⟨rfl, rfl, rfl, rfl, rfl, rfl, rfl, trivial⟩, hB, h48, h6, h9, h12, h15, h53, h22, h25, h28, h58, h35, h38, h41, h140, h126, h129, h132, h189, h175, h178, h181, h266, h252, h255, h258⟩
        rintro l289 w290 ⟨x272, O291, hs292, hB, h48, h6, h9, h12, h15, h53, h22, h25, h28, h58, h35, h38, h41, h140, h126, h129, h132, h189, h175, h178, h181, h266, h252, h255, h258⟩
        refine ewp_sub _ hs292 ?_
        refine ewp_cond rfl (fun c293 => ?_) (fun c293 => ?_)
        · replace hm := ip hm c293
          refine ewp_seq ?_
          refine ewp_region ?_
          refine o_as rfl rfl  ?_
          (first | refine owp_nilT ?_ | refine owp_nilB ?_ | refine owp_nilBB ?_ | refine owp_nil ?_)
          refine ewp_ret ?_
          obtain rfl := sm hm
          exact ret1v rfl (res_tmp rfl) ⟨hB.ext, vBool⟩
        · replace hm := im' hm c293
          refine ewp_skip ?_
          refine ewp_seq ?_
          refine ewp_region ?_
          refine o_la (hl := rfl) (hc := (h48.1).cellsAt) rfl rfl  ?_
          refine o_la (hl := rfl) (hc := (h53.1).cellsAt) rfl rfl  ?_
          refine o_la (hl := rfl) (hc := (h266.1).cellsAt) rfl rfl  ?_
          obtain ⟨q294, e295, hm⟩ := bs hm
          refine l_call (O := O291) (R := fun w' F v => T2 w' F v q294) (c_symmetry_Compose Fr.lt (Vb.ofAgg (cs := [(.slice A7 x0.vars.length c8), (.slice A10 x0.init.length c11), (.slice A13 x0.goal.length c14), (.slice A16 x0.ops.length c17)]) (x := x0) rfl ⟨_, _, _, _, rfl, h6, h9, h12, h15⟩) (Vb.ofAgg (cs := [(.slice A23 x1.vars.length c24), (.slice A26 x1.vals.length c27), (.slice A29 x1.ops.length c30)]) (x := x1) rfl ⟨_, _, _, rfl, h22, h25, h28⟩) (Vb.ofAgg (cs := [(.slice A253 q237.1.vars.length c254), (.slice A256 q237.1.vals.length c257), (.slice A259 q237.1.ops.length c260)]) (x := q237.1) rfl ⟨_, _, _, rfl, h252, h255, h258⟩) e295) rfl rfl fun v300 w296 O297 S298 h299 => ?_
          obtain ⟨v301, v302, rfl, h303, h304⟩ := h299
          obtain ⟨cs305, rfl, v306, v307, v308, rfl, h309, h312, h315⟩ := h303
          obtain ⟨A310, c311, rfl⟩ := h309.form
          obtain ⟨A313, c314, rfl⟩ := h312.form
          obtain ⟨A316, c317, rfl⟩ := h315.form
          obtain ⟨rfl, r318⟩ := h304.err
          replace hB := hB.st S298 (fun h => h) (fun h => h)
          replace h48 := h48.st S298 (fun h => h)
          replace h6 := h6.st S298 (fun h => h)
          replace h9 := h9.st S298 (fun h => h)
          replace h12 := h12.st S298 (fun h => h)
          replace h15 := h15.st S298 (fun h => h)
          replace h53 := h53.st S298 (fun h => h)
          replace h22 := h22.st S298 (fun h => h)
          replace h25 := h25.st S298 (fun h => h)
          replace h28 := h28.st S298 (fun h => h)
          replace h58 := h58.st S298 (fun h => h)
          replace h35 := h35.st S298 (fun h => h)
          replace h38 := h38.st S298 (fun h => h)
          replace h41 := h41.st S298 (fun h => h)
          replace h140 := h140.st S298 (fun h => h)
          replace h126 := h126.st S298 (fun h => h)
          replace h129 := h129.st S298 (fun h => h)
          replace h132 := h132.st S298 (fun h => h)
          replace h189 := h189.st S298 (fun h => h)
          replace h175 := h175.st S298 (fun h => h)
          replace h178 := h178.st S298 (fun h => h)
          replace h181 := h181.st S298 (fun h => h)
          replace h266 := h266.st S298 (fun h => h)
          replace h252 := h252.st S298 (fun h => h)
          replace h255 := h255.st S298 (fun h => h)
          replace h258 := h258.st S298 (fun h => h)
          refine o_mv rfl rfl  ?_
          refine o_ex rfl rfl rfl  ?_
          refine o_ex rfl rfl rfl  ?_
          refine l_alloc 8 O297 rfl fun g319 w320 O321 S322 h323 => ?_
          replace hB := hB.st S322 (fun h => h) (fun h => h)
          replace h48 := h48.st S322 (fun h => h)
          replace h6 := h6.st S322 (fun h => h)
          replace h9 := h9.st S322 (fun h => h)
          replace h12 := h12.st S322 (fun h => h)
          replace h15 := h15.st S322 (fun h => h)
          replace h53 := h53.st S322 (fun h => h)
          replace h22 := h22.st S322 (fun h => h)
          replace h25 := h25.st S322 (fun h => h)
          replace h28 := h28.st S322 (fun h => h)
          replace h58 := h58.st S322 (fun h => h)
          replace h35 := h35.st S322 (fun h => h)
          replace h38 := h38.st S322 (fun h => h)
          replace h41 := h41.st S322 (fun h => h)
          replace h140 := h140.st S322 (fun h => h)
          replace h126 := h126.st S322 (fun h => h)
          replace h129 := h129.st S322 (fun h => h)
          replace h132 := h132.st S322 (fun h => h)
          replace h189 := h189.st S322 (fun h => h)
          replace h175 := h175.st S322 (fun h => h)
          replace h178 := h178.st S322 (fun h => h)
          replace h181 := h181.st S322 (fun h => h)
          replace h266 := h266.st S322 (fun h => h)
          replace h252 := h252.st S322 (fun h => h)
          replace h255 := h255.st S322 (fun h => h)
          replace h258 := h258.st S322 (fun h => h)
          replace h309 := h309.st S322 (fun h => h)
          replace h312 := h312.st S322 (fun h => h)
          replace h315 := h315.st S322 (fun h => h)
          refine l_store h323 rfl rfl rfl (Nat.le_of_ble_eq_true rfl) (by first | exact allOne rfl | simp [Value.cells, Value.oneCell', errV_one]) fun w324 S325 h323 => ?_
          replace h323 : Lc 8 w324 O321 g319 29 [(.slice A310 q294.1.vars.length c311), (.slice A313 q294.1.vals.length c314), (.slice A316 q294.1.ops.length c317)] := h323
          replace hB := hB.st S325 (by decide) (by decide)
          replace h48 := h48.st S325 (by decide)
          replace h6 := h6.st S325 (by decide)
          replace h9 := h9.st S325 (by decide)
          replace h12 := h12.st S325 (by decide)
          replace h15 := h15.st S325 (by decide)
          replace h53 := h53.st S325 (by decide)
          replace h22 := h22.st S325 (by decide)
          replace h25 := h25.st S325 (by decide)
          replace h28 := h28.st S325 (by decide)
          replace h58 := h58.st S325 (by decide)
          replace h35 := h35.st S325 (by decide)
          replace h38 := h38.st S325 (by decide)
          replace h41 := h41.st S325 (by decide)
          replace h140 := h140.st S325 (by decide)
          replace h126 := h126.st S325 (by decide)
          replace h129 := h129.st S325 (by decide)
          replace h132 := h132.st S325 (by decide)
          replace h189 := h189.st S325 (by decide)
          replace h175 := h175.st S325 (by decide)
          replace h178 := h178.st S325 (by decide)
          replace h181 := h181.st S325 (by decide)
          replace h266 := h266.st S325 (by decide)
          replace h252 := h252.st S325 (by decide)
          replace h255 := h255.st S325 (by decide)
          replace h258 := h258.st S325 (by decide)
          replace h309 := h309.st S325 (by decide)
          replace h312 := h312.st S325 (by decide)
          replace h315 := h315.st S325 (by decide)
          refine o_as rfl rfl  ?_
          (first | refine owp_nilT ?_ | refine owp_nilB ?_ | refine owp_nilBB ?_ | refine owp_nil ?_)
          refine ewp_seq ?_
          refine ewp_region ?_
          refine o_la (hl := rfl) (hc := (h48.1).cellsAt) rfl rfl  ?_
          refine o_la (hl := rfl) (hc := (h266.1).cellsAt) rfl rfl  ?_
          refine o_la (hl := rfl) (hc := (h53.1).cellsAt) rfl rfl  ?_
          obtain ⟨q326, e327, hm⟩ := bs hm
          refine l_call (O := O321) (R := fun w' F v => T2 w' F v q326) (c_symmetry_Compose Fr.lt (Vb.ofAgg (cs := [(.slice A7 x0.vars.length c8), (.slice A10 x0.init.length c11), (.slice A13 x0.goal.length c14), (.slice A16 x0.ops.length c17)]) (x := x0) rfl ⟨_, _, _, _, rfl, h6, h9, h12, h15⟩) (Vb.ofAgg (cs := [(.slice A253 q237.1.vars.length c254), (.slice A256 q237.1.vals.length c257), (.slice A259 q237.1.ops.length c260)]) (x := q237.1) rfl ⟨_, _, _, rfl, h252, h255, h258⟩) (Vb.ofAgg (cs := [(.slice A23 x1.vars.length c24), (.slice A26 x1.vals.length c27), (.slice A29 x1.ops.length c30)]) (x := x1) rfl ⟨_, _, _, rfl, h22, h25, h28⟩) e327) rfl rfl fun v332 w328 O329 S330 h331 => ?_
          obtain ⟨v333, v334, rfl, h335, h336⟩ := h331
          obtain ⟨cs337, rfl, v338, v339, v340, rfl, h341, h344, h347⟩ := h335
          obtain ⟨A342, c343, rfl⟩ := h341.form
          obtain ⟨A345, c346, rfl⟩ := h344.form
          obtain ⟨A348, c349, rfl⟩ := h347.form
          obtain ⟨rfl, r350⟩ := h336.err
          replace hB := hB.st S330 (fun h => h) (fun h => h)
          replace h48 := h48.st S330 (fun h => h)
          replace h6 := h6.st S330 (fun h => h)
          replace h9 := h9.st S330 (fun h => h)
          replace h12 := h12.st S330 (fun h => h)
          replace h15 := h15.st S330 (fun h => h)
          replace h53 := h53.st S330 (fun h => h)
          replace h22 := h22.st S330 (fun h => h)
          replace h25 := h25.st S330 (fun h => h)
          replace h28 := h28.st S330 (fun h => h)
          replace h58 := h58.st S330 (fun h => h)
          replace h35 := h35.st S330 (fun h => h)
          replace h38 := h38.st S330 (fun h => h)
          replace h41 := h41.st S330 (fun h => h)
          replace h140 := h140.st S330 (fun h => h)
          replace h126 := h126.st S330 (fun h => h)
          replace h129 := h129.st S330 (fun h => h)
          replace h132 := h132.st S330 (fun h => h)
          replace h189 := h189.st S330 (fun h => h)
          replace h175 := h175.st S330 (fun h => h)
          replace h178 := h178.st S330 (fun h => h)
          replace h181 := h181.st S330 (fun h => h)
          replace h323 := h323.st S330 (fun h => h)
          replace h309 := h309.st S330 (fun h => h)
          replace h312 := h312.st S330 (fun h => h)
          replace h315 := h315.st S330 (fun h => h)
          refine o_mv rfl rfl  ?_
          refine o_ex rfl rfl rfl  ?_
          refine o_ex rfl rfl rfl  ?_
          refine l_alloc 9 O329 rfl fun g351 w352 O353 S354 h355 => ?_
          replace hB := hB.st S354 (fun h => h) (fun h => h)
          replace h48 := h48.st S354 (fun h => h)
          replace h6 := h6.st S354 (fun h => h)
          replace h9 := h9.st S354 (fun h => h)
          replace h12 := h12.st S354 (fun h => h)
          replace h15 := h15.st S354 (fun h => h)
          replace h53 := h53.st S354 (fun h => h)
          replace h22 := h22.st S354 (fun h => h)
          replace h25 := h25.st S354 (fun h => h)
          replace h28 := h28.st S354 (fun h => h)
          replace h58 := h58.st S354 (fun h => h)
          replace h35 := h35.st S354 (fun h => h)
          replace h38 := h38.st S354 (fun h => h)
          replace h41 := h41.st S354 (fun h => h)
          replace h140 := h140.st S354 (fun h => h)
          replace h126 := h126.st S354 (fun h => h)
          replace h129 := h129.st S354 (fun h => h)
          replace h132 := h132.st S354 (fun h => h)
          replace h189 := h189.st S354 (fun h => h)
          replace h175 := h175.st S354 (fun h => h)
          replace h178 := h178.st S354 (fun h => h)
          replace h181 := h181.st S354 (fun h => h)
          replace h323 := h323.st S354 (fun h => h)
          replace h309 := h309.st S354 (fun h => h)
          replace h312 := h312.st S354 (fun h => h)
          replace h315 := h315.st S354 (fun h => h)
          replace h341 := h341.st S354 (fun h => h)
          replace h344 := h344.st S354 (fun h => h)
          replace h347 := h347.st S354 (fun h => h)
          refine l_store h355 rfl rfl rfl (Nat.le_of_ble_eq_true rfl) (by first | exact allOne rfl | simp [Value.cells, Value.oneCell', errV_one]) fun w356 S357 h355 => ?_
          replace h355 : Lc 9 w356 O353 g351 29 [(.slice A342 q326.1.vars.length c343), (.slice A345 q326.1.vals.length c346), (.slice A348 q326.1.ops.length c349)] := h355
          replace hB := hB.st S357 (by decide) (by decide)
          replace h48 := h48.st S357 (by decide)
          replace h6 := h6.st S357 (by decide)
          replace h9 := h9.st S357 (by decide)
          replace h12 := h12.st S357 (by decide)
          replace h15 := h15.st S357 (by decide)
          replace h53 := h53.st S357 (by decide)
          replace h22 := h22.st S357 (by decide)
          replace h25 := h25.st S357 (by decide)
          replace h28 := h28.st S357 (by decide)
          replace h58 := h58.st S357 (by decide)
          replace h35 := h35.st S357 (by decide)
          replace h38 := h38.st S357 (by decide)
          replace h41 := h41.st S357 (by decide)
          replace h140 := h140.st S357 (by decide)
          replace h126 := h126.st S357 (by decide)
          replace h129 := h129.st S357 (by decide)
          replace h132 := h132.st S357 (by decide)
          replace h189 := h189.st S357 (by decide)
          replace h175 := h175.st S357 (by decide)
          replace h178 := h178.st S357 (by decide)
          replace h181 := h181.st S357 (by decide)
          replace h323 := h323.st S357 (by decide)
          replace h309 := h309.st S357 (by decide)
          replace h312 := h312.st S357 (by decide)
          replace h315 := h315.st S357 (by decide)
          replace h341 := h341.st S357 (by decide)
          replace h344 := h344.st S357 (by decide)
          replace h347 := h347.st S357 (by decide)
          refine o_as rfl rfl  ?_
          (first | refine owp_nilT ?_ | refine owp_nilB ?_ | refine owp_nilBB ?_ | refine owp_nil ?_)
          refine ewp_seq ?_
          refine ewp_seq ?_
          obtain ⟨y358, hy359, hm⟩ := bs hm
          refine ewp_join (fun l' w' => ∃ (x361 : Unit) (O' : Lab), subs l' [(3, (.pointer (some ⟨g44, 0, none⟩))), (4, (.pointer (some ⟨g49, 0, none⟩))), (5, (.pointer (some ⟨g54, 0, none⟩))), (7, (.pointer (some ⟨g136, 0, none⟩))), (9, (.pointer (some ⟨g185, 0, none⟩))), (132, (.bool y358))] ∧ Bs w A w' O' ∧ Lc 2 w' O' g44 26 [(.slice A7 x0.vars.length c8), (.slice A10 x0.init.length c11), (.slice A13 x0.goal.length c14), (.slice A16 x0.ops.length c17)] ∧ Vb w' (Fr 0 w' O') (.slice A7 x0.vars.length c8) x0.vars ∧ Vb w' (Fr 0 w' O') (.slice A10 x0.init.length c11) x0.init ∧ Vb w' (Fr 0 w' O') (.slice A13 x0.goal.length c14) x0.goal ∧ Vb w' (Fr 0 w' O') (.slice A16 x0.ops.length c17) x0.ops ∧ Lc 3 w' O' g49 29 [(.slice A23 x1.vars.length c24), (.slice A26 x1.vals.length c27), (.slice A29 x1.ops.length c30)] ∧ Vb w' (Fr 0 w' O') (.slice A23 x1.vars.length c24) x1.vars ∧ Vb w' (Fr 0 w' O') (.slice A26 x1.vals.length c27) x1.vals ∧ Vb w' (Fr 0 w' O') (.slice A29 x1.ops.length c30) x1.ops ∧ Lc 4 w' O' g54 29 [(.slice A36 x2.vars.length c37), (.slice A39 x2.vals.length c40), (.slice A42 x2.ops.length c43)] ∧ Vb w' (Fr 0 w' O') (.slice A36 x2.vars.length c37) x2.vars ∧ Vb w' (Fr 0 w' O') (.slice A39 x2.vals.length c40) x2.vals ∧ Vb w' (Fr 0 w' O') (.slice A42 x2.ops.length c43) x2.ops ∧ Lc 5 w' O' g136 29 [(.slice A127 q111.1.vars.length c128), (.slice A130 q111.1.vals.length c131), (.slice A133 q111.1.ops.length c134)] ∧ Vb w' (Fr 0 w' O') (.slice A127 q111.1.vars.length c128) q111.1.vars ∧ Vb w' (Fr 0 w' O') (.slice A130 q111.1.vals.length c131) q111.1.vals ∧ Vb w' (Fr 0 w' O') (.slice A133 q111.1.ops.length c134) q111.1.ops ∧ Lc 6 w' O' g185 29 [(.slice A176 q160.1.vars.length c177), (.slice A179 q160.1.vals.length c180), (.slice A182 q160.1.ops.length c183)] ∧ Vb w' (Fr 0 w' O') (.slice A176 q160.1.vars.length c177) q160.1.vars ∧ Vb w' (Fr 0 w' O') (.slice A179 q160.1.vals.length c180) q160.1.vals ∧ Vb w' (Fr 0 w' O') (.slice A182 q160.1.ops.length c183) q160.1.ops) ?_ ?_
          · skip
            refine ewp_region ?_
            refine o_mv rfl rfl  ?_
            refine o_rnS rfl rfl (fun c362 => ?_) fun c362 => ?_
            · replace hy359 := ip hy359 c362
              refine o_mv rfl rfl  ?_
              refine owp_no rfl rfl rfl rfl ?_
              refine owp_no rfl rfl rfl rfl ?_
              refine o_pt rfl rfl rfl  ?_
              refine o_mv rfl rfl  ?_
              refine owp_no rfl rfl rfl rfl ?_
              refine owp_no rfl rfl rfl rfl ?_
              refine owp_no rfl rfl rfl rfl ?_
              refine owp_no rfl rfl rfl rfl ?_
              refine o_pt rfl rfl rfl  ?_
              refine o_mv rfl rfl  ?_
              refine owp_no rfl rfl rfl rfl ?_
              refine owp_no rfl rfl rfl rfl ?_
              refine owp_no rfl rfl rfl rfl ?_
              refine owp_no rfl rfl rfl rfl ?_
              refine o_pt rfl rfl rfl  ?_
              (first | refine owp_nilT ?_ | refine owp_nilB ?_ | refine owp_nilBB ?_ | refine owp_nil ?_)
              obtain rfl := sm hy359
              exact ⟨(), _, ⟨rfl, rfl, rfl, rfl, rfl, rfl, trivial⟩, hB, h48, h6, h9, h12, h15, h53, h22, h25, h28, h58, h35, h38, h41, h140, h126, h129, h132, h189, h175, h178, h181⟩
            · replace hy359 := im hy359 c362
              refine o_mv rfl rfl  ?_
              refine owp_yes rfl rfl ?_
              refine o_mv rfl rfl  ?_
              refine owp_yes rfl rfl ?_
              refine o_rnS rfl rfl (fun c363 => ?_) fun c363 => ?_
              · replace hy359 := ip hy359 c363
                refine o_pf rfl rfl rfl  ?_
                refine o_mv rfl rfl  ?_
                refine owp_no rfl rfl rfl rfl ?_
                refine owp_no rfl rfl rfl rfl ?_
                refine owp_no rfl rfl rfl rfl ?_
                refine owp_no rfl rfl rfl rfl ?_
                refine o_pt rfl rfl rfl  ?_
                refine o_mv rfl rfl  ?_
                refine owp_no rfl rfl rfl rfl ?_
                refine owp_no rfl rfl rfl rfl ?_
                refine owp_no rfl rfl rfl rfl ?_
                refine owp_no rfl rfl rfl rfl ?_
                refine o_pt rfl rfl rfl  ?_
                (first | refine owp_nilT ?_ | refine owp_nilB ?_ | refine owp_nilBB ?_ | refine owp_nil ?_)
                obtain rfl := sm hy359
                exact ⟨(), _, ⟨rfl, rfl, rfl, rfl, rfl, rfl, trivial⟩, hB, h48, h6, h9, h12, h15, h53, h22, h25, h28, h58, h35, h38, h41, h140, h126, h129, h132, h189, h175, h178, h181⟩
              · replace hy359 := im hy359 c363
                refine o_pf rfl rfl rfl  ?_
                refine o_mv rfl rfl  ?_
                refine owp_yes rfl rfl ?_
                refine o_la (hl := rfl) (hc := (h323.1).cellsAt) rfl rfl  ?_
                refine owp_yes rfl rfl ?_
                refine o_la (hl := rfl) (hc := (h140.1).cellsAt) rfl rfl  ?_
                refine owp_yes rfl rfl ?_
                obtain ⟨q364, e365, hy359⟩ := bs hy359
                refine l_callA (O := O353) (A := All w356) (R := fun w' F v => Vb w' F v q364) (c_law51_Same (fun _ h => h) (Vb.mono (F := Fr 0 w356 O353) (Vb.ofAgg (cs := [(.slice A310 q294.1.vars.length c311), (.slice A313 q294.1.vals.length c314), (.slice A316 q294.1.ops.length c317)]) (x := q294.1) rfl ⟨_, _, _, rfl, h309, h312, h315⟩) Fr.lt) (Vb.mono (F := Fr 0 w356 O353) (Vb.ofAgg (cs := [(.slice A127 q111.1.vars.length c128), (.slice A130 q111.1.vals.length c131), (.slice A133 q111.1.ops.length c134)]) (x := q111.1) rfl ⟨_, _, _, rfl, h126, h129, h132⟩) Fr.lt) e365) rfl rfl fun v370 w366 O367 S368 h369 => ?_
                obtain rfl := h369.bool
                replace hB := hB.st S368 (fun h => h) (fun h => h)
                replace h48 := h48.st S368 (fun h => h)
                replace h6 := h6.st S368 (fun h => h)
                replace h9 := h9.st S368 (fun h => h)
                replace h12 := h12.st S368 (fun h => h)
                replace h15 := h15.st S368 (fun h => h)
                replace h53 := h53.st S368 (fun h => h)
                replace h22 := h22.st S368 (fun h => h)
                replace h25 := h25.st S368 (fun h => h)
                replace h28 := h28.st S368 (fun h => h)
                replace h58 := h58.st S368 (fun h => h)
                replace h35 := h35.st S368 (fun h => h)
                replace h38 := h38.st S368 (fun h => h)
                replace h41 := h41.st S368 (fun h => h)
                replace h140 := h140.st S368 (fun h => h)
                replace h126 := h126.st S368 (fun h => h)
                replace h129 := h129.st S368 (fun h => h)
                replace h132 := h132.st S368 (fun h => h)
                replace h189 := h189.st S368 (fun h => h)
                replace h175 := h175.st S368 (fun h => h)
                replace h178 := h178.st S368 (fun h => h)
                replace h181 := h181.st S368 (fun h => h)
                replace h355 := h355.st S368 (fun h => h)
                replace h341 := h341.st S368 (fun h => h)
                replace h344 := h344.st S368 (fun h => h)
                replace h347 := h347.st S368 (fun h => h)
                cases q364
                case false =>
                  replace hy359 := iF hy359
                  refine owp_yes rfl rfl ?_
                  refine o_nf rfl rfl  ?_
                  refine o_pf rfl rfl rfl  ?_
                  refine o_mv rfl rfl  ?_
                  refine owp_no rfl rfl rfl rfl ?_
                  refine owp_no rfl rfl rfl rfl ?_
                  refine owp_no rfl rfl rfl rfl ?_
                  refine owp_no rfl rfl rfl rfl ?_
                  refine o_pt rfl rfl rfl  ?_
                  (first | refine owp_nilT ?_ | refine owp_nilB ?_ | refine owp_nilBB ?_ | refine owp_nil ?_)
                  obtain rfl := sm hy359
                  exact ⟨(), _, ⟨rfl, rfl, rfl, rfl, rfl, rfl, trivial⟩, hB, h48, h6, h9, h12, h15, h53, h22, h25, h28, h58, h35, h38, h41, h140, h126, h129, h132, h189, h175, h178, h181⟩
                replace hy359 := iT hy359
                refine owp_yes rfl rfl ?_
                refine o_nt rfl rfl  ?_
                refine o_pf rfl rfl rfl  ?_
                refine o_mv rfl rfl  ?_
                refine owp_yes rfl rfl ?_
                refine o_la (hl := rfl) (hc := (h355.1).cellsAt) rfl rfl  ?_
                refine owp_yes rfl rfl ?_
                refine o_la (hl := rfl) (hc := (h140.1).cellsAt) rfl rfl  ?_
                refine owp_yes rfl rfl ?_
                obtain ⟨q371, e372, hy359⟩ := bs hy359
                refine l_callA (O := O367) (A := All w366) (R := fun w' F v => Vb w' F v q371) (c_law51_Same (fun _ h => h) (Vb.mono (F := Fr 0 w366 O367) (Vb.ofAgg (cs := [(.slice A342 q326.1.vars.length c343), (.slice A345 q326.1.vals.length c346), (.slice A348 q326.1.ops.length c349)]) (x := q326.1) rfl ⟨_, _, _, rfl, h341, h344, h347⟩) Fr.lt) (Vb.mono (F := Fr 0 w366 O367) (Vb.ofAgg (cs := [(.slice A127 q111.1.vars.length c128), (.slice A130 q111.1.vals.length c131), (.slice A133 q111.1.ops.length c134)]) (x := q111.1) rfl ⟨_, _, _, rfl, h126, h129, h132⟩) Fr.lt) e372) rfl rfl fun v377 w373 O374 S375 h376 => ?_
                obtain rfl := h376.bool
                replace hB := hB.st S375 (fun h => h) (fun h => h)
                replace h48 := h48.st S375 (fun h => h)
                replace h6 := h6.st S375 (fun h => h)
                replace h9 := h9.st S375 (fun h => h)
                replace h12 := h12.st S375 (fun h => h)
                replace h15 := h15.st S375 (fun h => h)
                replace h53 := h53.st S375 (fun h => h)
                replace h22 := h22.st S375 (fun h => h)
                replace h25 := h25.st S375 (fun h => h)
                replace h28 := h28.st S375 (fun h => h)
                replace h58 := h58.st S375 (fun h => h)
                replace h35 := h35.st S375 (fun h => h)
                replace h38 := h38.st S375 (fun h => h)
                replace h41 := h41.st S375 (fun h => h)
                replace h140 := h140.st S375 (fun h => h)
                replace h126 := h126.st S375 (fun h => h)
                replace h129 := h129.st S375 (fun h => h)
                replace h132 := h132.st S375 (fun h => h)
                replace h189 := h189.st S375 (fun h => h)
                replace h175 := h175.st S375 (fun h => h)
                replace h178 := h178.st S375 (fun h => h)
                replace h181 := h181.st S375 (fun h => h)
                cases q371
                case false =>
                  replace hy359 := iF hy359
                  refine owp_yes rfl rfl ?_
                  refine o_nf rfl rfl  ?_
                  refine o_pf rfl rfl rfl  ?_
                  (first | refine owp_nilT ?_ | refine owp_nilB ?_ | refine owp_nilBB ?_ | refine owp_nil ?_)
                  obtain rfl := sm hy359
                  exact ⟨(), _, ⟨rfl, rfl, rfl, rfl, rfl, rfl, trivial⟩, hB, h48, h6, h9, h12, h15, h53, h22, h25, h28, h58, h35, h38, h41, h140, h126, h129, h132, h189, h175, h178, h181⟩
                replace hy359 := iT hy359
                refine owp_yes rfl rfl ?_
                refine o_nt rfl rfl  ?_
                refine o_pf rfl rfl rfl  ?_
                (first | refine owp_nilT ?_ | refine owp_nilB ?_ | refine owp_nilBB ?_ | refine owp_nil ?_)
                obtain rfl := sm hy359
                exact ⟨(), _, ⟨rfl, rfl, rfl, rfl, rfl, rfl, trivial⟩, hB, h48, h6, h9, h12, h15, h53, h22, h25, h28, h58, h35, h38, h41, h140, h126, h129, h132, h189, h175, h178, h181⟩
          rintro l378 w379 ⟨x361, O380, hs381, hB, h48, h6, h9, h12, h15, h53, h22, h25, h28, h58, h35, h38, h41, h140, h126, h129, h132, h189, h175, h178, h181⟩
          refine ewp_sub _ hs381 ?_
          refine ewp_cond rfl (fun c382 => ?_) (fun c382 => ?_)
          · replace hm := ip hm c382
            refine ewp_seq ?_
            refine ewp_region ?_
            refine o_as rfl rfl  ?_
            (first | refine owp_nilT ?_ | refine owp_nilB ?_ | refine owp_nilBB ?_ | refine owp_nil ?_)
            refine ewp_ret ?_
            obtain rfl := sm hm
            exact ret1v rfl (res_tmp rfl) ⟨hB.ext, vBool⟩
          · replace hm := im' hm c382
            refine ewp_skip ?_
            refine ewp_seq ?_
            refine ewp_seq ?_
            refine ewp_region ?_
            refine o_fa rfl rfl  ?_
            refine o_ld (hc := Blk.cell (i := 0) (h48.1) rfl) rfl rfl  ?_
            obtain ⟨q383, e384, hm⟩ := bs hm
            refine l_call (O := O380) (R := fun w' F v => Vb w' F v q383) (c_base_States Fr.lt h6 e384) rfl rfl fun v389 w385 O386 S387 h388 => ?_
            obtain ⟨A390, c391, rfl⟩ := h388.form
            replace hB := hB.st S387 (fun h => h) (fun h => h)
            replace h48 := h48.st S387 (fun h => h)
            replace h6 := h6.st S387 (fun h => h)
            replace h9 := h9.st S387 (fun h => h)
            replace h12 := h12.st S387 (fun h => h)
            replace h15 := h15.st S387 (fun h => h)
            replace h53 := h53.st S387 (fun h => h)
            replace h22 := h22.st S387 (fun h => h)
            replace h25 := h25.st S387 (fun h => h)
            replace h28 := h28.st S387 (fun h => h)
            replace h58 := h58.st S387 (fun h => h)
            replace h35 := h35.st S387 (fun h => h)
            replace h38 := h38.st S387 (fun h => h)
            replace h41 := h41.st S387 (fun h => h)
            replace h140 := h140.st S387 (fun h => h)
            replace h126 := h126.st S387 (fun h => h)
            replace h129 := h129.st S387 (fun h => h)
            replace h132 := h132.st S387 (fun h => h)
            replace h189 := h189.st S387 (fun h => h)
            replace h175 := h175.st S387 (fun h => h)
            replace h178 := h178.st S387 (fun h => h)
            replace h181 := h181.st S387 (fun h => h)
            refine o_ln rfl rfl  ?_
            have l393 : q383.length ≤ 9223372036854775807 := Nat.le_trans h388.len.2.1 h388.len.2.2
            have r392 : inI64 (q383.length : Int) := rngNat l393
            refine o_mv rfl rfl  ?_
            (first | refine owp_nilT ?_ | refine owp_nilB ?_ | refine owp_nilBB ?_ | refine owp_nil ?_)
            obtain ⟨res394, hL395, hm⟩ := bs hm
            refine ewp_join (aft res394 (fun (s396 : Unit) (x397 : Unit) => []) (fun s396 x397 w' => ∃ O' : Lab, Bs w A w' O')) ?_ ?_
            · refine ewp_block ?_
              refine ewp_rng (σ := Unit) (X := Unit) (q383.length) hL395 rfl l393 (fun (s396 : Unit) (x397 : Unit) => [(3, (.pointer (some ⟨g44, 0, none⟩))), (4, (.pointer (some ⟨g49, 0, none⟩))), (5, (.pointer (some ⟨g54, 0, none⟩))), (7, (.pointer (some ⟨g136, 0, none⟩))), (9, (.pointer (some ⟨g185, 0, none⟩))), (135, (.slice A390 q383.length c391))]) _ (fun s396 x397 w' => ∃ O' : Lab, Bs w A w' O' ∧ Lc 2 w' O' g44 26 [(.slice A7 x0.vars.length c8), (.slice A10 x0.init.length c11), (.slice A13 x0.goal.length c14), (.slice A16 x0.ops.length c17)] ∧ Vb w' (Fr 0 w' O') (.slice A7 x0.vars.length c8) x0.vars ∧ Vb w' (Fr 0 w' O') (.slice A10 x0.init.length c11) x0.init ∧ Vb w' (Fr 0 w' O') (.slice A13 x0.goal.length c14) x0.goal ∧ Vb w' (Fr 0 w' O') (.slice A16 x0.ops.length c17) x0.ops ∧ Lc 3 w' O' g49 29 [(.slice A23 x1.vars.length c24), (.slice A26 x1.vals.length c27), (.slice A29 x1.ops.length c30)] ∧ Vb w' (Fr 0 w' O') (.slice A23 x1.vars.length c24) x1.vars ∧ Vb w' (Fr 0 w' O') (.slice A26 x1.vals.length c27) x1.vals ∧ Vb w' (Fr 0 w' O') (.slice A29 x1.ops.length c30) x1.ops ∧ Lc 4 w' O' g54 29 [(.slice A36 x2.vars.length c37), (.slice A39 x2.vals.length c40), (.slice A42 x2.ops.length c43)] ∧ Vb w' (Fr 0 w' O') (.slice A36 x2.vars.length c37) x2.vars ∧ Vb w' (Fr 0 w' O') (.slice A39 x2.vals.length c40) x2.vals ∧ Vb w' (Fr 0 w' O') (.slice A42 x2.ops.length c43) x2.ops ∧ Lc 5 w' O' g136 29 [(.slice A127 q111.1.vars.length c128), (.slice A130 q111.1.vals.length c131), (.slice A133 q111.1.ops.length c134)] ∧ Vb w' (Fr 0 w' O') (.slice A127 q111.1.vars.length c128) q111.1.vars ∧ Vb w' (Fr 0 w' O') (.slice A130 q111.1.vals.length c131) q111.1.vals ∧ Vb w' (Fr 0 w' O') (.slice A133 q111.1.ops.length c134) q111.1.ops ∧ Lc 6 w' O' g185 29 [(.slice A176 q160.1.vars.length c177), (.slice A179 q160.1.vals.length c180), (.slice A182 q160.1.ops.length c183)] ∧ Vb w' (Fr 0 w' O') (.slice A176 q160.1.vars.length c177) q160.1.vars ∧ Vb w' (Fr 0 w' O') (.slice A179 q160.1.vals.length c180) q160.1.vals ∧ Vb w' (Fr 0 w' O') (.slice A182 q160.1.ops.length c183) q160.1.ops ∧ Vb w' (Fr 0 w' O') (.slice A390 q383.length c391) q383) _ () ⟨O386, hB, h48, h6, h9, h12, h15, h53, h22, h25, h28, h58, h35, h38, h41, h140, h126, h129, h132, h189, h175, h178, h181, h388⟩ ⟨rfl, rfl, rfl, rfl, rfl, rfl, rfl, rfl, trivial⟩ (fun _ _ => ⟨rfl, rfl⟩) (fun _ _ => trivial) (fun _ _ _ ⟨O', hB, h48, h6, h9, h12, h15, h53, h22, h25, h28, h58, h35, h38, h41, h140, h126, h129, h132, h189, h175, h178, h181, h388⟩ => ⟨O', hB⟩) ⟨rfl, rfl, rfl⟩ ⟨rfl, rfl⟩ ?_
              rintro k398 a399 s396 x397 w400 cc402 hx403 ⟨O401, hB, h48, h6, h9, h12, h15, h53, h22, h25, h28, h58, h35, h38, h41, h140, h126, h129, h132, h189, h175, h178, h181, h388⟩ hf404 hret405 hbrk406
              have rk398 : inI64 (k398 : Int) := rngK hx403 l393
              refine ewp_seq ?_
              refine ewp_region ?_
              obtain ⟨b409, o410, ce411, hA412, hl413, hd414, v416, rfl, h417⟩ := h388.elem' hx403
              replace h417 := Vb.of_slice h417
              obtain ⟨A418, c419, rfl⟩ := h417.form
              refine o_iaE (hA := hA412) (hj := rfl) (hlt := hl413) rfl rfl rfl  ?_
              refine o_ld (hc := cat0 hd414) rfl rfl  ?_
              refine o_as rfl rfl  ?_
              (first | refine owp_nilT ?_ | refine owp_nilB ?_ | refine owp_nilBB ?_ | refine owp_nil ?_)
              refine ewp_seq ?_
              refine ewp_region ?_
              refine o_la (hl := rfl) (hc := (h48.1).cellsAt) rfl rfl  ?_
              refine o_la (hl := rfl) (hc := (h53.1).cellsAt) rfl rfl  ?_
              refine o_mv rfl rfl  ?_
              obtain ⟨q420, e421, hf404⟩ := bs hf404
              refine l_call (O := O401) (R := fun w' F v => T2 w' F v q420) (c_symmetry_State Fr.lt (Vb.ofAgg (cs := [(.slice A7 x0.vars.length c8), (.slice A10 x0.init.length c11), (.slice A13 x0.goal.length c14), (.slice A16 x0.ops.length c17)]) (x := x0) rfl ⟨_, _, _, _, rfl, h6, h9, h12, h15⟩) (Vb.ofAgg (cs := [(.slice A23 x1.vars.length c24), (.slice A26 x1.vals.length c27), (.slice A29 x1.ops.length c30)]) (x := x1) rfl ⟨_, _, _, rfl, h22, h25, h28⟩) h417 e421) rfl rfl fun v426 w422 O423 S424 h425 => ?_
              obtain ⟨v427, v428, rfl, h429, h430⟩ := h425
              obtain ⟨A431, c432, rfl⟩ := h429.form
              obtain ⟨rfl, r433⟩ := h430.err
              replace hB := hB.st S424 (fun h => h) (fun h => h)
              replace h48 := h48.st S424 (fun h => h)
              replace h6 := h6.st S424 (fun h => h)
              replace h9 := h9.st S424 (fun h => h)
              replace h12 := h12.st S424 (fun h => h)
              replace h15 := h15.st S424 (fun h => h)
              replace h53 := h53.st S424 (fun h => h)
              replace h22 := h22.st S424 (fun h => h)
              replace h25 := h25.st S424 (fun h => h)
              replace h28 := h28.st S424 (fun h => h)
              replace h58 := h58.st S424 (fun h => h)
              replace h35 := h35.st S424 (fun h => h)
              replace h38 := h38.st S424 (fun h => h)
              replace h41 := h41.st S424 (fun h => h)
              replace h140 := h140.st S424 (fun h => h)
              replace h126 := h126.st S424 (fun h => h)
              replace h129 := h129.st S424 (fun h => h)
              replace h132 := h132.st S424 (fun h => h)
              replace h189 := h189.st S424 (fun h => h)
              replace h175 := h175.st S424 (fun h => h)
              replace h178 := h178.st S424 (fun h => h)
              replace h181 := h181.st S424 (fun h => h)
              replace h417 := h417.st S424 (fun h => h)
              replace h388 := h388.st S424 (fun h => h)
              refine o_mv rfl rfl  ?_
              refine o_ex rfl rfl rfl  ?_
              refine o_ex rfl rfl rfl  ?_
              refine o_as rfl rfl  ?_
              refine o_as rfl rfl  ?_
              (first | refine owp_nilT ?_ | refine owp_nilB ?_ | refine owp_nilBB ?_ | refine owp_nil ?_)
              refine ewp_seq ?_
              refine ewp_region ?_
              refine o_la (hl := rfl) (hc := (h48.1).cellsAt) rfl rfl  ?_
              refine o_la (hl := rfl) (hc := (h58.1).cellsAt) rfl rfl  ?_
              refine o_mv rfl rfl  ?_
              obtain ⟨q434, e435, hf404⟩ := bs hf404
              refine l_call (O := O423) (R := fun w' F v => T2 w' F v q434) (c_symmetry_State Fr.lt (Vb.ofAgg (cs := [(.slice A7 x0.vars.length c8), (.slice A10 x0.init.length c11), (.slice A13 x0.goal.length c14), (.slice A16 x0.ops.length c17)]) (x := x0) rfl ⟨_, _, _, _, rfl, h6, h9, h12, h15⟩) (Vb.ofAgg (cs := [(.slice A36 x2.vars.length c37), (.slice A39 x2.vals.length c40), (.slice A42 x2.ops.length c43)]) (x := x2) rfl ⟨_, _, _, rfl, h35, h38, h41⟩) h429 e435) rfl rfl fun v440 w436 O437 S438 h439 => ?_
              obtain ⟨v441, v442, rfl, h443, h444⟩ := h439
              obtain ⟨A445, c446, rfl⟩ := h443.form
              obtain ⟨rfl, r447⟩ := h444.err
              replace hB := hB.st S438 (fun h => h) (fun h => h)
              replace h48 := h48.st S438 (fun h => h)
              replace h6 := h6.st S438 (fun h => h)
              replace h9 := h9.st S438 (fun h => h)
              replace h12 := h12.st S438 (fun h => h)
              replace h15 := h15.st S438 (fun h => h)
              replace h53 := h53.st S438 (fun h => h)
              replace h22 := h22.st S438 (fun h => h)
              replace h25 := h25.st S438 (fun h => h)
              replace h28 := h28.st S438 (fun h => h)
              replace h58 := h58.st S438 (fun h => h)
              replace h35 := h35.st S438 (fun h => h)
              replace h38 := h38.st S438 (fun h => h)
              replace h41 := h41.st S438 (fun h => h)
              replace h140 := h140.st S438 (fun h => h)
              replace h126 := h126.st S438 (fun h => h)
              replace h129 := h129.st S438 (fun h => h)
              replace h132 := h132.st S438 (fun h => h)
              replace h189 := h189.st S438 (fun h => h)
              replace h175 := h175.st S438 (fun h => h)
              replace h178 := h178.st S438 (fun h => h)
              replace h181 := h181.st S438 (fun h => h)
              replace h417 := h417.st S438 (fun h => h)
              replace h388 := h388.st S438 (fun h => h)
              refine o_mv rfl rfl  ?_
              refine o_ex rfl rfl rfl  ?_
              refine o_ex rfl rfl rfl  ?_
              refine o_as rfl rfl  ?_
              refine o_as rfl rfl  ?_
              (first | refine owp_nilT ?_ | refine owp_nilB ?_ | refine owp_nilBB ?_ | refine owp_nil ?_)
              refine ewp_seq ?_
              refine ewp_region ?_
              refine o_la (hl := rfl) (hc := (h48.1).cellsAt) rfl rfl  ?_
              refine o_la (hl := rfl) (hc := (h189.1).cellsAt) rfl rfl  ?_
              refine o_mv rfl rfl  ?_
              obtain ⟨q448, e449, hf404⟩ := bs hf404
              refine l_call (O := O437) (R := fun w' F v => T2 w' F v q448) (c_symmetry_State Fr.lt (Vb.ofAgg (cs := [(.slice A7 x0.vars.length c8), (.slice A10 x0.init.length c11), (.slice A13 x0.goal.length c14), (.slice A16 x0.ops.length c17)]) (x := x0) rfl ⟨_, _, _, _, rfl, h6, h9, h12, h15⟩) (Vb.ofAgg (cs := [(.slice A176 q160.1.vars.length c177), (.slice A179 q160.1.vals.length c180), (.slice A182 q160.1.ops.length c183)]) (x := q160.1) rfl ⟨_, _, _, rfl, h175, h178, h181⟩) h417 e449) rfl rfl fun v454 w450 O451 S452 h453 => ?_
              obtain ⟨v455, v456, rfl, h457, h458⟩ := h453
              obtain ⟨A459, c460, rfl⟩ := h457.form
              obtain ⟨rfl, r461⟩ := h458.err
              replace hB := hB.st S452 (fun h => h) (fun h => h)
              replace h48 := h48.st S452 (fun h => h)
              replace h6 := h6.st S452 (fun h => h)
              replace h9 := h9.st S452 (fun h => h)
              replace h12 := h12.st S452 (fun h => h)
              replace h15 := h15.st S452 (fun h => h)
              replace h53 := h53.st S452 (fun h => h)
              replace h22 := h22.st S452 (fun h => h)
              replace h25 := h25.st S452 (fun h => h)
              replace h28 := h28.st S452 (fun h => h)
              replace h58 := h58.st S452 (fun h => h)
              replace h35 := h35.st S452 (fun h => h)
              replace h38 := h38.st S452 (fun h => h)
              replace h41 := h41.st S452 (fun h => h)
              replace h140 := h140.st S452 (fun h => h)
              replace h126 := h126.st S452 (fun h => h)
              replace h129 := h129.st S452 (fun h => h)
              replace h132 := h132.st S452 (fun h => h)
              replace h189 := h189.st S452 (fun h => h)
              replace h175 := h175.st S452 (fun h => h)
              replace h178 := h178.st S452 (fun h => h)
              replace h181 := h181.st S452 (fun h => h)
              replace h417 := h417.st S452 (fun h => h)
              replace h443 := h443.st S452 (fun h => h)
              replace h388 := h388.st S452 (fun h => h)
              refine o_mv rfl rfl  ?_
              refine o_ex rfl rfl rfl  ?_
              refine o_ex rfl rfl rfl  ?_
              refine o_as rfl rfl  ?_
              refine o_as rfl rfl  ?_
              (first | refine owp_nilT ?_ | refine owp_nilB ?_ | refine owp_nilBB ?_ | refine owp_nil ?_)
              refine ewp_seq ?_
              refine ewp_region ?_
              refine o_la (hl := rfl) (hc := (h48.1).cellsAt) rfl rfl  ?_
              refine o_la (hl := rfl) (hc := (h140.1).cellsAt) rfl rfl  ?_
              refine o_mv rfl rfl  ?_
              obtain ⟨q462, e463, hf404⟩ := bs hf404
              refine l_call (O := O451) (R := fun w' F v => T2 w' F v q462) (c_symmetry_State Fr.lt (Vb.ofAgg (cs := [(.slice A7 x0.vars.length c8), (.slice A10 x0.init.length c11), (.slice A13 x0.goal.length c14), (.slice A16 x0.ops.length c17)]) (x := x0) rfl ⟨_, _, _, _, rfl, h6, h9, h12, h15⟩) (Vb.ofAgg (cs := [(.slice A127 q111.1.vars.length c128), (.slice A130 q111.1.vals.length c131), (.slice A133 q111.1.ops.length c134)]) (x := q111.1) rfl ⟨_, _, _, rfl, h126, h129, h132⟩) h417 e463) rfl rfl fun v468 w464 O465 S466 h467 => ?_
              obtain ⟨v469, v470, rfl, h471, h472⟩ := h467
              obtain ⟨A473, c474, rfl⟩ := h471.form
              obtain ⟨rfl, r475⟩ := h472.err
              replace hB := hB.st S466 (fun h => h) (fun h => h)
              replace h48 := h48.st S466 (fun h => h)
              replace h6 := h6.st S466 (fun h => h)
              replace h9 := h9.st S466 (fun h => h)
              replace h12 := h12.st S466 (fun h => h)
              replace h15 := h15.st S466 (fun h => h)
              replace h53 := h53.st S466 (fun h => h)
              replace h22 := h22.st S466 (fun h => h)
              replace h25 := h25.st S466 (fun h => h)
              replace h28 := h28.st S466 (fun h => h)
              replace h58 := h58.st S466 (fun h => h)
              replace h35 := h35.st S466 (fun h => h)
              replace h38 := h38.st S466 (fun h => h)
              replace h41 := h41.st S466 (fun h => h)
              replace h140 := h140.st S466 (fun h => h)
              replace h126 := h126.st S466 (fun h => h)
              replace h129 := h129.st S466 (fun h => h)
              replace h132 := h132.st S466 (fun h => h)
              replace h189 := h189.st S466 (fun h => h)
              replace h175 := h175.st S466 (fun h => h)
              replace h178 := h178.st S466 (fun h => h)
              replace h181 := h181.st S466 (fun h => h)
              replace h417 := h417.st S466 (fun h => h)
              replace h443 := h443.st S466 (fun h => h)
              replace h457 := h457.st S466 (fun h => h)
              replace h388 := h388.st S466 (fun h => h)
              refine o_mv rfl rfl  ?_
              refine o_ex rfl rfl rfl  ?_
              refine o_ex rfl rfl rfl  ?_
              refine o_as rfl rfl  ?_
              refine o_as rfl rfl  ?_
              (first | refine owp_nilT ?_ | refine owp_nilB ?_ | refine owp_nilBB ?_ | refine owp_nil ?_)
              refine ewp_seq ?_
              obtain ⟨y476, hy477, hf404⟩ := bs hf404
              refine ewp_join (fun l' w' => ∃ (x479 : Unit) (O' : Lab), subs l' [(3, (.pointer (some ⟨g44, 0, none⟩))), (4, (.pointer (some ⟨g49, 0, none⟩))), (5, (.pointer (some ⟨g54, 0, none⟩))), (7, (.pointer (some ⟨g136, 0, none⟩))), (9, (.pointer (some ⟨g185, 0, none⟩))), (135, (.slice A390 q383.length c391)), (136, (.int .i64 (q383.length : Int))), (137, (.int .i64 (k398 : Int))), (194, (.bool y476))] ∧ Bs w A w' O' ∧ Lc 2 w' O' g44 26 [(.slice A7 x0.vars.length c8), (.slice A10 x0.init.length c11), (.slice A13 x0.goal.length c14), (.slice A16 x0.ops.length c17)] ∧ Vb w' (Fr 0 w' O') (.slice A7 x0.vars.length c8) x0.vars ∧ Vb w' (Fr 0 w' O') (.slice A10 x0.init.length c11) x0.init ∧ Vb w' (Fr 0 w' O') (.slice A13 x0.goal.length c14) x0.goal ∧ Vb w' (Fr 0 w' O') (.slice A16 x0.ops.length c17) x0.ops ∧ Lc 3 w' O' g49 29 [(.slice A23 x1.vars.length c24), (.slice A26 x1.vals.length c27), (.slice A29 x1.ops.length c30)] ∧ Vb w' (Fr 0 w' O') (.slice A23 x1.vars.length c24) x1.vars ∧ Vb w' (Fr 0 w' O') (.slice A26 x1.vals.length c27) x1.vals ∧ Vb w' (Fr 0 w' O') (.slice A29 x1.ops.length c30) x1.ops ∧ Lc 4 w' O' g54 29 [(.slice A36 x2.vars.length c37), (.slice A39 x2.vals.length c40), (.slice A42 x2.ops.length c43)] ∧ Vb w' (Fr 0 w' O') (.slice A36 x2.vars.length c37) x2.vars ∧ Vb w' (Fr 0 w' O') (.slice A39 x2.vals.length c40) x2.vals ∧ Vb w' (Fr 0 w' O') (.slice A42 x2.ops.length c43) x2.ops ∧ Lc 5 w' O' g136 29 [(.slice A127 q111.1.vars.length c128), (.slice A130 q111.1.vals.length c131), (.slice A133 q111.1.ops.length c134)] ∧ Vb w' (Fr 0 w' O') (.slice A127 q111.1.vars.length c128) q111.1.vars ∧ Vb w' (Fr 0 w' O') (.slice A130 q111.1.vals.length c131) q111.1.vals ∧ Vb w' (Fr 0 w' O') (.slice A133 q111.1.ops.length c134) q111.1.ops ∧ Lc 6 w' O' g185 29 [(.slice A176 q160.1.vars.length c177), (.slice A179 q160.1.vals.length c180), (.slice A182 q160.1.ops.length c183)] ∧ Vb w' (Fr 0 w' O') (.slice A176 q160.1.vars.length c177) q160.1.vars ∧ Vb w' (Fr 0 w' O') (.slice A179 q160.1.vals.length c180) q160.1.vals ∧ Vb w' (Fr 0 w' O') (.slice A182 q160.1.ops.length c183) q160.1.ops ∧ Vb w' (Fr 0 w' O') (.slice A390 q383.length c391) q383) ?_ ?_
              · skip
                refine ewp_region ?_
                refine o_mv rfl rfl  ?_
                refine o_rnS rfl rfl (fun c480 => ?_) fun c480 => ?_
                · replace hy477 := ip hy477 c480
                  refine o_mv rfl rfl  ?_
                  refine owp_no rfl rfl rfl rfl ?_
                  refine owp_no rfl rfl rfl rfl ?_
                  refine o_pt rfl rfl rfl  ?_
                  refine o_mv rfl rfl  ?_
                  refine owp_no rfl rfl rfl rfl ?_
                  refine owp_no rfl rfl rfl rfl ?_
                  refine o_pt rfl rfl rfl  ?_
                  refine o_mv rfl rfl  ?_
                  refine owp_no rfl rfl rfl rfl ?_
                  refine owp_no rfl rfl rfl rfl ?_
                  refine o_pt rfl rfl rfl  ?_
                  refine o_mv rfl rfl  ?_
                  refine owp_no rfl rfl rfl rfl ?_
                  refine owp_no rfl rfl rfl rfl ?_
                  refine owp_no rfl rfl rfl rfl ?_
                  refine owp_no rfl rfl rfl rfl ?_
                  refine o_pt rfl rfl rfl  ?_
                  refine o_mv rfl rfl  ?_
                  refine owp_no rfl rfl rfl rfl ?_
                  refine owp_no rfl rfl rfl rfl ?_
                  refine owp_no rfl rfl rfl rfl ?_
                  refine owp_no rfl rfl rfl rfl ?_
                  refine o_pt rfl rfl rfl  ?_
                  (first | refine owp_nilT ?_ | refine owp_nilB ?_ | refine owp_nilBB ?_ | refine owp_nil ?_)
                  obtain rfl := sm hy477
                  exact ⟨(), _, ⟨rfl, rfl, rfl, rfl, rfl, rfl, rfl, rfl, rfl, trivial⟩, hB, h48, h6, h9, h12, h15, h53, h22, h25, h28, h58, h35, h38, h41, h140, h126, h129, h132, h189, h175, h178, h181, h388⟩
                · replace hy477 := im hy477 c480
                  refine o_mv rfl rfl  ?_
                  refine owp_yes rfl rfl ?_
                  refine o_mv rfl rfl  ?_
                  refine owp_yes rfl rfl ?_
                  refine o_rnS rfl rfl (fun c481 => ?_) fun c481 => ?_
                  · replace hy477 := ip hy477 c481
                    refine o_pf rfl rfl rfl  ?_
                    refine o_mv rfl rfl  ?_
                    refine owp_no rfl rfl rfl rfl ?_
                    refine owp_no rfl rfl rfl rfl ?_
                    refine o_pt rfl rfl rfl  ?_
                    refine o_mv rfl rfl  ?_
                    refine owp_no rfl rfl rfl rfl ?_
                    refine owp_no rfl rfl rfl rfl ?_
                    refine o_pt rfl rfl rfl  ?_
                    refine o_mv rfl rfl  ?_
                    refine owp_no rfl rfl rfl rfl ?_
                    refine owp_no rfl rfl rfl rfl ?_
                    refine owp_no rfl rfl rfl rfl ?_
                    refine owp_no rfl rfl rfl rfl ?_
                    refine o_pt rfl rfl rfl  ?_
                    refine o_mv rfl rfl  ?_
                    refine owp_no rfl rfl rfl rfl ?_
                    refine owp_no rfl rfl rfl rfl ?_
                    refine owp_no rfl rfl rfl rfl ?_
                    refine owp_no rfl rfl rfl rfl ?_
                    refine o_pt rfl rfl rfl  ?_
                    (first | refine owp_nilT ?_ | refine owp_nilB ?_ | refine owp_nilBB ?_ | refine owp_nil ?_)
                    obtain rfl := sm hy477
                    exact ⟨(), _, ⟨rfl, rfl, rfl, rfl, rfl, rfl, rfl, rfl, rfl, trivial⟩, hB, h48, h6, h9, h12, h15, h53, h22, h25, h28, h58, h35, h38, h41, h140, h126, h129, h132, h189, h175, h178, h181, h388⟩
                  · replace hy477 := im hy477 c481
                    refine o_pf rfl rfl rfl  ?_
                    refine o_mv rfl rfl  ?_
                    refine owp_yes rfl rfl ?_
                    refine o_mv rfl rfl  ?_
                    refine owp_yes rfl rfl ?_
                    refine o_rnS rfl rfl (fun c482 => ?_) fun c482 => ?_
                    · replace hy477 := ip hy477 c482
                      refine o_pf rfl rfl rfl  ?_
                      refine o_mv rfl rfl  ?_
                      refine owp_no rfl rfl rfl rfl ?_
                      refine owp_no rfl rfl rfl rfl ?_
                      refine o_pt rfl rfl rfl  ?_
                      refine o_mv rfl rfl  ?_
                      refine owp_no rfl rfl rfl rfl ?_
                      refine owp_no rfl rfl rfl rfl ?_
                      refine owp_no rfl rfl rfl rfl ?_
                      refine owp_no rfl rfl rfl rfl ?_
                      refine o_pt rfl rfl rfl  ?_
                      refine o_mv rfl rfl  ?_
                      refine owp_no rfl rfl rfl rfl ?_
                      refine owp_no rfl rfl rfl rfl ?_
                      refine owp_no rfl rfl rfl rfl ?_
                      refine owp_no rfl rfl rfl rfl ?_
                      refine o_pt rfl rfl rfl  ?_
                      (first | refine owp_nilT ?_ | refine owp_nilB ?_ | refine owp_nilBB ?_ | refine owp_nil ?_)
                      obtain rfl := sm hy477
                      exact ⟨(), _, ⟨rfl, rfl, rfl, rfl, rfl, rfl, rfl, rfl, rfl, trivial⟩, hB, h48, h6, h9, h12, h15, h53, h22, h25, h28, h58, h35, h38, h41, h140, h126, h129, h132, h189, h175, h178, h181, h388⟩
                    · replace hy477 := im hy477 c482
                      refine o_pf rfl rfl rfl  ?_
                      refine o_mv rfl rfl  ?_
                      refine owp_yes rfl rfl ?_
                      refine o_mv rfl rfl  ?_
                      refine owp_yes rfl rfl ?_
                      refine o_rnS rfl rfl (fun c483 => ?_) fun c483 => ?_
                      · replace hy477 := ip hy477 c483
                        refine o_pf rfl rfl rfl  ?_
                        refine o_mv rfl rfl  ?_
                        refine owp_no rfl rfl rfl rfl ?_
                        refine owp_no rfl rfl rfl rfl ?_
                        refine owp_no rfl rfl rfl rfl ?_
                        refine owp_no rfl rfl rfl rfl ?_
                        refine o_pt rfl rfl rfl  ?_
                        refine o_mv rfl rfl  ?_
                        refine owp_no rfl rfl rfl rfl ?_
                        refine owp_no rfl rfl rfl rfl ?_
                        refine owp_no rfl rfl rfl rfl ?_
                        refine owp_no rfl rfl rfl rfl ?_
                        refine o_pt rfl rfl rfl  ?_
                        (first | refine owp_nilT ?_ | refine owp_nilB ?_ | refine owp_nilBB ?_ | refine owp_nil ?_)
                        obtain rfl := sm hy477
                        exact ⟨(), _, ⟨rfl, rfl, rfl, rfl, rfl, rfl, rfl, rfl, rfl, trivial⟩, hB, h48, h6, h9, h12, h15, h53, h22, h25, h28, h58, h35, h38, h41, h140, h126, h129, h132, h189, h175, h178, h181, h388⟩
                      · replace hy477 := im hy477 c483
                        refine o_pf rfl rfl rfl  ?_
                        refine o_mv rfl rfl  ?_
                        refine owp_yes rfl rfl ?_
                        refine o_mv rfl rfl  ?_
                        refine owp_yes rfl rfl ?_
                        refine o_mv rfl rfl  ?_
                        refine owp_yes rfl rfl ?_
                        obtain ⟨q484, e485, hy477⟩ := bs hy477
                        refine l_callA (O := O465) (A := All w464) (R := fun w' F v => Vb w' F v q484) (c_base_Ints (fun _ h => h) (Vb.mono (F := Fr 0 w464 O465) h443 Fr.lt) (Vb.mono (F := Fr 0 w464 O465) h457 Fr.lt) e485) rfl rfl fun v490 w486 O487 S488 h489 => ?_
                        obtain rfl := h489.bool
                        replace hB := hB.st S488 (fun h => h) (fun h => h)
                        replace h48 := h48.st S488 (fun h => h)
                        replace h6 := h6.st S488 (fun h => h)
                        replace h9 := h9.st S488 (fun h => h)
                        replace h12 := h12.st S488 (fun h => h)
                        replace h15 := h15.st S488 (fun h => h)
                        replace h53 := h53.st S488 (fun h => h)
                        replace h22 := h22.st S488 (fun h => h)
                        replace h25 := h25.st S488 (fun h => h)
                        replace h28 := h28.st S488 (fun h => h)
                        replace h58 := h58.st S488 (fun h => h)
                        replace h35 := h35.st S488 (fun h => h)
                        replace h38 := h38.st S488 (fun h => h)
                        replace h41 := h41.st S488 (fun h => h)
                        replace h140 := h140.st S488 (fun h => h)
                        replace h126 := h126.st S488 (fun h => h)
                        replace h129 := h129.st S488 (fun h => h)
                        replace h132 := h132.st S488 (fun h => h)
                        replace h189 := h189.st S488 (fun h => h)
                        replace h175 := h175.st S488 (fun h => h)
                        replace h178 := h178.st S488 (fun h => h)
                        replace h181 := h181.st S488 (fun h => h)
                        replace h417 := h417.st S488 (fun h => h)
                        replace h471 := h471.st S488 (fun h => h)
                        replace h388 := h388.st S488 (fun h => h)
                        cases q484
                        case false =>
                          replace hy477 := iF hy477
                          refine owp_yes rfl rfl ?_
                          refine o_nf rfl rfl  ?_
                          refine o_pf rfl rfl rfl  ?_
                          refine o_mv rfl rfl  ?_
                          refine owp_no rfl rfl rfl rfl ?_
                          refine owp_no rfl rfl rfl rfl ?_
                          refine owp_no rfl rfl rfl rfl ?_
                          refine owp_no rfl rfl rfl rfl ?_
                          refine o_pt rfl rfl rfl  ?_
                          (first | refine owp_nilT ?_ | refine owp_nilB ?_ | refine owp_nilBB ?_ | refine owp_nil ?_)
                          obtain rfl := sm hy477
                          exact ⟨(), _, ⟨rfl, rfl, rfl, rfl, rfl, rfl, rfl, rfl, rfl, trivial⟩, hB, h48, h6, h9, h12, h15, h53, h22, h25, h28, h58, h35, h38, h41, h140, h126, h129, h132, h189, h175, h178, h181, h388⟩
                        replace hy477 := iT hy477
                        refine owp_yes rfl rfl ?_
                        refine o_nt rfl rfl  ?_
                        refine o_pf rfl rfl rfl  ?_
                        refine o_mv rfl rfl  ?_
                        refine owp_yes rfl rfl ?_
                        refine o_mv rfl rfl  ?_
                        refine owp_yes rfl rfl ?_
                        refine o_mv rfl rfl  ?_
                        refine owp_yes rfl rfl ?_
                        obtain ⟨q491, e492, hy477⟩ := bs hy477
                        refine l_callA (O := O487) (A := All w486) (R := fun w' F v => Vb w' F v q491) (c_base_Ints (fun _ h => h) (Vb.mono (F := Fr 0 w486 O487) h471 Fr.lt) (Vb.mono (F := Fr 0 w486 O487) h417 Fr.lt) e492) rfl rfl fun v497 w493 O494 S495 h496 => ?_
                        obtain rfl := h496.bool
                        replace hB := hB.st S495 (fun h => h) (fun h => h)
                        replace h48 := h48.st S495 (fun h => h)
                        replace h6 := h6.st S495 (fun h => h)
                        replace h9 := h9.st S495 (fun h => h)
                        replace h12 := h12.st S495 (fun h => h)
                        replace h15 := h15.st S495 (fun h => h)
                        replace h53 := h53.st S495 (fun h => h)
                        replace h22 := h22.st S495 (fun h => h)
                        replace h25 := h25.st S495 (fun h => h)
                        replace h28 := h28.st S495 (fun h => h)
                        replace h58 := h58.st S495 (fun h => h)
                        replace h35 := h35.st S495 (fun h => h)
                        replace h38 := h38.st S495 (fun h => h)
                        replace h41 := h41.st S495 (fun h => h)
                        replace h140 := h140.st S495 (fun h => h)
                        replace h126 := h126.st S495 (fun h => h)
                        replace h129 := h129.st S495 (fun h => h)
                        replace h132 := h132.st S495 (fun h => h)
                        replace h189 := h189.st S495 (fun h => h)
                        replace h175 := h175.st S495 (fun h => h)
                        replace h178 := h178.st S495 (fun h => h)
                        replace h181 := h181.st S495 (fun h => h)
                        replace h388 := h388.st S495 (fun h => h)
                        cases q491
                        case false =>
                          replace hy477 := iF hy477
                          refine owp_yes rfl rfl ?_
                          refine o_nf rfl rfl  ?_
                          refine o_pf rfl rfl rfl  ?_
                          (first | refine owp_nilT ?_ | refine owp_nilB ?_ | refine owp_nilBB ?_ | refine owp_nil ?_)
                          obtain rfl := sm hy477
                          exact ⟨(), _, ⟨rfl, rfl, rfl, rfl, rfl, rfl, rfl, rfl, rfl, trivial⟩, hB, h48, h6, h9, h12, h15, h53, h22, h25, h28, h58, h35, h38, h41, h140, h126, h129, h132, h189, h175, h178, h181, h388⟩
                        replace hy477 := iT hy477
                        refine owp_yes rfl rfl ?_
                        refine o_nt rfl rfl  ?_
                        refine o_pf rfl rfl rfl  ?_
                        (first | refine owp_nilT ?_ | refine owp_nilB ?_ | refine owp_nilBB ?_ | refine owp_nil ?_)
                        obtain rfl := sm hy477
                        exact ⟨(), _, ⟨rfl, rfl, rfl, rfl, rfl, rfl, rfl, rfl, rfl, trivial⟩, hB, h48, h6, h9, h12, h15, h53, h22, h25, h28, h58, h35, h38, h41, h140, h126, h129, h132, h189, h175, h178, h181, h388⟩
              rintro l498 w499 ⟨x479, O500, hs501, hB, h48, h6, h9, h12, h15, h53, h22, h25, h28, h58, h35, h38, h41, h140, h126, h129, h132, h189, h175, h178, h181, h388⟩
              refine ewp_sub _ hs501 ?_
              refine ewp_cond rfl (fun c502 => ?_) (fun c502 => ?_)
              · replace hf404 := ip hf404 c502
                refine ewp_seq ?_
                refine ewp_region ?_
                refine o_as rfl rfl  ?_
                (first | refine owp_nilT ?_ | refine owp_nilB ?_ | refine owp_nilBB ?_ | refine owp_nil ?_)
                refine ewp_ret ?_
                obtain rfl := sm hf404
                obtain rfl := hret405 _ rfl
                obtain rfl := sm (fin_ret hm)
                exact ret1v rfl (res_tmp rfl) ⟨hB.ext, vBool⟩
              · replace hf404 := im' hf404 c502
                refine ewp_skip ?_
                obtain rfl := sm hf404
                refine (?_ : Exists _)
                exact ⟨_, (), rfl, ⟨rfl, rfl, rfl, rfl, rfl, rfl, rfl, rfl, trivial⟩, _, hB, h48, h6, h9, h12, h15, h53, h22, h25, h28, h58, h35, h38, h41, h140, h126, h129, h132, h189, h175, h178, h181, h388⟩
            rintro l503 w504 ⟨s507, x508, rfl, hs506, O505, hB⟩
            replace hm := fin_done hm
            refine ewp_sub _ hs506 ?_
            refine ewp_seq ?_
            refine ewp_region ?_
            refine o_as rfl rfl  ?_
            (first | refine owp_nilT ?_ | refine owp_nilB ?_ | refine owp_nilBB ?_ | refine owp_nil ?_)
            refine ewp_ret ?_
            obtain rfl := sm hm
            exact ret1v rfl (res_tmp rfl) ⟨hB.ext, vBool⟩
end Go.Proofs.Ytdhaelekmjgbmaa

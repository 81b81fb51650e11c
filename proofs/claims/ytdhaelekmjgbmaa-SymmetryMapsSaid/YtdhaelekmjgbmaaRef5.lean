/- Own text: models of ref05's check and their proofs (written by gen2.py). -/
import Derived.Test.YtdhaelekmjgbmaaW0
namespace Go.Proofs.Ytdhaelekmjgbmaa
open Go Go.RowKit
attribute [local irreducible] ewp owp hwp hwq hws Ev Evg Fn retPost loud loudS Res1
noncomputable def m_ref05_large (x0 : Tsk) : Option Bool :=
  bnd (if 64 < (x0.vars.length : Int) then (some true) else (if 4096 < (x0.ops.length : Int) then (some true) else (if 64 < (x0.goal.length : Int) then (some true) else (some false))) : Option Bool) fun y23 => bnd (rng (ρ := Bool) (fun (k46 : Nat) (a47 : Opr) (s44 : Bool) => bnd (if s44 = true then (some true) else (if 64 < (a47.pre.length : Int) then (some true) else (if 64 < (a47.effs.length : Int) then (some true) else (some false))) : Option Bool) fun y81 => bnd (rng (ρ := Ctl Bool Bool) (fun (k102 : Nat) (a103 : Eff) (s100 : Bool) => if s100 = true then (some (.next true)) else (if 64 < (a103.cond.length : Int) then (some (.next true)) else (some (.next false)))) a47.effs 0 y81) fun res98 => fin res98 fun (s141 : Bool) => some (.next s141)) x0.ops 0 y23) fun res42 => fin res42 fun (s147 : Bool) => some s147
theorem c_ref05_large {w : World} {A : Nat → Prop} (hA : ∀ k, A k → k < w.heap.size) {vx0 : Value} {x0 : Tsk} (hx0 : Vb w A vx0 x0) {r : Bool} (hm : m_ref05_large x0 = some r) :
    Fn Try.prog 48 [vx0] w fun v w' => Ext w w' ∧ Vb w' (upA A w w') v r := by
  obtain ⟨O, hB, hA0⟩ := enter hA
  replace hx0 := hx0.mono hA0
  obtain ⟨cs1, rfl, v2, v3, v4, v5, rfl, h6, h9, h12, h15⟩ := hx0
  obtain ⟨A7, c8, rfl⟩ := h6.form
  obtain ⟨A10, c11, rfl⟩ := h9.form
  obtain ⟨A13, c14, rfl⟩ := h12.form
  obtain ⟨A16, c17, rfl⟩ := h15.form
  refine fn_enter Try.func48 rfl Try.ntmps48 rfl ?_
  unfold m_ref05_large at hm
  refine ewp_seq ?_
  refine ewp_region ?_
  refine l_box 2 O rfl rfl fun g18 w19 O20 S21 h22 => ?_
  replace h22 : Lc 2 w19 O20 g18 26 [(.slice A7 x0.vars.length c8), (.slice A10 x0.init.length c11), (.slice A13 x0.goal.length c14), (.slice A16 x0.ops.length c17)] := h22
  replace hB := hB.st S21 (fun h => h) (fun h => h)
  replace h6 := h6.st S21 (fun h => h)
  replace h9 := h9.st S21 (fun h => h)
  replace h12 := h12.st S21 (fun h => h)
  replace h15 := h15.st S21 (fun h => h)
  refine o_as rfl rfl  ?_
  (first | refine owp_nilT ?_ | refine owp_nilB ?_ | refine owp_nilBB ?_ | refine owp_nil ?_)
  refine ewp_seq ?_
  obtain ⟨y23, hy24, hm⟩ := bs hm
  refine ewp_join (fun l' w' => ∃ (x26 : Unit) (O' : Lab), subs l' [(1, (.pointer (some ⟨g18, 0, none⟩))), (3, (.bool y23))] ∧ Bs w A w' O' ∧ Lc 2 w' O' g18 26 [(.slice A7 x0.vars.length c8), (.slice A10 x0.init.length c11), (.slice A13 x0.goal.length c14), (.slice A16 x0.ops.length c17)] ∧ Vb w' (Fr 0 w' O') (.slice A7 x0.vars.length c8) x0.vars ∧ Vb w' (Fr 0 w' O') (.slice A10 x0.init.length c11) x0.init ∧ Vb w' (Fr 0 w' O') (.slice A13 x0.goal.length c14) x0.goal ∧ Vb w' (Fr 0 w' O') (.slice A16 x0.ops.length c17) x0.ops) ?_ ?_
  · skip
    refine ewp_region ?_
    refine o_fa rfl rfl  ?_
    refine o_ld (hc := Blk.cell (i := 0) (h22.1) rfl) rfl rfl  ?_
    refine o_ln rfl rfl  ?_
    have l28 : x0.vars.length ≤ 9223372036854775807 := Nat.le_trans h6.len.2.1 h6.len.2.2
    have r27 : inI64 (x0.vars.length : Int) := rngNat l28
    refine o_gtS rfl rfl rfl (fun c29 => ?_) fun c29 => ?_
    · replace hy24 := ip hy24 c29
      refine o_mv rfl rfl  ?_
      refine owp_no rfl rfl rfl rfl ?_
      refine owp_no rfl rfl rfl rfl ?_
      refine owp_no rfl rfl rfl rfl ?_
      refine owp_no rfl rfl rfl rfl ?_
      refine o_pt rfl rfl rfl  ?_
      refine o_mv rfl rfl  ?_
      refine owp_no rfl rfl rfl rfl ?_
      refine owp_no rfl rfl rfl rfl ?_
      refine owp_no rfl rfl rfl rfl ?_
      refine owp_no rfl rfl rfl rfl ?_
      refine o_pt rfl rfl rfl  ?_
      refine o_as rfl rfl  ?_
      (first | refine owp_nilT ?_ | refine owp_nilB ?_ | refine owp_nilBB ?_ | refine owp_nil ?_)
      obtain rfl := sm hy24
      exact ⟨(), _, ⟨rfl, rfl, trivial⟩, hB, h22, h6, h9, h12, h15⟩
    · replace hy24 := im hy24 c29
      refine o_mv rfl rfl  ?_
      refine owp_yes rfl rfl ?_
      refine o_fa rfl rfl  ?_
      refine owp_yes rfl rfl ?_
      refine o_ld (hc := Blk.cell (i := 3) (h22.1) rfl) rfl rfl  ?_
      refine owp_yes rfl rfl ?_
      refine o_ln rfl rfl  ?_
      have l31 : x0.ops.length ≤ 9223372036854775807 := Nat.le_trans h15.len.2.1 h15.len.2.2
      have r30 : inI64 (x0.ops.length : Int) := rngNat l31
      refine owp_yes rfl rfl ?_
      refine o_gtS rfl rfl rfl (fun c32 => ?_) fun c32 => ?_
      · replace hy24 := ip hy24 c32
        refine o_pf rfl rfl rfl  ?_
        refine o_mv rfl rfl  ?_
        refine owp_no rfl rfl rfl rfl ?_
        refine owp_no rfl rfl rfl rfl ?_
        refine owp_no rfl rfl rfl rfl ?_
        refine owp_no rfl rfl rfl rfl ?_
        refine o_pt rfl rfl rfl  ?_
        refine o_as rfl rfl  ?_
        (first | refine owp_nilT ?_ | refine owp_nilB ?_ | refine owp_nilBB ?_ | refine owp_nil ?_)
        obtain rfl := sm hy24
        exact ⟨(), _, ⟨rfl, rfl, trivial⟩, hB, h22, h6, h9, h12, h15⟩
      · replace hy24 := im hy24 c32
        refine o_pf rfl rfl rfl  ?_
        refine o_mv rfl rfl  ?_
        refine owp_yes rfl rfl ?_
        refine o_fa rfl rfl  ?_
        refine owp_yes rfl rfl ?_
        refine o_ld (hc := Blk.cell (i := 2) (h22.1) rfl) rfl rfl  ?_
        refine owp_yes rfl rfl ?_
        refine o_ln rfl rfl  ?_
        have l34 : x0.goal.length ≤ 9223372036854775807 := Nat.le_trans h12.len.2.1 h12.len.2.2
        have r33 : inI64 (x0.goal.length : Int) := rngNat l34
        refine owp_yes rfl rfl ?_
        refine o_gtS rfl rfl rfl (fun c35 => ?_) fun c35 => ?_
        · replace hy24 := ip hy24 c35
          refine o_pf rfl rfl rfl  ?_
          refine o_as rfl rfl  ?_
          (first | refine owp_nilT ?_ | refine owp_nilB ?_ | refine owp_nilBB ?_ | refine owp_nil ?_)
          obtain rfl := sm hy24
          exact ⟨(), _, ⟨rfl, rfl, trivial⟩, hB, h22, h6, h9, h12, h15⟩
        · replace hy24 := im hy24 c35
          refine o_pf rfl rfl rfl  ?_
          refine o_as rfl rfl  ?_
          (first | refine owp_nilT ?_ | refine owp_nilB ?_ | refine owp_nilBB ?_ | refine owp_nil ?_)
          obtain rfl := sm hy24
          exact ⟨(), _, ⟨rfl, rfl, trivial⟩, hB, h22, h6, h9, h12, h15⟩
  rintro l36 w37 ⟨x26, O38, hs39, hB, h22, h6, h9, h12, h15⟩
  refine ewp_sub _ hs39 ?_
  refine ewp_seq ?_
  refine ewp_seq ?_
  refine ewp_region ?_
  refine o_fa rfl rfl  ?_
  refine o_ld (hc := Blk.cell (i := 3) (h22.1) rfl) rfl rfl  ?_
  refine o_ln rfl rfl  ?_
  have l41 : x0.ops.length ≤ 9223372036854775807 := Nat.le_trans h15.len.2.1 h15.len.2.2
  have r40 : inI64 (x0.ops.length : Int) := rngNat l41
  refine o_mv rfl rfl  ?_
  (first | refine owp_nilT ?_ | refine owp_nilB ?_ | refine owp_nilBB ?_ | refine owp_nil ?_)
  obtain ⟨res42, hL43, hm⟩ := bs hm
  refine ewp_join (aft res42 (fun (s44 : Bool) (x45 : Unit) => [(3, (.bool s44))]) (fun s44 x45 w' => ∃ O' : Lab, Bs w A w' O')) ?_ ?_
  · refine ewp_block ?_
    refine ewp_rng (σ := Bool) (X := Unit) (x0.ops.length) hL43 rfl l41 (fun (s44 : Bool) (x45 : Unit) => [(3, (.bool s44)), (25, (.slice A16 x0.ops.length c17))]) _ (fun s44 x45 w' => ∃ O' : Lab, Bs w A w' O' ∧ Vb w' (Fr 0 w' O') (.slice A16 x0.ops.length c17) x0.ops) _ () ⟨O38, hB, h15⟩ ⟨rfl, rfl, rfl, rfl, trivial⟩ (fun _ _ => ⟨rfl, rfl⟩) (fun _ _ => ⟨rfl, trivial⟩) (fun _ _ _ ⟨O', hB, h15⟩ => ⟨O', hB⟩) ⟨rfl, rfl, rfl⟩ ⟨rfl, rfl⟩ ?_
    rintro k46 a47 s44 x45 w48 cc50 hx51 ⟨O49, hB, h15⟩ hf52 hret53 hbrk54
    have rk46 : inI64 (k46 : Int) := rngK hx51 l41
    refine ewp_seq ?_
    refine ewp_region ?_
    obtain ⟨b57, o58, ce59, hA60, hl61, hd62, v64, v65, rfl, h66, h69, r72, z73⟩ := h15.elem' hx51
    obtain ⟨A67, c68, rfl⟩ := h66.form
    obtain ⟨A70, c71, rfl⟩ := h69.form
    refine o_iaE (hA := hA60) (hj := rfl) (hlt := hl61) rfl rfl rfl  ?_
    refine o_la (hl := rfl) (hc := hd62) rfl rfl  ?_
    refine l_alloc 3 O49 rfl fun g74 w75 O76 S77 h78 => ?_
    replace hB := hB.st S77 (fun h => h) (fun h => h)
    replace h15 := h15.st S77 (fun h => h)
    replace h66 := h66.st S77 (fun h => h)
    replace h69 := h69.st S77 (fun h => h)
    refine l_store h78 rfl rfl rfl (Nat.le_of_ble_eq_true rfl) (by first | exact allOne rfl | simp [Value.cells, Value.oneCell', errV_one]) fun w79 S80 h78 => ?_
    replace h78 : Lc 3 w79 O76 g74 77 [(.string a47.name), (.int .i64 a47.cost), (.slice A67 a47.pre.length c68), (.slice A70 a47.effs.length c71)] := h78
    replace hB := hB.st S80 (by decide) (by decide)
    replace h66 := h66.st S80 (by decide)
    replace h69 := h69.st S80 (by decide)
    replace h15 := h15.st S80 (by decide)
    (first | refine owp_nilT ?_ | refine owp_nilB ?_ | refine owp_nilBB ?_ | refine owp_nil ?_)
    refine ewp_seq ?_
    obtain ⟨y81, hy82, hf52⟩ := bs hf52
    refine ewp_join (fun l' w' => ∃ (x84 : Unit) (O' : Lab), subs l' [(3, (.bool y81)), (5, (.pointer (some ⟨g74, 0, none⟩))), (25, (.slice A16 x0.ops.length c17)), (26, (.int .i64 (x0.ops.length : Int))), (27, (.int .i64 (k46 : Int)))] ∧ Bs w A w' O' ∧ Lc 3 w' O' g74 77 [(.string a47.name), (.int .i64 a47.cost), (.slice A67 a47.pre.length c68), (.slice A70 a47.effs.length c71)] ∧ Vb w' (Fr 0 w' O') (.slice A67 a47.pre.length c68) a47.pre ∧ Vb w' (Fr 0 w' O') (.slice A70 a47.effs.length c71) a47.effs ∧ Vb w' (Fr 0 w' O') (.slice A16 x0.ops.length c17) x0.ops) ?_ ?_
    · skip
      refine ewp_region ?_
      refine o_mv rfl rfl  ?_
      refine o_mv rfl rfl  ?_
      rcases Bool.eq_false_or_eq_true s44 with c85 | c85
      · try rw [c85]
        replace hy82 := ip hy82 c85
        refine owp_no rfl rfl rfl rfl ?_
        refine owp_no rfl rfl rfl rfl ?_
        refine owp_no rfl rfl rfl rfl ?_
        refine owp_no rfl rfl rfl rfl ?_
        refine o_pt rfl rfl rfl  ?_
        refine o_mv rfl rfl  ?_
        refine owp_no rfl rfl rfl rfl ?_
        refine owp_no rfl rfl rfl rfl ?_
        refine owp_no rfl rfl rfl rfl ?_
        refine owp_no rfl rfl rfl rfl ?_
        refine o_pt rfl rfl rfl  ?_
        refine o_as rfl rfl  ?_
        (first | refine owp_nilT ?_ | refine owp_nilB ?_ | refine owp_nilBB ?_ | refine owp_nil ?_)
        obtain rfl := sm hy82
        exact ⟨(), _, ⟨rfl, rfl, rfl, rfl, rfl, trivial⟩, hB, h78, h66, h69, h15⟩
      · try rw [c85]
        replace hy82 := im' hy82 c85
        refine owp_yes rfl rfl ?_
        refine o_fa rfl rfl  ?_
        refine owp_yes rfl rfl ?_
        refine o_ld (hc := Blk.cell (i := 2) (h78.1) rfl) rfl rfl  ?_
        refine owp_yes rfl rfl ?_
        refine o_ln rfl rfl  ?_
        have l87 : a47.pre.length ≤ 9223372036854775807 := Nat.le_trans h66.len.2.1 h66.len.2.2
        have r86 : inI64 (a47.pre.length : Int) := rngNat l87
        refine owp_yes rfl rfl ?_
        refine o_gtS rfl rfl rfl (fun c88 => ?_) fun c88 => ?_
        · replace hy82 := ip hy82 c88
          refine o_pf rfl rfl rfl  ?_
          refine o_mv rfl rfl  ?_
          refine owp_no rfl rfl rfl rfl ?_
          refine owp_no rfl rfl rfl rfl ?_
          refine owp_no rfl rfl rfl rfl ?_
          refine owp_no rfl rfl rfl rfl ?_
          refine o_pt rfl rfl rfl  ?_
          refine o_as rfl rfl  ?_
          (first | refine owp_nilT ?_ | refine owp_nilB ?_ | refine owp_nilBB ?_ | refine owp_nil ?_)
          obtain rfl := sm hy82
          exact ⟨(), _, ⟨rfl, rfl, rfl, rfl, rfl, trivial⟩, hB, h78, h66, h69, h15⟩
        · replace hy82 := im hy82 c88
          refine o_pf rfl rfl rfl  ?_
          refine o_mv rfl rfl  ?_
          refine owp_yes rfl rfl ?_
          refine o_fa rfl rfl  ?_
          refine owp_yes rfl rfl ?_
          refine o_ld (hc := Blk.cell (i := 3) (h78.1) rfl) rfl rfl  ?_
          refine owp_yes rfl rfl ?_
          refine o_ln rfl rfl  ?_
          have l90 : a47.effs.length ≤ 9223372036854775807 := Nat.le_trans h69.len.2.1 h69.len.2.2
          have r89 : inI64 (a47.effs.length : Int) := rngNat l90
          refine owp_yes rfl rfl ?_
          refine o_gtS rfl rfl rfl (fun c91 => ?_) fun c91 => ?_
          · replace hy82 := ip hy82 c91
            refine o_pf rfl rfl rfl  ?_
            refine o_as rfl rfl  ?_
            (first | refine owp_nilT ?_ | refine owp_nilB ?_ | refine owp_nilBB ?_ | refine owp_nil ?_)
            obtain rfl := sm hy82
            exact ⟨(), _, ⟨rfl, rfl, rfl, rfl, rfl, trivial⟩, hB, h78, h66, h69, h15⟩
          · replace hy82 := im hy82 c91
            refine o_pf rfl rfl rfl  ?_
            refine o_as rfl rfl  ?_
            (first | refine owp_nilT ?_ | refine owp_nilB ?_ | refine owp_nilBB ?_ | refine owp_nil ?_)
            obtain rfl := sm hy82
            exact ⟨(), _, ⟨rfl, rfl, rfl, rfl, rfl, trivial⟩, hB, h78, h66, h69, h15⟩
    rintro l92 w93 ⟨x84, O94, hs95, hB, h78, h66, h69, h15⟩
    refine ewp_sub _ hs95 ?_
    refine ewp_seq ?_
    refine ewp_region ?_
    refine o_fa rfl rfl  ?_
    refine o_ld (hc := Blk.cell (i := 3) (h78.1) rfl) rfl rfl  ?_
    refine o_ln rfl rfl  ?_
    have l97 : a47.effs.length ≤ 9223372036854775807 := Nat.le_trans h69.len.2.1 h69.len.2.2
    have r96 : inI64 (a47.effs.length : Int) := rngNat l97
    refine o_mv rfl rfl  ?_
    (first | refine owp_nilT ?_ | refine owp_nilB ?_ | refine owp_nilBB ?_ | refine owp_nil ?_)
    obtain ⟨res98, hL99, hf52⟩ := bs hf52
    refine ewp_join (aft res98 (fun (s100 : Bool) (x101 : Unit) => [(3, (.bool s100)), (25, (.slice A16 x0.ops.length c17)), (26, (.int .i64 (x0.ops.length : Int))), (27, (.int .i64 (k46 : Int)))]) (fun s100 x101 w' => ∃ O' : Lab, Bs w A w' O' ∧ Vb w' (Fr 0 w' O') (.slice A16 x0.ops.length c17) x0.ops)) ?_ ?_
    · refine ewp_block ?_
      refine ewp_rng (σ := Bool) (X := Unit) (a47.effs.length) hL99 rfl l97 (fun (s100 : Bool) (x101 : Unit) => [(3, (.bool s100)), (25, (.slice A16 x0.ops.length c17)), (26, (.int .i64 (x0.ops.length : Int))), (27, (.int .i64 (k46 : Int))), (45, (.slice A70 a47.effs.length c71))]) _ (fun s100 x101 w' => ∃ O' : Lab, Bs w A w' O' ∧ Vb w' (Fr 0 w' O') (.slice A16 x0.ops.length c17) x0.ops ∧ Vb w' (Fr 0 w' O') (.slice A70 a47.effs.length c71) a47.effs) _ () ⟨O94, hB, h15, h69⟩ ⟨rfl, rfl, rfl, rfl, rfl, rfl, rfl, trivial⟩ (fun _ _ => ⟨rfl, rfl⟩) (fun _ _ => ⟨rfl, rfl, rfl, rfl, trivial⟩) (fun _ _ _ ⟨O', hB, h15, h69⟩ => ⟨O', hB, h15⟩) ⟨rfl, rfl, rfl⟩ ⟨rfl, rfl⟩ ?_
      rintro k102 a103 s100 x101 w104 cc106 hx107 ⟨O105, hB, h15, h69⟩ hf108 hret109 hbrk110
      have rk102 : inI64 (k102 : Int) := rngK hx107 l97
      refine ewp_seq ?_
      refine ewp_region ?_
      obtain ⟨b113, o114, ce115, hA116, hl117, hd118, v120, rfl, h121, r124, r125⟩ := h69.elem' hx107
      obtain ⟨A122, c123, rfl⟩ := h121.form
      refine o_iaE (hA := hA116) (hj := rfl) (hlt := hl117) rfl rfl rfl  ?_
      refine o_la (hl := rfl) (hc := hd118) rfl rfl  ?_
      refine l_alloc 4 O105 rfl fun g126 w127 O128 S129 h130 => ?_
      replace hB := hB.st S129 (fun h => h) (fun h => h)
      replace h15 := h15.st S129 (fun h => h)
      replace h69 := h69.st S129 (fun h => h)
      replace h121 := h121.st S129 (fun h => h)
      refine l_store h130 rfl rfl rfl (Nat.le_of_ble_eq_true rfl) (by first | exact allOne rfl | simp [Value.cells, Value.oneCell', errV_one]) fun w131 S132 h130 => ?_
      replace h130 : Lc 4 w131 O128 g126 74 [(.slice A122 a103.cond.length c123), (.int .i64 a103.var), (.int .i64 a103.val)] := h130
      replace hB := hB.st S132 (by decide) (by decide)
      replace h121 := h121.st S132 (by decide)
      replace h15 := h15.st S132 (by decide)
      replace h69 := h69.st S132 (by decide)
      (first | refine owp_nilT ?_ | refine owp_nilB ?_ | refine owp_nilBB ?_ | refine owp_nil ?_)
      refine ewp_region ?_
      refine o_mv rfl rfl  ?_
      refine o_mv rfl rfl  ?_
      rcases Bool.eq_false_or_eq_true s100 with c133 | c133
      · try rw [c133]
        replace hf108 := ip hf108 c133
        refine owp_no rfl rfl rfl rfl ?_
        refine owp_no rfl rfl rfl rfl ?_
        refine owp_no rfl rfl rfl rfl ?_
        refine owp_no rfl rfl rfl rfl ?_
        refine o_pt rfl rfl rfl  ?_
        refine o_as rfl rfl  ?_
        (first | refine owp_nilT ?_ | refine owp_nilB ?_ | refine owp_nilBB ?_ | refine owp_nil ?_)
        obtain rfl := sm hf108
        refine (?_ : Exists _)
        exact ⟨_, (), rfl, ⟨rfl, rfl, rfl, rfl, rfl, rfl, rfl, trivial⟩, _, hB, h15, h69⟩
      · try rw [c133]
        replace hf108 := im' hf108 c133
        refine owp_yes rfl rfl ?_
        refine o_fa rfl rfl  ?_
        refine owp_yes rfl rfl ?_
        refine o_ld (hc := Blk.cell (i := 0) (h130.1) rfl) rfl rfl  ?_
        refine owp_yes rfl rfl ?_
        refine o_ln rfl rfl  ?_
        have l135 : a103.cond.length ≤ 9223372036854775807 := Nat.le_trans h121.len.2.1 h121.len.2.2
        have r134 : inI64 (a103.cond.length : Int) := rngNat l135
        refine owp_yes rfl rfl ?_
        refine o_gtS rfl rfl rfl (fun c136 => ?_) fun c136 => ?_
        · replace hf108 := ip hf108 c136
          refine o_pf rfl rfl rfl  ?_
          refine o_as rfl rfl  ?_
          (first | refine owp_nilT ?_ | refine owp_nilB ?_ | refine owp_nilBB ?_ | refine owp_nil ?_)
          obtain rfl := sm hf108
          refine (?_ : Exists _)
          exact ⟨_, (), rfl, ⟨rfl, rfl, rfl, rfl, rfl, rfl, rfl, trivial⟩, _, hB, h15, h69⟩
        · replace hf108 := im hf108 c136
          refine o_pf rfl rfl rfl  ?_
          refine o_as rfl rfl  ?_
          (first | refine owp_nilT ?_ | refine owp_nilB ?_ | refine owp_nilBB ?_ | refine owp_nil ?_)
          obtain rfl := sm hf108
          refine (?_ : Exists _)
          exact ⟨_, (), rfl, ⟨rfl, rfl, rfl, rfl, rfl, rfl, rfl, trivial⟩, _, hB, h15, h69⟩
    rintro l137 w138 ⟨s141, x142, rfl, hs140, O139, hB, h15⟩
    replace hf52 := fin_done hf52
    obtain rfl := sm hf52
    refine (?_ : Exists _)
    exact ⟨_, (), rfl, ⟨(subs_lk hs140 _ _ rfl), (subs_lk hs140 _ _ rfl), (subs_lk hs140 _ _ rfl), (subs_lk hs140 _ _ rfl), trivial⟩, _, hB, h15⟩
  rintro l143 w144 ⟨s147, x148, rfl, hs146, O145, hB⟩
  replace hm := fin_done hm
  refine ewp_sub _ hs146 ?_
  refine ewp_seq ?_
  refine ewp_region ?_
  refine o_mv rfl rfl  ?_
  refine o_as rfl rfl  ?_
  (first | refine owp_nilT ?_ | refine owp_nilB ?_ | refine owp_nilBB ?_ | refine owp_nil ?_)
  refine ewp_ret ?_
  obtain rfl := sm hm
  exact ret1v rfl (res_tmp rfl) ⟨hB.ext, vBool⟩
noncomputable def m_ref05_outside (x0 : Tsk) : Option Bool :=
  bnd (rng (ρ := Bool) (fun (k29 : Nat) (a30 : Int) (s27 : Bool) => if s27 = true then (some (.next true)) else (if a30 < 1 then (some (.next true)) else (if 64 < a30 then (some (.next true)) else (some (.next false))))) x0.vars 0 false) fun res25 => fin res25 fun (s55 : Bool) => bnd (rng (ρ := Bool) (fun (k63 : Nat) (a64 : Opr) (s61 : Bool) => if s61 = true then (some (.next true)) else (if a64.cost < 0 then (some (.next true)) else (if 1048576 < a64.cost then (some (.next true)) else (some (.next false))))) x0.ops 0 s55) fun res59 => fin res59 fun (s105 : Bool) => some s105
theorem c_ref05_outside {w : World} {A : Nat → Prop} (hA : ∀ k, A k → k < w.heap.size) {vx0 : Value} {x0 : Tsk} (hx0 : Vb w A vx0 x0) {r : Bool} (hm : m_ref05_outside x0 = some r) :
    Fn Try.prog 49 [vx0] w fun v w' => Ext w w' ∧ Vb w' (upA A w w') v r := by
  obtain ⟨O, hB, hA0⟩ := enter hA
  replace hx0 := hx0.mono hA0
  obtain ⟨cs1, rfl, v2, v3, v4, v5, rfl, h6, h9, h12, h15⟩ := hx0
  obtain ⟨A7, c8, rfl⟩ := h6.form
  obtain ⟨A10, c11, rfl⟩ := h9.form
  obtain ⟨A13, c14, rfl⟩ := h12.form
  obtain ⟨A16, c17, rfl⟩ := h15.form
  refine fn_enter Try.func49 rfl Try.ntmps49 rfl ?_
  unfold m_ref05_outside at hm
  refine ewp_seq ?_
  refine ewp_region ?_
  refine l_box 2 O rfl rfl fun g18 w19 O20 S21 h22 => ?_
  replace h22 : Lc 2 w19 O20 g18 26 [(.slice A7 x0.vars.length c8), (.slice A10 x0.init.length c11), (.slice A13 x0.goal.length c14), (.slice A16 x0.ops.length c17)] := h22
  replace hB := hB.st S21 (fun h => h) (fun h => h)
  replace h6 := h6.st S21 (fun h => h)
  replace h9 := h9.st S21 (fun h => h)
  replace h12 := h12.st S21 (fun h => h)
  replace h15 := h15.st S21 (fun h => h)
  refine o_as rfl rfl  ?_
  (first | refine owp_nilT ?_ | refine owp_nilB ?_ | refine owp_nilBB ?_ | refine owp_nil ?_)
  refine ewp_seq ?_
  refine ewp_region ?_
  refine o_as rfl rfl  ?_
  (first | refine owp_nilT ?_ | refine owp_nilB ?_ | refine owp_nilBB ?_ | refine owp_nil ?_)
  refine ewp_seq ?_
  refine ewp_seq ?_
  refine ewp_region ?_
  refine o_fa rfl rfl  ?_
  refine o_ld (hc := Blk.cell (i := 0) (h22.1) rfl) rfl rfl  ?_
  refine o_ln rfl rfl  ?_
  have l24 : x0.vars.length ≤ 9223372036854775807 := Nat.le_trans h6.len.2.1 h6.len.2.2
  have r23 : inI64 (x0.vars.length : Int) := rngNat l24
  refine o_mv rfl rfl  ?_
  (first | refine owp_nilT ?_ | refine owp_nilB ?_ | refine owp_nilBB ?_ | refine owp_nil ?_)
  obtain ⟨res25, hL26, hm⟩ := bs hm
  refine ewp_join (aft res25 (fun (s27 : Bool) (x28 : Unit) => [(1, (.pointer (some ⟨g18, 0, none⟩))), (3, (.bool s27))]) (fun s27 x28 w' => ∃ O' : Lab, Bs w A w' O' ∧ Lc 2 w' O' g18 26 [(.slice A7 x0.vars.length c8), (.slice A10 x0.init.length c11), (.slice A13 x0.goal.length c14), (.slice A16 x0.ops.length c17)] ∧ Vb w' (Fr 0 w' O') (.slice A7 x0.vars.length c8) x0.vars ∧ Vb w' (Fr 0 w' O') (.slice A10 x0.init.length c11) x0.init ∧ Vb w' (Fr 0 w' O') (.slice A13 x0.goal.length c14) x0.goal ∧ Vb w' (Fr 0 w' O') (.slice A16 x0.ops.length c17) x0.ops)) ?_ ?_
  · refine ewp_block ?_
    refine ewp_rng (σ := Bool) (X := Unit) (x0.vars.length) hL26 rfl l24 (fun (s27 : Bool) (x28 : Unit) => [(1, (.pointer (some ⟨g18, 0, none⟩))), (3, (.bool s27)), (9, (.slice A7 x0.vars.length c8))]) _ (fun s27 x28 w' => ∃ O' : Lab, Bs w A w' O' ∧ Lc 2 w' O' g18 26 [(.slice A7 x0.vars.length c8), (.slice A10 x0.init.length c11), (.slice A13 x0.goal.length c14), (.slice A16 x0.ops.length c17)] ∧ Vb w' (Fr 0 w' O') (.slice A7 x0.vars.length c8) x0.vars ∧ Vb w' (Fr 0 w' O') (.slice A10 x0.init.length c11) x0.init ∧ Vb w' (Fr 0 w' O') (.slice A13 x0.goal.length c14) x0.goal ∧ Vb w' (Fr 0 w' O') (.slice A16 x0.ops.length c17) x0.ops) _ () ⟨O20, hB, h22, h6, h9, h12, h15⟩ ⟨rfl, rfl, rfl, rfl, rfl, trivial⟩ (fun _ _ => ⟨rfl, rfl⟩) (fun _ _ => ⟨rfl, rfl, trivial⟩) (fun _ _ _ ⟨O', hB, h22, h6, h9, h12, h15⟩ => ⟨O', hB, h22, h6, h9, h12, h15⟩) ⟨rfl, rfl, rfl⟩ ⟨rfl, rfl⟩ ?_
    rintro k29 a30 s27 x28 w31 cc33 hx34 ⟨O32, hB, h22, h6, h9, h12, h15⟩ hf35 hret36 hbrk37
    have rk29 : inI64 (k29 : Int) := rngK hx34 l24
    refine ewp_seq ?_
    refine ewp_region ?_
    obtain ⟨b40, o41, ce42, hA43, hl44, hd45, rfl, r47⟩ := h6.elem' hx34
    refine o_iaE (hA := hA43) (hj := rfl) (hlt := hl44) rfl rfl rfl  ?_
    refine o_ld (hc := cat0 hd45) rfl rfl  ?_
    refine o_as rfl rfl  ?_
    (first | refine owp_nilT ?_ | refine owp_nilB ?_ | refine owp_nilBB ?_ | refine owp_nil ?_)
    refine ewp_region ?_
    refine o_mv rfl rfl  ?_
    refine o_mv rfl rfl  ?_
    rcases Bool.eq_false_or_eq_true s27 with c48 | c48
    · try rw [c48]
      replace hf35 := ip hf35 c48
      refine owp_no rfl rfl rfl rfl ?_
      refine owp_no rfl rfl rfl rfl ?_
      refine o_pt rfl rfl rfl  ?_
      refine o_mv rfl rfl  ?_
      refine owp_no rfl rfl rfl rfl ?_
      refine owp_no rfl rfl rfl rfl ?_
      refine o_pt rfl rfl rfl  ?_
      refine o_as rfl rfl  ?_
      (first | refine owp_nilT ?_ | refine owp_nilB ?_ | refine owp_nilBB ?_ | refine owp_nil ?_)
      obtain rfl := sm hf35
      refine (?_ : Exists _)
      exact ⟨_, (), rfl, ⟨rfl, rfl, rfl, rfl, rfl, trivial⟩, _, hB, h22, h6, h9, h12, h15⟩
    · try rw [c48]
      replace hf35 := im' hf35 c48
      refine owp_yes rfl rfl ?_
      refine o_mv rfl rfl  ?_
      refine owp_yes rfl rfl ?_
      refine o_ltS rfl rfl rfl (fun c49 => ?_) fun c49 => ?_
      · replace hf35 := ip hf35 c49
        refine o_pf rfl rfl rfl  ?_
        refine o_mv rfl rfl  ?_
        refine owp_no rfl rfl rfl rfl ?_
        refine owp_no rfl rfl rfl rfl ?_
        refine o_pt rfl rfl rfl  ?_
        refine o_as rfl rfl  ?_
        (first | refine owp_nilT ?_ | refine owp_nilB ?_ | refine owp_nilBB ?_ | refine owp_nil ?_)
        obtain rfl := sm hf35
        refine (?_ : Exists _)
        exact ⟨_, (), rfl, ⟨rfl, rfl, rfl, rfl, rfl, trivial⟩, _, hB, h22, h6, h9, h12, h15⟩
      · replace hf35 := im hf35 c49
        refine o_pf rfl rfl rfl  ?_
        refine o_mv rfl rfl  ?_
        refine owp_yes rfl rfl ?_
        refine o_mv rfl rfl  ?_
        refine owp_yes rfl rfl ?_
        refine o_gtS rfl rfl rfl (fun c50 => ?_) fun c50 => ?_
        · replace hf35 := ip hf35 c50
          refine o_pf rfl rfl rfl  ?_
          refine o_as rfl rfl  ?_
          (first | refine owp_nilT ?_ | refine owp_nilB ?_ | refine owp_nilBB ?_ | refine owp_nil ?_)
          obtain rfl := sm hf35
          refine (?_ : Exists _)
          exact ⟨_, (), rfl, ⟨rfl, rfl, rfl, rfl, rfl, trivial⟩, _, hB, h22, h6, h9, h12, h15⟩
        · replace hf35 := im hf35 c50
          refine o_pf rfl rfl rfl  ?_
          refine o_as rfl rfl  ?_
          (first | refine owp_nilT ?_ | refine owp_nilB ?_ | refine owp_nilBB ?_ | refine owp_nil ?_)
          obtain rfl := sm hf35
          refine (?_ : Exists _)
          exact ⟨_, (), rfl, ⟨rfl, rfl, rfl, rfl, rfl, trivial⟩, _, hB, h22, h6, h9, h12, h15⟩
  rintro l51 w52 ⟨s55, x56, rfl, hs54, O53, hB, h22, h6, h9, h12, h15⟩
  replace hm := fin_done hm
  refine ewp_sub _ hs54 ?_
  refine ewp_seq ?_
  refine ewp_seq ?_
  refine ewp_region ?_
  refine o_fa rfl rfl  ?_
  refine o_ld (hc := Blk.cell (i := 3) (h22.1) rfl) rfl rfl  ?_
  refine o_ln rfl rfl  ?_
  have l58 : x0.ops.length ≤ 9223372036854775807 := Nat.le_trans h15.len.2.1 h15.len.2.2
  have r57 : inI64 (x0.ops.length : Int) := rngNat l58
  refine o_mv rfl rfl  ?_
  (first | refine owp_nilT ?_ | refine owp_nilB ?_ | refine owp_nilBB ?_ | refine owp_nil ?_)
  obtain ⟨res59, hL60, hm⟩ := bs hm
  refine ewp_join (aft res59 (fun (s61 : Bool) (x62 : Unit) => [(3, (.bool s61))]) (fun s61 x62 w' => ∃ O' : Lab, Bs w A w' O')) ?_ ?_
  · refine ewp_block ?_
    refine ewp_rng (σ := Bool) (X := Unit) (x0.ops.length) hL60 rfl l58 (fun (s61 : Bool) (x62 : Unit) => [(3, (.bool s61)), (26, (.slice A16 x0.ops.length c17))]) _ (fun s61 x62 w' => ∃ O' : Lab, Bs w A w' O' ∧ Vb w' (Fr 0 w' O') (.slice A16 x0.ops.length c17) x0.ops) _ () ⟨O53, hB, h15⟩ ⟨rfl, rfl, rfl, rfl, trivial⟩ (fun _ _ => ⟨rfl, rfl⟩) (fun _ _ => ⟨rfl, trivial⟩) (fun _ _ _ ⟨O', hB, h15⟩ => ⟨O', hB⟩) ⟨rfl, rfl, rfl⟩ ⟨rfl, rfl⟩ ?_
    rintro k63 a64 s61 x62 w65 cc67 hx68 ⟨O66, hB, h15⟩ hf69 hret70 hbrk71
    have rk63 : inI64 (k63 : Int) := rngK hx68 l58
    refine ewp_seq ?_
    refine ewp_region ?_
    obtain ⟨b74, o75, ce76, hA77, hl78, hd79, v81, v82, rfl, h83, h86, r89, z90⟩ := h15.elem' hx68
    obtain ⟨A84, c85, rfl⟩ := h83.form
    obtain ⟨A87, c88, rfl⟩ := h86.form
    refine o_iaE (hA := hA77) (hj := rfl) (hlt := hl78) rfl rfl rfl  ?_
    refine o_la (hl := rfl) (hc := hd79) rfl rfl  ?_
    refine l_alloc 3 O66 rfl fun g91 w92 O93 S94 h95 => ?_
    replace hB := hB.st S94 (fun h => h) (fun h => h)
    replace h15 := h15.st S94 (fun h => h)
    replace h83 := h83.st S94 (fun h => h)
    replace h86 := h86.st S94 (fun h => h)
    refine l_store h95 rfl rfl rfl (Nat.le_of_ble_eq_true rfl) (by first | exact allOne rfl | simp [Value.cells, Value.oneCell', errV_one]) fun w96 S97 h95 => ?_
    replace h95 : Lc 3 w96 O93 g91 77 [(.string a64.name), (.int .i64 a64.cost), (.slice A84 a64.pre.length c85), (.slice A87 a64.effs.length c88)] := h95
    replace hB := hB.st S97 (by decide) (by decide)
    replace h83 := h83.st S97 (by decide)
    replace h86 := h86.st S97 (by decide)
    replace h15 := h15.st S97 (by decide)
    (first | refine owp_nilT ?_ | refine owp_nilB ?_ | refine owp_nilBB ?_ | refine owp_nil ?_)
    refine ewp_region ?_
    refine o_mv rfl rfl  ?_
    refine o_mv rfl rfl  ?_
    rcases Bool.eq_false_or_eq_true s61 with c98 | c98
    · try rw [c98]
      replace hf69 := ip hf69 c98
      refine owp_no rfl rfl rfl rfl ?_
      refine owp_no rfl rfl rfl rfl ?_
      refine owp_no rfl rfl rfl rfl ?_
      refine o_pt rfl rfl rfl  ?_
      refine o_mv rfl rfl  ?_
      refine owp_no rfl rfl rfl rfl ?_
      refine owp_no rfl rfl rfl rfl ?_
      refine owp_no rfl rfl rfl rfl ?_
      refine o_pt rfl rfl rfl  ?_
      refine o_as rfl rfl  ?_
      (first | refine owp_nilT ?_ | refine owp_nilB ?_ | refine owp_nilBB ?_ | refine owp_nil ?_)
      obtain rfl := sm hf69
      refine (?_ : Exists _)
      exact ⟨_, (), rfl, ⟨rfl, rfl, rfl, rfl, trivial⟩, _, hB, h15⟩
    · try rw [c98]
      replace hf69 := im' hf69 c98
      refine owp_yes rfl rfl ?_
      refine o_fa rfl rfl  ?_
      refine owp_yes rfl rfl ?_
      refine o_ld (hc := Blk.cell (i := 1) (h95.1) rfl) rfl rfl  ?_
      refine owp_yes rfl rfl ?_
      refine o_ltS rfl rfl rfl (fun c99 => ?_) fun c99 => ?_
      · replace hf69 := ip hf69 c99
        refine o_pf rfl rfl rfl  ?_
        refine o_mv rfl rfl  ?_
        refine owp_no rfl rfl rfl rfl ?_
        refine owp_no rfl rfl rfl rfl ?_
        refine owp_no rfl rfl rfl rfl ?_
        refine o_pt rfl rfl rfl  ?_
        refine o_as rfl rfl  ?_
        (first | refine owp_nilT ?_ | refine owp_nilB ?_ | refine owp_nilBB ?_ | refine owp_nil ?_)
        obtain rfl := sm hf69
        refine (?_ : Exists _)
        exact ⟨_, (), rfl, ⟨rfl, rfl, rfl, rfl, trivial⟩, _, hB, h15⟩
      · replace hf69 := im hf69 c99
        refine o_pf rfl rfl rfl  ?_
        refine o_mv rfl rfl  ?_
        refine owp_yes rfl rfl ?_
        refine o_fa rfl rfl  ?_
        refine owp_yes rfl rfl ?_
        refine o_ld (hc := Blk.cell (i := 1) (h95.1) rfl) rfl rfl  ?_
        refine owp_yes rfl rfl ?_
        refine o_gtS rfl rfl rfl (fun c100 => ?_) fun c100 => ?_
        · replace hf69 := ip hf69 c100
          refine o_pf rfl rfl rfl  ?_
          refine o_as rfl rfl  ?_
          (first | refine owp_nilT ?_ | refine owp_nilB ?_ | refine owp_nilBB ?_ | refine owp_nil ?_)
          obtain rfl := sm hf69
          refine (?_ : Exists _)
          exact ⟨_, (), rfl, ⟨rfl, rfl, rfl, rfl, trivial⟩, _, hB, h15⟩
        · replace hf69 := im hf69 c100
          refine o_pf rfl rfl rfl  ?_
          refine o_as rfl rfl  ?_
          (first | refine owp_nilT ?_ | refine owp_nilB ?_ | refine owp_nilBB ?_ | refine owp_nil ?_)
          obtain rfl := sm hf69
          refine (?_ : Exists _)
          exact ⟨_, (), rfl, ⟨rfl, rfl, rfl, rfl, trivial⟩, _, hB, h15⟩
  rintro l101 w102 ⟨s105, x106, rfl, hs104, O103, hB⟩
  replace hm := fin_done hm
  refine ewp_sub _ hs104 ?_
  refine ewp_seq ?_
  refine ewp_region ?_
  refine o_mv rfl rfl  ?_
  refine o_as rfl rfl  ?_
  (first | refine owp_nilT ?_ | refine owp_nilB ?_ | refine owp_nilBB ?_ | refine owp_nil ?_)
  refine ewp_ret ?_
  obtain rfl := sm hm
  exact ret1v rfl (res_tmp rfl) ⟨hB.ext, vBool⟩
noncomputable def m_ref05_malformed (x0 : Tsk) : Option Bool :=
  bnd (bnd (m_base_State x0.vars x0.init) fun q27 => if q27 = true then bnd (m_base_Proper x0.vars x0.goal) fun q34 => if q34 = true then some false else some true else some true : Option Bool) fun y23 => bnd (rng (ρ := Bool) (fun (k51 : Nat) (a52 : Opr) (s49 : Bool) => bnd (if s49 = true then (some true) else (bnd (m_base_Proper x0.vars a52.pre) fun q91 => if q91 = true then some false else some true) : Option Bool) fun y86 => bnd (rng (ρ := Ctl Bool Bool) (fun (k108 : Nat) (a109 : Eff) (s106 : Bool) => if s106 = true then (some (.next true)) else (bnd (m_base_Proper x0.vars a109.cond) fun q140 => if q140 = true then bnd (m_base_Proper x0.vars [(⟨a109.var, a109.val⟩ : Fct)]) fun q153 => if q153 = true then some (.next false) else some (.next true) else some (.next true))) a52.effs 0 y86) fun res104 => fin res104 fun (s164 : Bool) => some (.next s164)) x0.ops 0 y23) fun res47 => fin res47 fun (s170 : Bool) => some s170
theorem c_ref05_malformed {w : World} {A : Nat → Prop} (hA : ∀ k, A k → k < w.heap.size) {vx0 : Value} {x0 : Tsk} (hx0 : Vb w A vx0 x0) {r : Bool} (hm : m_ref05_malformed x0 = some r) :
    Fn Try.prog 50 [vx0] w fun v w' => Ext w w' ∧ Vb w' (upA A w w') v r := by
  obtain ⟨O, hB, hA0⟩ := enter hA
  replace hx0 := hx0.mono hA0
  obtain ⟨cs1, rfl, v2, v3, v4, v5, rfl, h6, h9, h12, h15⟩ := hx0
  obtain ⟨A7, c8, rfl⟩ := h6.form
  obtain ⟨A10, c11, rfl⟩ := h9.form
  obtain ⟨A13, c14, rfl⟩ := h12.form
  obtain ⟨A16, c17, rfl⟩ := h15.form
  refine fn_enter Try.func50 rfl Try.ntmps50 rfl ?_
  unfold m_ref05_malformed at hm
  refine ewp_seq ?_
  refine ewp_region ?_
  refine l_box 2 O rfl rfl fun g18 w19 O20 S21 h22 => ?_
  replace h22 : Lc 2 w19 O20 g18 26 [(.slice A7 x0.vars.length c8), (.slice A10 x0.init.length c11), (.slice A13 x0.goal.length c14), (.slice A16 x0.ops.length c17)] := h22
  replace hB := hB.st S21 (fun h => h) (fun h => h)
  replace h6 := h6.st S21 (fun h => h)
  replace h9 := h9.st S21 (fun h => h)
  replace h12 := h12.st S21 (fun h => h)
  replace h15 := h15.st S21 (fun h => h)
  refine o_as rfl rfl  ?_
  (first | refine owp_nilT ?_ | refine owp_nilB ?_ | refine owp_nilBB ?_ | refine owp_nil ?_)
  refine ewp_seq ?_
  obtain ⟨y23, hy24, hm⟩ := bs hm
  refine ewp_join (fun l' w' => ∃ (x26 : Unit) (O' : Lab), subs l' [(1, (.pointer (some ⟨g18, 0, none⟩))), (3, (.bool y23))] ∧ Bs w A w' O' ∧ Lc 2 w' O' g18 26 [(.slice A7 x0.vars.length c8), (.slice A10 x0.init.length c11), (.slice A13 x0.goal.length c14), (.slice A16 x0.ops.length c17)] ∧ Vb w' (Fr 0 w' O') (.slice A7 x0.vars.length c8) x0.vars ∧ Vb w' (Fr 0 w' O') (.slice A10 x0.init.length c11) x0.init ∧ Vb w' (Fr 0 w' O') (.slice A13 x0.goal.length c14) x0.goal ∧ Vb w' (Fr 0 w' O') (.slice A16 x0.ops.length c17) x0.ops) ?_ ?_
  · skip
    refine ewp_region ?_
    refine o_fa rfl rfl  ?_
    refine o_ld (hc := Blk.cell (i := 0) (h22.1) rfl) rfl rfl  ?_
    refine o_fa rfl rfl  ?_
    refine o_ld (hc := Blk.cell (i := 1) (h22.1) rfl) rfl rfl  ?_
    obtain ⟨q27, e28, hy24⟩ := bs hy24
    refine l_callA (O := O20) (A := All w19) (R := fun w' F v => Vb w' F v q27) (c_base_State (fun _ h => h) (Vb.mono (F := Fr 0 w19 O20) h6 Fr.lt) (Vb.mono (F := Fr 0 w19 O20) h9 Fr.lt) e28) rfl rfl fun v33 w29 O30 S31 h32 => ?_
    obtain rfl := h32.bool
    replace hB := hB.st S31 (fun h => h) (fun h => h)
    replace h22 := h22.st S31 (fun h => h)
    replace h6 := h6.st S31 (fun h => h)
    replace h9 := h9.st S31 (fun h => h)
    replace h12 := h12.st S31 (fun h => h)
    replace h15 := h15.st S31 (fun h => h)
    cases q27
    case false =>
      replace hy24 := iF hy24
      refine o_nf rfl rfl  ?_
      refine o_mv rfl rfl  ?_
      refine owp_no rfl rfl rfl rfl ?_
      refine owp_no rfl rfl rfl rfl ?_
      refine owp_no rfl rfl rfl rfl ?_
      refine owp_no rfl rfl rfl rfl ?_
      refine owp_no rfl rfl rfl rfl ?_
      refine owp_no rfl rfl rfl rfl ?_
      refine o_pt rfl rfl rfl  ?_
      refine o_as rfl rfl  ?_
      (first | refine owp_nilT ?_ | refine owp_nilB ?_ | refine owp_nilBB ?_ | refine owp_nil ?_)
      obtain rfl := sm hy24
      exact ⟨(), _, ⟨rfl, rfl, trivial⟩, hB, h22, h6, h9, h12, h15⟩
    replace hy24 := iT hy24
    refine o_nt rfl rfl  ?_
    refine o_mv rfl rfl  ?_
    refine owp_yes rfl rfl ?_
    refine o_fa rfl rfl  ?_
    refine owp_yes rfl rfl ?_
    refine o_ld (hc := Blk.cell (i := 0) (h22.1) rfl) rfl rfl  ?_
    refine owp_yes rfl rfl ?_
    refine o_fa rfl rfl  ?_
    refine owp_yes rfl rfl ?_
    refine o_ld (hc := Blk.cell (i := 2) (h22.1) rfl) rfl rfl  ?_
    refine owp_yes rfl rfl ?_
    obtain ⟨q34, e35, hy24⟩ := bs hy24
    refine l_callA (O := O30) (A := All w29) (R := fun w' F v => Vb w' F v q34) (c_base_Proper (fun _ h => h) (Vb.mono (F := Fr 0 w29 O30) h6 Fr.lt) (Vb.mono (F := Fr 0 w29 O30) h12 Fr.lt) e35) rfl rfl fun v40 w36 O37 S38 h39 => ?_
    obtain rfl := h39.bool
    replace hB := hB.st S38 (fun h => h) (fun h => h)
    replace h22 := h22.st S38 (fun h => h)
    replace h6 := h6.st S38 (fun h => h)
    replace h9 := h9.st S38 (fun h => h)
    replace h12 := h12.st S38 (fun h => h)
    replace h15 := h15.st S38 (fun h => h)
    cases q34
    case false =>
      replace hy24 := iF hy24
      refine owp_yes rfl rfl ?_
      refine o_nf rfl rfl  ?_
      refine o_pf rfl rfl rfl  ?_
      refine o_as rfl rfl  ?_
      (first | refine owp_nilT ?_ | refine owp_nilB ?_ | refine owp_nilBB ?_ | refine owp_nil ?_)
      obtain rfl := sm hy24
      exact ⟨(), _, ⟨rfl, rfl, trivial⟩, hB, h22, h6, h9, h12, h15⟩
    replace hy24 := iT hy24
    refine owp_yes rfl rfl ?_
    refine o_nt rfl rfl  ?_
    refine o_pf rfl rfl rfl  ?_
    refine o_as rfl rfl  ?_
    (first | refine owp_nilT ?_ | refine owp_nilB ?_ | refine owp_nilBB ?_ | refine owp_nil ?_)
    obtain rfl := sm hy24
    exact ⟨(), _, ⟨rfl, rfl, trivial⟩, hB, h22, h6, h9, h12, h15⟩
  rintro l41 w42 ⟨x26, O43, hs44, hB, h22, h6, h9, h12, h15⟩
  refine ewp_sub _ hs44 ?_
  refine ewp_seq ?_
  refine ewp_seq ?_
  refine ewp_region ?_
  refine o_fa rfl rfl  ?_
  refine o_ld (hc := Blk.cell (i := 3) (h22.1) rfl) rfl rfl  ?_
  refine o_ln rfl rfl  ?_
  have l46 : x0.ops.length ≤ 9223372036854775807 := Nat.le_trans h15.len.2.1 h15.len.2.2
  have r45 : inI64 (x0.ops.length : Int) := rngNat l46
  refine o_mv rfl rfl  ?_
  (first | refine owp_nilT ?_ | refine owp_nilB ?_ | refine owp_nilBB ?_ | refine owp_nil ?_)
  obtain ⟨res47, hL48, hm⟩ := bs hm
  refine ewp_join (aft res47 (fun (s49 : Bool) (x50 : Unit) => [(3, (.bool s49))]) (fun s49 x50 w' => ∃ O' : Lab, Bs w A w' O')) ?_ ?_
  · refine ewp_block ?_
    refine ewp_rng (σ := Bool) (X := Unit) (x0.ops.length) hL48 rfl l46 (fun (s49 : Bool) (x50 : Unit) => [(1, (.pointer (some ⟨g18, 0, none⟩))), (3, (.bool s49)), (23, (.slice A16 x0.ops.length c17))]) _ (fun s49 x50 w' => ∃ O' : Lab, Bs w A w' O' ∧ Lc 2 w' O' g18 26 [(.slice A7 x0.vars.length c8), (.slice A10 x0.init.length c11), (.slice A13 x0.goal.length c14), (.slice A16 x0.ops.length c17)] ∧ Vb w' (Fr 0 w' O') (.slice A7 x0.vars.length c8) x0.vars ∧ Vb w' (Fr 0 w' O') (.slice A10 x0.init.length c11) x0.init ∧ Vb w' (Fr 0 w' O') (.slice A13 x0.goal.length c14) x0.goal ∧ Vb w' (Fr 0 w' O') (.slice A16 x0.ops.length c17) x0.ops) _ () ⟨O43, hB, h22, h6, h9, h12, h15⟩ ⟨rfl, rfl, rfl, rfl, rfl, trivial⟩ (fun _ _ => ⟨rfl, rfl⟩) (fun _ _ => ⟨rfl, trivial⟩) (fun _ _ _ ⟨O', hB, h22, h6, h9, h12, h15⟩ => ⟨O', hB⟩) ⟨rfl, rfl, rfl⟩ ⟨rfl, rfl⟩ ?_
    rintro k51 a52 s49 x50 w53 cc55 hx56 ⟨O54, hB, h22, h6, h9, h12, h15⟩ hf57 hret58 hbrk59
    have rk51 : inI64 (k51 : Int) := rngK hx56 l46
    refine ewp_seq ?_
    refine ewp_region ?_
    obtain ⟨b62, o63, ce64, hA65, hl66, hd67, v69, v70, rfl, h71, h74, r77, z78⟩ := h15.elem' hx56
    obtain ⟨A72, c73, rfl⟩ := h71.form
    obtain ⟨A75, c76, rfl⟩ := h74.form
    refine o_iaE (hA := hA65) (hj := rfl) (hlt := hl66) rfl rfl rfl  ?_
    refine o_la (hl := rfl) (hc := hd67) rfl rfl  ?_
    refine l_alloc 3 O54 rfl fun g79 w80 O81 S82 h83 => ?_
    replace hB := hB.st S82 (fun h => h) (fun h => h)
    replace h22 := h22.st S82 (fun h => h)
    replace h6 := h6.st S82 (fun h => h)
    replace h9 := h9.st S82 (fun h => h)
    replace h12 := h12.st S82 (fun h => h)
    replace h15 := h15.st S82 (fun h => h)
    replace h71 := h71.st S82 (fun h => h)
    replace h74 := h74.st S82 (fun h => h)
    refine l_store h83 rfl rfl rfl (Nat.le_of_ble_eq_true rfl) (by first | exact allOne rfl | simp [Value.cells, Value.oneCell', errV_one]) fun w84 S85 h83 => ?_
    replace h83 : Lc 3 w84 O81 g79 77 [(.string a52.name), (.int .i64 a52.cost), (.slice A72 a52.pre.length c73), (.slice A75 a52.effs.length c76)] := h83
    replace hB := hB.st S85 (by decide) (by decide)
    replace h22 := h22.st S85 (by decide)
    replace h6 := h6.st S85 (by decide)
    replace h9 := h9.st S85 (by decide)
    replace h12 := h12.st S85 (by decide)
    replace h15 := h15.st S85 (by decide)
    replace h71 := h71.st S85 (by decide)
    replace h74 := h74.st S85 (by decide)
    (first | refine owp_nilT ?_ | refine owp_nilB ?_ | refine owp_nilBB ?_ | refine owp_nil ?_)
    refine ewp_seq ?_
    obtain ⟨y86, hy87, hf57⟩ := bs hf57
    refine ewp_join (fun l' w' => ∃ (x89 : Unit) (O' : Lab), subs l' [(1, (.pointer (some ⟨g18, 0, none⟩))), (3, (.bool y86)), (5, (.pointer (some ⟨g79, 0, none⟩))), (23, (.slice A16 x0.ops.length c17)), (24, (.int .i64 (x0.ops.length : Int))), (25, (.int .i64 (k51 : Int)))] ∧ Bs w A w' O' ∧ Lc 2 w' O' g18 26 [(.slice A7 x0.vars.length c8), (.slice A10 x0.init.length c11), (.slice A13 x0.goal.length c14), (.slice A16 x0.ops.length c17)] ∧ Vb w' (Fr 0 w' O') (.slice A7 x0.vars.length c8) x0.vars ∧ Vb w' (Fr 0 w' O') (.slice A10 x0.init.length c11) x0.init ∧ Vb w' (Fr 0 w' O') (.slice A13 x0.goal.length c14) x0.goal ∧ Vb w' (Fr 0 w' O') (.slice A16 x0.ops.length c17) x0.ops ∧ Lc 3 w' O' g79 77 [(.string a52.name), (.int .i64 a52.cost), (.slice A72 a52.pre.length c73), (.slice A75 a52.effs.length c76)] ∧ Vb w' (Fr 0 w' O') (.slice A72 a52.pre.length c73) a52.pre ∧ Vb w' (Fr 0 w' O') (.slice A75 a52.effs.length c76) a52.effs) ?_ ?_
    · skip
      refine ewp_region ?_
      refine o_mv rfl rfl  ?_
      refine o_mv rfl rfl  ?_
      rcases Bool.eq_false_or_eq_true s49 with c90 | c90
      · try rw [c90]
        replace hy87 := ip hy87 c90
        refine owp_no rfl rfl rfl rfl ?_
        refine owp_no rfl rfl rfl rfl ?_
        refine owp_no rfl rfl rfl rfl ?_
        refine owp_no rfl rfl rfl rfl ?_
        refine owp_no rfl rfl rfl rfl ?_
        refine owp_no rfl rfl rfl rfl ?_
        refine o_pt rfl rfl rfl  ?_
        refine o_as rfl rfl  ?_
        (first | refine owp_nilT ?_ | refine owp_nilB ?_ | refine owp_nilBB ?_ | refine owp_nil ?_)
        obtain rfl := sm hy87
        exact ⟨(), _, ⟨rfl, rfl, rfl, rfl, rfl, rfl, trivial⟩, hB, h22, h6, h9, h12, h15, h83, h71, h74⟩
      · try rw [c90]
        replace hy87 := im' hy87 c90
        refine owp_yes rfl rfl ?_
        refine o_fa rfl rfl  ?_
        refine owp_yes rfl rfl ?_
        refine o_ld (hc := Blk.cell (i := 0) (h22.1) rfl) rfl rfl  ?_
        refine owp_yes rfl rfl ?_
        refine o_fa rfl rfl  ?_
        refine owp_yes rfl rfl ?_
        refine o_ld (hc := Blk.cell (i := 2) (h83.1) rfl) rfl rfl  ?_
        refine owp_yes rfl rfl ?_
        obtain ⟨q91, e92, hy87⟩ := bs hy87
        refine l_callA (O := O81) (A := All w84) (R := fun w' F v => Vb w' F v q91) (c_base_Proper (fun _ h => h) (Vb.mono (F := Fr 0 w84 O81) h6 Fr.lt) (Vb.mono (F := Fr 0 w84 O81) h71 Fr.lt) e92) rfl rfl fun v97 w93 O94 S95 h96 => ?_
        obtain rfl := h96.bool
        replace hB := hB.st S95 (fun h => h) (fun h => h)
        replace h22 := h22.st S95 (fun h => h)
        replace h6 := h6.st S95 (fun h => h)
        replace h9 := h9.st S95 (fun h => h)
        replace h12 := h12.st S95 (fun h => h)
        replace h15 := h15.st S95 (fun h => h)
        replace h83 := h83.st S95 (fun h => h)
        replace h71 := h71.st S95 (fun h => h)
        replace h74 := h74.st S95 (fun h => h)
        cases q91
        case false =>
          replace hy87 := iF hy87
          refine owp_yes rfl rfl ?_
          refine o_nf rfl rfl  ?_
          refine o_pf rfl rfl rfl  ?_
          refine o_as rfl rfl  ?_
          (first | refine owp_nilT ?_ | refine owp_nilB ?_ | refine owp_nilBB ?_ | refine owp_nil ?_)
          obtain rfl := sm hy87
          exact ⟨(), _, ⟨rfl, rfl, rfl, rfl, rfl, rfl, trivial⟩, hB, h22, h6, h9, h12, h15, h83, h71, h74⟩
        replace hy87 := iT hy87
        refine owp_yes rfl rfl ?_
        refine o_nt rfl rfl  ?_
        refine o_pf rfl rfl rfl  ?_
        refine o_as rfl rfl  ?_
        (first | refine owp_nilT ?_ | refine owp_nilB ?_ | refine owp_nilBB ?_ | refine owp_nil ?_)
        obtain rfl := sm hy87
        exact ⟨(), _, ⟨rfl, rfl, rfl, rfl, rfl, rfl, trivial⟩, hB, h22, h6, h9, h12, h15, h83, h71, h74⟩
    rintro l98 w99 ⟨x89, O100, hs101, hB, h22, h6, h9, h12, h15, h83, h71, h74⟩
    refine ewp_sub _ hs101 ?_
    refine ewp_seq ?_
    refine ewp_region ?_
    refine o_fa rfl rfl  ?_
    refine o_ld (hc := Blk.cell (i := 3) (h83.1) rfl) rfl rfl  ?_
    refine o_ln rfl rfl  ?_
    have l103 : a52.effs.length ≤ 9223372036854775807 := Nat.le_trans h74.len.2.1 h74.len.2.2
    have r102 : inI64 (a52.effs.length : Int) := rngNat l103
    refine o_mv rfl rfl  ?_
    (first | refine owp_nilT ?_ | refine owp_nilB ?_ | refine owp_nilBB ?_ | refine owp_nil ?_)
    obtain ⟨res104, hL105, hf57⟩ := bs hf57
    refine ewp_join (aft res104 (fun (s106 : Bool) (x107 : Unit) => [(1, (.pointer (some ⟨g18, 0, none⟩))), (3, (.bool s106)), (23, (.slice A16 x0.ops.length c17)), (24, (.int .i64 (x0.ops.length : Int))), (25, (.int .i64 (k51 : Int)))]) (fun s106 x107 w' => ∃ O' : Lab, Bs w A w' O' ∧ Lc 2 w' O' g18 26 [(.slice A7 x0.vars.length c8), (.slice A10 x0.init.length c11), (.slice A13 x0.goal.length c14), (.slice A16 x0.ops.length c17)] ∧ Vb w' (Fr 0 w' O') (.slice A7 x0.vars.length c8) x0.vars ∧ Vb w' (Fr 0 w' O') (.slice A10 x0.init.length c11) x0.init ∧ Vb w' (Fr 0 w' O') (.slice A13 x0.goal.length c14) x0.goal ∧ Vb w' (Fr 0 w' O') (.slice A16 x0.ops.length c17) x0.ops)) ?_ ?_
    · refine ewp_block ?_
      refine ewp_rng (σ := Bool) (X := Unit) (a52.effs.length) hL105 rfl l103 (fun (s106 : Bool) (x107 : Unit) => [(1, (.pointer (some ⟨g18, 0, none⟩))), (3, (.bool s106)), (23, (.slice A16 x0.ops.length c17)), (24, (.int .i64 (x0.ops.length : Int))), (25, (.int .i64 (k51 : Int))), (39, (.slice A75 a52.effs.length c76))]) _ (fun s106 x107 w' => ∃ O' : Lab, Bs w A w' O' ∧ Lc 2 w' O' g18 26 [(.slice A7 x0.vars.length c8), (.slice A10 x0.init.length c11), (.slice A13 x0.goal.length c14), (.slice A16 x0.ops.length c17)] ∧ Vb w' (Fr 0 w' O') (.slice A7 x0.vars.length c8) x0.vars ∧ Vb w' (Fr 0 w' O') (.slice A10 x0.init.length c11) x0.init ∧ Vb w' (Fr 0 w' O') (.slice A13 x0.goal.length c14) x0.goal ∧ Vb w' (Fr 0 w' O') (.slice A16 x0.ops.length c17) x0.ops ∧ Vb w' (Fr 0 w' O') (.slice A75 a52.effs.length c76) a52.effs) _ () ⟨O100, hB, h22, h6, h9, h12, h15, h74⟩ ⟨rfl, rfl, rfl, rfl, rfl, rfl, rfl, rfl, trivial⟩ (fun _ _ => ⟨rfl, rfl⟩) (fun _ _ => ⟨rfl, rfl, rfl, rfl, rfl, trivial⟩) (fun _ _ _ ⟨O', hB, h22, h6, h9, h12, h15, h74⟩ => ⟨O', hB, h22, h6, h9, h12, h15⟩) ⟨rfl, rfl, rfl⟩ ⟨rfl, rfl⟩ ?_
      rintro k108 a109 s106 x107 w110 cc112 hx113 ⟨O111, hB, h22, h6, h9, h12, h15, h74⟩ hf114 hret115 hbrk116
      have rk108 : inI64 (k108 : Int) := rngK hx113 l103
      refine ewp_seq ?_
      refine ewp_region ?_
      obtain ⟨b119, o120, ce121, hA122, hl123, hd124, v126, rfl, h127, r130, r131⟩ := h74.elem' hx113
      obtain ⟨A128, c129, rfl⟩ := h127.form
      refine o_iaE (hA := hA122) (hj := rfl) (hlt := hl123) rfl rfl rfl  ?_
      refine o_la (hl := rfl) (hc := hd124) rfl rfl  ?_
      refine l_alloc 4 O111 rfl fun g132 w133 O134 S135 h136 => ?_
      replace hB := hB.st S135 (fun h => h) (fun h => h)
      replace h22 := h22.st S135 (fun h => h)
      replace h6 := h6.st S135 (fun h => h)
      replace h9 := h9.st S135 (fun h => h)
      replace h12 := h12.st S135 (fun h => h)
      replace h15 := h15.st S135 (fun h => h)
      replace h74 := h74.st S135 (fun h => h)
      replace h127 := h127.st S135 (fun h => h)
      refine l_store h136 rfl rfl rfl (Nat.le_of_ble_eq_true rfl) (by first | exact allOne rfl | simp [Value.cells, Value.oneCell', errV_one]) fun w137 S138 h136 => ?_
      replace h136 : Lc 4 w137 O134 g132 74 [(.slice A128 a109.cond.length c129), (.int .i64 a109.var), (.int .i64 a109.val)] := h136
      replace hB := hB.st S138 (by decide) (by decide)
      replace h22 := h22.st S138 (by decide)
      replace h6 := h6.st S138 (by decide)
      replace h9 := h9.st S138 (by decide)
      replace h12 := h12.st S138 (by decide)
      replace h15 := h15.st S138 (by decide)
      replace h127 := h127.st S138 (by decide)
      replace h74 := h74.st S138 (by decide)
      (first | refine owp_nilT ?_ | refine owp_nilB ?_ | refine owp_nilBB ?_ | refine owp_nil ?_)
      refine ewp_region ?_
      refine o_mv rfl rfl  ?_
      refine o_mv rfl rfl  ?_
      rcases Bool.eq_false_or_eq_true s106 with c139 | c139
      · try rw [c139]
        replace hf114 := ip hf114 c139
        refine owp_no rfl rfl rfl rfl ?_
        refine owp_no rfl rfl rfl rfl ?_
        refine owp_no rfl rfl rfl rfl ?_
        refine owp_no rfl rfl rfl rfl ?_
        refine owp_no rfl rfl rfl rfl ?_
        refine owp_no rfl rfl rfl rfl ?_
        refine o_pt rfl rfl rfl  ?_
        refine o_mv rfl rfl  ?_
        refine owp_no rfl rfl rfl rfl ?_
        refine owp_no rfl rfl rfl rfl ?_
        refine owp_no rfl rfl rfl rfl ?_
        refine owp_no rfl rfl rfl rfl ?_
        refine owp_no rfl rfl rfl rfl ?_
        refine owp_no rfl rfl rfl rfl ?_
        refine owp_no rfl rfl rfl rfl ?_
        refine owp_no rfl rfl rfl rfl ?_
        refine owp_no rfl rfl rfl rfl ?_
        refine owp_no rfl rfl rfl rfl ?_
        refine o_pt rfl rfl rfl  ?_
        refine o_as rfl rfl  ?_
        (first | refine owp_nilT ?_ | refine owp_nilB ?_ | refine owp_nilBB ?_ | refine owp_nil ?_)
        obtain rfl := sm hf114
        refine (?_ : Exists _)
        exact ⟨_, (), rfl, ⟨rfl, rfl, rfl, rfl, rfl, rfl, rfl, rfl, trivial⟩, _, hB, h22, h6, h9, h12, h15, h74⟩
      · try rw [c139]
        replace hf114 := im' hf114 c139
        refine owp_yes rfl rfl ?_
        refine o_fa rfl rfl  ?_
        refine owp_yes rfl rfl ?_
        refine o_ld (hc := Blk.cell (i := 0) (h22.1) rfl) rfl rfl  ?_
        refine owp_yes rfl rfl ?_
        refine o_fa rfl rfl  ?_
        refine owp_yes rfl rfl ?_
        refine o_ld (hc := Blk.cell (i := 0) (h136.1) rfl) rfl rfl  ?_
        refine owp_yes rfl rfl ?_
        obtain ⟨q140, e141, hf114⟩ := bs hf114
        refine l_callA (O := O134) (A := All w137) (R := fun w' F v => Vb w' F v q140) (c_base_Proper (fun _ h => h) (Vb.mono (F := Fr 0 w137 O134) h6 Fr.lt) (Vb.mono (F := Fr 0 w137 O134) h127 Fr.lt) e141) rfl rfl fun v146 w142 O143 S144 h145 => ?_
        obtain rfl := h145.bool
        replace hB := hB.st S144 (fun h => h) (fun h => h)
        replace h22 := h22.st S144 (fun h => h)
        replace h6 := h6.st S144 (fun h => h)
        replace h9 := h9.st S144 (fun h => h)
        replace h12 := h12.st S144 (fun h => h)
        replace h15 := h15.st S144 (fun h => h)
        replace h136 := h136.st S144 (fun h => h)
        replace h127 := h127.st S144 (fun h => h)
        replace h74 := h74.st S144 (fun h => h)
        cases q140
        case false =>
          replace hf114 := iF hf114
          refine owp_yes rfl rfl ?_
          refine o_nf rfl rfl  ?_
          refine o_pf rfl rfl rfl  ?_
          refine o_mv rfl rfl  ?_
          refine owp_no rfl rfl rfl rfl ?_
          refine owp_no rfl rfl rfl rfl ?_
          refine owp_no rfl rfl rfl rfl ?_
          refine owp_no rfl rfl rfl rfl ?_
          refine owp_no rfl rfl rfl rfl ?_
          refine owp_no rfl rfl rfl rfl ?_
          refine owp_no rfl rfl rfl rfl ?_
          refine owp_no rfl rfl rfl rfl ?_
          refine owp_no rfl rfl rfl rfl ?_
          refine owp_no rfl rfl rfl rfl ?_
          refine o_pt rfl rfl rfl  ?_
          refine o_as rfl rfl  ?_
          (first | refine owp_nilT ?_ | refine owp_nilB ?_ | refine owp_nilBB ?_ | refine owp_nil ?_)
          obtain rfl := sm hf114
          refine (?_ : Exists _)
          exact ⟨_, (), rfl, ⟨rfl, rfl, rfl, rfl, rfl, rfl, rfl, rfl, trivial⟩, _, hB, h22, h6, h9, h12, h15, h74⟩
        replace hf114 := iT hf114
        refine owp_yes rfl rfl ?_
        refine o_nt rfl rfl  ?_
        refine o_pf rfl rfl rfl  ?_
        refine o_mv rfl rfl  ?_
        refine owp_yes rfl rfl ?_
        refine o_fa rfl rfl  ?_
        refine owp_yes rfl rfl ?_
        refine o_ld (hc := Blk.cell (i := 0) (h22.1) rfl) rfl rfl  ?_
        refine owp_yes rfl rfl ?_
        refine o_fa rfl rfl  ?_
        refine owp_yes rfl rfl ?_
        refine o_ld (hc := Blk.cell (i := 1) (h136.1) rfl) rfl rfl  ?_
        refine owp_yes rfl rfl ?_
        refine o_fa rfl rfl  ?_
        refine owp_yes rfl rfl ?_
        refine o_ld (hc := Blk.cell (i := 2) (h136.1) rfl) rfl rfl  ?_
        refine owp_yes rfl rfl ?_
        refine o_bd rfl rfl rfl  ?_
        refine owp_yes rfl rfl ?_
        refine l_bslice 5 (by decide) O143 (xs := ([(⟨a109.var, a109.val⟩ : Fct)] : List Fct)) rfl rfl rfl rfl ⟨(Vb.ofAgg (cs := [(.int .i64 a109.var), (.int .i64 a109.val)]) (x := (⟨a109.var, a109.val⟩ : Fct)) rfl ⟨rfl, r130, r131⟩), trivial⟩ (by decide) (by decide) rfl fun g147 w148 O149 S150 h151 => ?_
        replace hB := hB.st S150 (fun h => h) (fun h => h)
        replace h22 := h22.st S150 (fun h => h)
        replace h6 := h6.st S150 (fun h => h)
        replace h9 := h9.st S150 (fun h => h)
        replace h12 := h12.st S150 (fun h => h)
        replace h15 := h15.st S150 (fun h => h)
        replace h74 := h74.st S150 (fun h => h)
        refine owp_yes rfl rfl ?_
        obtain ⟨q153, e154, hf114⟩ := bs hf114
        refine l_callA (O := O149) (A := All w148) (R := fun w' F v => Vb w' F v q153) (c_base_Proper (fun _ h => h) (Vb.mono (F := Fr 0 w148 O149) h6 Fr.lt) (h151).all e154) rfl rfl fun v159 w155 O156 S157 h158 => ?_
        obtain rfl := h158.bool
        replace hB := hB.st S157 (fun h => h) (fun h => h)
        replace h22 := h22.st S157 (fun h => h)
        replace h6 := h6.st S157 (fun h => h)
        replace h9 := h9.st S157 (fun h => h)
        replace h12 := h12.st S157 (fun h => h)
        replace h15 := h15.st S157 (fun h => h)
        replace h74 := h74.st S157 (fun h => h)
        cases q153
        case false =>
          replace hf114 := iF hf114
          refine owp_yes rfl rfl ?_
          refine o_nf rfl rfl  ?_
          refine o_pf rfl rfl rfl  ?_
          refine o_as rfl rfl  ?_
          (first | refine owp_nilT ?_ | refine owp_nilB ?_ | refine owp_nilBB ?_ | refine owp_nil ?_)
          obtain rfl := sm hf114
          refine (?_ : Exists _)
          exact ⟨_, (), rfl, ⟨rfl, rfl, rfl, rfl, rfl, rfl, rfl, rfl, trivial⟩, _, hB, h22, h6, h9, h12, h15, h74⟩
        replace hf114 := iT hf114
        refine owp_yes rfl rfl ?_
        refine o_nt rfl rfl  ?_
        refine o_pf rfl rfl rfl  ?_
        refine o_as rfl rfl  ?_
        (first | refine owp_nilT ?_ | refine owp_nilB ?_ | refine owp_nilBB ?_ | refine owp_nil ?_)
        obtain rfl := sm hf114
        refine (?_ : Exists _)
        exact ⟨_, (), rfl, ⟨rfl, rfl, rfl, rfl, rfl, rfl, rfl, rfl, trivial⟩, _, hB, h22, h6, h9, h12, h15, h74⟩
    rintro l160 w161 ⟨s164, x165, rfl, hs163, O162, hB, h22, h6, h9, h12, h15⟩
    replace hf57 := fin_done hf57
    obtain rfl := sm hf57
    refine (?_ : Exists _)
    exact ⟨_, (), rfl, ⟨(subs_lk hs163 _ _ rfl), (subs_lk hs163 _ _ rfl), (subs_lk hs163 _ _ rfl), (subs_lk hs163 _ _ rfl), (subs_lk hs163 _ _ rfl), trivial⟩, _, hB, h22, h6, h9, h12, h15⟩
  rintro l166 w167 ⟨s170, x171, rfl, hs169, O168, hB⟩
  replace hm := fin_done hm
  refine ewp_sub _ hs169 ?_
  refine ewp_seq ?_
  refine ewp_region ?_
  refine o_mv rfl rfl  ?_
  refine o_as rfl rfl  ?_
  (first | refine owp_nilT ?_ | refine owp_nilB ?_ | refine owp_nilBB ?_ | refine owp_nil ?_)
  refine ewp_ret ?_
  obtain rfl := sm hm
  exact ret1v rfl (res_tmp rfl) ⟨hB.ext, vBool⟩
noncomputable def m_ref05_misnamed (x0 : Tsk) : Option Bool :=
  bnd (rng (ρ := Bool) (fun (k29 : Nat) (a30 : Opr) (s27 : Bool) => bnd (if s27 = true then (some true) else (if 256 < (a30.name.size : Int) then (some true) else (some false)) : Option Bool) fun y64 => bnd (rngN (ρ := Ctl Bool Bool) (fun (k80 : Nat) (s78 : Bool) => if s78 = true then (some (.next true)) else (bnd (bytI a30.name (k80 : Int)) fun n92 => if n92 < 32 then (some (.next true)) else (bnd (bytI a30.name (k80 : Int)) fun n96 => if 126 < n96 then (some (.next true)) else (some (.next false))))) a30.name.size y64) fun res76 => fin res76 fun (s104 : Bool) => some (.next s104)) x0.ops 0 false) fun res25 => fin res25 fun (s110 : Bool) => some s110
theorem c_ref05_misnamed {w : World} {A : Nat → Prop} (hA : ∀ k, A k → k < w.heap.size) {vx0 : Value} {x0 : Tsk} (hx0 : Vb w A vx0 x0) {r : Bool} (hm : m_ref05_misnamed x0 = some r) :
    Fn Try.prog 51 [vx0] w fun v w' => Ext w w' ∧ Vb w' (upA A w w') v r := by
  obtain ⟨O, hB, hA0⟩ := enter hA
  replace hx0 := hx0.mono hA0
  obtain ⟨cs1, rfl, v2, v3, v4, v5, rfl, h6, h9, h12, h15⟩ := hx0
  obtain ⟨A7, c8, rfl⟩ := h6.form
  obtain ⟨A10, c11, rfl⟩ := h9.form
  obtain ⟨A13, c14, rfl⟩ := h12.form
  obtain ⟨A16, c17, rfl⟩ := h15.form
  refine fn_enter Try.func51 rfl Try.ntmps51 rfl ?_
  unfold m_ref05_misnamed at hm
  refine ewp_seq ?_
  refine ewp_region ?_
  refine l_box 2 O rfl rfl fun g18 w19 O20 S21 h22 => ?_
  replace h22 : Lc 2 w19 O20 g18 26 [(.slice A7 x0.vars.length c8), (.slice A10 x0.init.length c11), (.slice A13 x0.goal.length c14), (.slice A16 x0.ops.length c17)] := h22
  replace hB := hB.st S21 (fun h => h) (fun h => h)
  replace h6 := h6.st S21 (fun h => h)
  replace h9 := h9.st S21 (fun h => h)
  replace h12 := h12.st S21 (fun h => h)
  replace h15 := h15.st S21 (fun h => h)
  refine o_as rfl rfl  ?_
  (first | refine owp_nilT ?_ | refine owp_nilB ?_ | refine owp_nilBB ?_ | refine owp_nil ?_)
  refine ewp_seq ?_
  refine ewp_region ?_
  refine o_as rfl rfl  ?_
  (first | refine owp_nilT ?_ | refine owp_nilB ?_ | refine owp_nilBB ?_ | refine owp_nil ?_)
  refine ewp_seq ?_
  refine ewp_seq ?_
  refine ewp_region ?_
  refine o_fa rfl rfl  ?_
  refine o_ld (hc := Blk.cell (i := 3) (h22.1) rfl) rfl rfl  ?_
  refine o_ln rfl rfl  ?_
  have l24 : x0.ops.length ≤ 9223372036854775807 := Nat.le_trans h15.len.2.1 h15.len.2.2
  have r23 : inI64 (x0.ops.length : Int) := rngNat l24
  refine o_mv rfl rfl  ?_
  (first | refine owp_nilT ?_ | refine owp_nilB ?_ | refine owp_nilBB ?_ | refine owp_nil ?_)
  obtain ⟨res25, hL26, hm⟩ := bs hm
  refine ewp_join (aft res25 (fun (s27 : Bool) (x28 : Unit) => [(3, (.bool s27))]) (fun s27 x28 w' => ∃ O' : Lab, Bs w A w' O')) ?_ ?_
  · refine ewp_block ?_
    refine ewp_rng (σ := Bool) (X := Unit) (x0.ops.length) hL26 rfl l24 (fun (s27 : Bool) (x28 : Unit) => [(3, (.bool s27)), (8, (.slice A16 x0.ops.length c17))]) _ (fun s27 x28 w' => ∃ O' : Lab, Bs w A w' O' ∧ Vb w' (Fr 0 w' O') (.slice A16 x0.ops.length c17) x0.ops) _ () ⟨O20, hB, h15⟩ ⟨rfl, rfl, rfl, rfl, trivial⟩ (fun _ _ => ⟨rfl, rfl⟩) (fun _ _ => ⟨rfl, trivial⟩) (fun _ _ _ ⟨O', hB, h15⟩ => ⟨O', hB⟩) ⟨rfl, rfl, rfl⟩ ⟨rfl, rfl⟩ ?_
    rintro k29 a30 s27 x28 w31 cc33 hx34 ⟨O32, hB, h15⟩ hf35 hret36 hbrk37
    have rk29 : inI64 (k29 : Int) := rngK hx34 l24
    refine ewp_seq ?_
    refine ewp_region ?_
    obtain ⟨b40, o41, ce42, hA43, hl44, hd45, v47, v48, rfl, h49, h52, r55, z56⟩ := h15.elem' hx34
    obtain ⟨A50, c51, rfl⟩ := h49.form
    obtain ⟨A53, c54, rfl⟩ := h52.form
    refine o_iaE (hA := hA43) (hj := rfl) (hlt := hl44) rfl rfl rfl  ?_
    refine o_la (hl := rfl) (hc := hd45) rfl rfl  ?_
    refine l_alloc 3 O32 rfl fun g57 w58 O59 S60 h61 => ?_
    replace hB := hB.st S60 (fun h => h) (fun h => h)
    replace h15 := h15.st S60 (fun h => h)
    replace h49 := h49.st S60 (fun h => h)
    replace h52 := h52.st S60 (fun h => h)
    refine l_store h61 rfl rfl rfl (Nat.le_of_ble_eq_true rfl) (by first | exact allOne rfl | simp [Value.cells, Value.oneCell', errV_one]) fun w62 S63 h61 => ?_
    replace h61 : Lc 3 w62 O59 g57 77 [(.string a30.name), (.int .i64 a30.cost), (.slice A50 a30.pre.length c51), (.slice A53 a30.effs.length c54)] := h61
    replace hB := hB.st S63 (by decide) (by decide)
    replace h49 := h49.st S63 (by decide)
    replace h52 := h52.st S63 (by decide)
    replace h15 := h15.st S63 (by decide)
    (first | refine owp_nilT ?_ | refine owp_nilB ?_ | refine owp_nilBB ?_ | refine owp_nil ?_)
    refine ewp_seq ?_
    obtain ⟨y64, hy65, hf35⟩ := bs hf35
    refine ewp_join (fun l' w' => ∃ (x67 : Unit) (O' : Lab), subs l' [(3, (.bool y64)), (5, (.pointer (some ⟨g57, 0, none⟩))), (8, (.slice A16 x0.ops.length c17)), (9, (.int .i64 (x0.ops.length : Int))), (10, (.int .i64 (k29 : Int)))] ∧ Bs w A w' O' ∧ Lc 3 w' O' g57 77 [(.string a30.name), (.int .i64 a30.cost), (.slice A50 a30.pre.length c51), (.slice A53 a30.effs.length c54)] ∧ Vb w' (Fr 0 w' O') (.slice A50 a30.pre.length c51) a30.pre ∧ Vb w' (Fr 0 w' O') (.slice A53 a30.effs.length c54) a30.effs ∧ Vb w' (Fr 0 w' O') (.slice A16 x0.ops.length c17) x0.ops) ?_ ?_
    · skip
      refine ewp_region ?_
      refine o_mv rfl rfl  ?_
      refine o_mv rfl rfl  ?_
      rcases Bool.eq_false_or_eq_true s27 with c68 | c68
      · try rw [c68]
        replace hy65 := ip hy65 c68
        refine owp_no rfl rfl rfl rfl ?_
        refine owp_no rfl rfl rfl rfl ?_
        refine owp_no rfl rfl rfl rfl ?_
        refine owp_no rfl rfl rfl rfl ?_
        refine o_pt rfl rfl rfl  ?_
        refine o_as rfl rfl  ?_
        (first | refine owp_nilT ?_ | refine owp_nilB ?_ | refine owp_nilBB ?_ | refine owp_nil ?_)
        obtain rfl := sm hy65
        exact ⟨(), _, ⟨rfl, rfl, rfl, rfl, rfl, trivial⟩, hB, h61, h49, h52, h15⟩
      · try rw [c68]
        replace hy65 := im' hy65 c68
        refine owp_yes rfl rfl ?_
        refine o_fa rfl rfl  ?_
        refine owp_yes rfl rfl ?_
        refine o_ld (hc := Blk.cell (i := 0) (h61.1) rfl) rfl rfl  ?_
        refine owp_yes rfl rfl ?_
        refine o_ls rfl rfl  ?_
        have r69 : inI64 (a30.name.size : Int) := rngNat z56
        refine owp_yes rfl rfl ?_
        refine o_gtS rfl rfl rfl (fun c70 => ?_) fun c70 => ?_
        · replace hy65 := ip hy65 c70
          refine o_pf rfl rfl rfl  ?_
          refine o_as rfl rfl  ?_
          (first | refine owp_nilT ?_ | refine owp_nilB ?_ | refine owp_nilBB ?_ | refine owp_nil ?_)
          obtain rfl := sm hy65
          exact ⟨(), _, ⟨rfl, rfl, rfl, rfl, rfl, trivial⟩, hB, h61, h49, h52, h15⟩
        · replace hy65 := im hy65 c70
          refine o_pf rfl rfl rfl  ?_
          refine o_as rfl rfl  ?_
          (first | refine owp_nilT ?_ | refine owp_nilB ?_ | refine owp_nilBB ?_ | refine owp_nil ?_)
          obtain rfl := sm hy65
          exact ⟨(), _, ⟨rfl, rfl, rfl, rfl, rfl, trivial⟩, hB, h61, h49, h52, h15⟩
    rintro l71 w72 ⟨x67, O73, hs74, hB, h61, h49, h52, h15⟩
    refine ewp_sub _ hs74 ?_
    refine ewp_seq ?_
    refine ewp_region ?_
    refine o_fa rfl rfl  ?_
    refine o_ld (hc := Blk.cell (i := 0) (h61.1) rfl) rfl rfl  ?_
    refine o_ls rfl rfl  ?_
    have r75 : inI64 (a30.name.size : Int) := rngNat z56
    refine o_mv rfl rfl  ?_
    (first | refine owp_nilT ?_ | refine owp_nilB ?_ | refine owp_nilBB ?_ | refine owp_nil ?_)
    obtain ⟨res76, hL77, hf35⟩ := bs hf35
    refine ewp_join (aft res76 (fun (s78 : Bool) (x79 : Unit) => [(3, (.bool s78)), (8, (.slice A16 x0.ops.length c17)), (9, (.int .i64 (x0.ops.length : Int))), (10, (.int .i64 (k29 : Int)))]) (fun s78 x79 w' => ∃ O' : Lab, Bs w A w' O' ∧ Vb w' (Fr 0 w' O') (.slice A16 x0.ops.length c17) x0.ops)) ?_ ?_
    · refine ewp_block ?_
      refine ewp_rngN (σ := Bool) (X := Unit) (a30.name.size) hL77 (rngNat' r75) (fun (s78 : Bool) (x79 : Unit) => [(3, (.bool s78)), (5, (.pointer (some ⟨g57, 0, none⟩))), (8, (.slice A16 x0.ops.length c17)), (9, (.int .i64 (x0.ops.length : Int))), (10, (.int .i64 (k29 : Int)))]) _ (fun s78 x79 w' => ∃ O' : Lab, Bs w A w' O' ∧ Lc 3 w' O' g57 77 [(.string a30.name), (.int .i64 a30.cost), (.slice A50 a30.pre.length c51), (.slice A53 a30.effs.length c54)] ∧ Vb w' (Fr 0 w' O') (.slice A50 a30.pre.length c51) a30.pre ∧ Vb w' (Fr 0 w' O') (.slice A53 a30.effs.length c54) a30.effs ∧ Vb w' (Fr 0 w' O') (.slice A16 x0.ops.length c17) x0.ops) _ () ⟨O73, hB, h61, h49, h52, h15⟩ ⟨rfl, rfl, rfl, rfl, rfl, rfl, rfl, trivial⟩ (fun _ _ => ⟨rfl, rfl⟩) (fun _ _ => ⟨rfl, rfl, rfl, rfl, trivial⟩) (fun _ _ _ ⟨O', hB, h61, h49, h52, h15⟩ => ⟨O', hB, h15⟩) ⟨rfl, rfl, rfl⟩ ⟨rfl, rfl⟩ ?_
      rintro k80 s78 x79 w82 cc84 hx85 ⟨O83, hB, h61, h49, h52, h15⟩ hf86 hret87 hbrk88
      have rk80 : inI64 (k80 : Int) := rngKN hx85 (rngNat' r75)
      refine ewp_seq ?_
      refine ewp_region ?_
      refine o_mv rfl rfl  ?_
      refine o_as rfl rfl  ?_
      (first | refine owp_nilT ?_ | refine owp_nilB ?_ | refine owp_nilBB ?_ | refine owp_nil ?_)
      refine ewp_region ?_
      refine o_mv rfl rfl  ?_
      refine o_mv rfl rfl  ?_
      rcases Bool.eq_false_or_eq_true s78 with c91 | c91
      · try rw [c91]
        replace hf86 := ip hf86 c91
        refine owp_no rfl rfl rfl rfl ?_
        refine owp_no rfl rfl rfl rfl ?_
        refine owp_no rfl rfl rfl rfl ?_
        refine owp_no rfl rfl rfl rfl ?_
        refine owp_no rfl rfl rfl rfl ?_
        refine o_pt rfl rfl rfl  ?_
        refine o_mv rfl rfl  ?_
        refine owp_no rfl rfl rfl rfl ?_
        refine owp_no rfl rfl rfl rfl ?_
        refine owp_no rfl rfl rfl rfl ?_
        refine owp_no rfl rfl rfl rfl ?_
        refine owp_no rfl rfl rfl rfl ?_
        refine o_pt rfl rfl rfl  ?_
        refine o_as rfl rfl  ?_
        (first | refine owp_nilT ?_ | refine owp_nilB ?_ | refine owp_nilBB ?_ | refine owp_nil ?_)
        obtain rfl := sm hf86
        refine (?_ : Exists _)
        exact ⟨_, (), rfl, ⟨rfl, rfl, rfl, rfl, rfl, rfl, rfl, trivial⟩, _, hB, h61, h49, h52, h15⟩
      · try rw [c91]
        replace hf86 := im' hf86 c91
        refine owp_yes rfl rfl ?_
        refine o_fa rfl rfl  ?_
        refine owp_yes rfl rfl ?_
        refine o_ld (hc := Blk.cell (i := 0) (h61.1) rfl) rfl rfl  ?_
        refine owp_yes rfl rfl ?_
        refine o_mv rfl rfl  ?_
        refine owp_yes rfl rfl ?_
        obtain ⟨n92, e93, hf86⟩ := bs hf86
        have r94 := bytI_rng e93
        refine o_ixE (he := e93) rfl rfl rfl  ?_
        refine owp_yes rfl rfl ?_
        refine o_ltS rfl rfl rfl (fun c95 => ?_) fun c95 => ?_
        · replace hf86 := ip hf86 c95
          refine o_pf rfl rfl rfl  ?_
          refine o_mv rfl rfl  ?_
          refine owp_no rfl rfl rfl rfl ?_
          refine owp_no rfl rfl rfl rfl ?_
          refine owp_no rfl rfl rfl rfl ?_
          refine owp_no rfl rfl rfl rfl ?_
          refine owp_no rfl rfl rfl rfl ?_
          refine o_pt rfl rfl rfl  ?_
          refine o_as rfl rfl  ?_
          (first | refine owp_nilT ?_ | refine owp_nilB ?_ | refine owp_nilBB ?_ | refine owp_nil ?_)
          obtain rfl := sm hf86
          refine (?_ : Exists _)
          exact ⟨_, (), rfl, ⟨rfl, rfl, rfl, rfl, rfl, rfl, rfl, trivial⟩, _, hB, h61, h49, h52, h15⟩
        · replace hf86 := im hf86 c95
          refine o_pf rfl rfl rfl  ?_
          refine o_mv rfl rfl  ?_
          refine owp_yes rfl rfl ?_
          refine o_fa rfl rfl  ?_
          refine owp_yes rfl rfl ?_
          refine o_ld (hc := Blk.cell (i := 0) (h61.1) rfl) rfl rfl  ?_
          refine owp_yes rfl rfl ?_
          refine o_mv rfl rfl  ?_
          refine owp_yes rfl rfl ?_
          obtain ⟨n96, e97, hf86⟩ := bs hf86
          have r98 := bytI_rng e97
          refine o_ixE (he := e97) rfl rfl rfl  ?_
          refine owp_yes rfl rfl ?_
          refine o_gtS rfl rfl rfl (fun c99 => ?_) fun c99 => ?_
          · replace hf86 := ip hf86 c99
            refine o_pf rfl rfl rfl  ?_
            refine o_as rfl rfl  ?_
            (first | refine owp_nilT ?_ | refine owp_nilB ?_ | refine owp_nilBB ?_ | refine owp_nil ?_)
            obtain rfl := sm hf86
            refine (?_ : Exists _)
            exact ⟨_, (), rfl, ⟨rfl, rfl, rfl, rfl, rfl, rfl, rfl, trivial⟩, _, hB, h61, h49, h52, h15⟩
          · replace hf86 := im hf86 c99
            refine o_pf rfl rfl rfl  ?_
            refine o_as rfl rfl  ?_
            (first | refine owp_nilT ?_ | refine owp_nilB ?_ | refine owp_nilBB ?_ | refine owp_nil ?_)
            obtain rfl := sm hf86
            refine (?_ : Exists _)
            exact ⟨_, (), rfl, ⟨rfl, rfl, rfl, rfl, rfl, rfl, rfl, trivial⟩, _, hB, h61, h49, h52, h15⟩
    rintro l100 w101 ⟨s104, x105, rfl, hs103, O102, hB, h15⟩
    replace hf35 := fin_done hf35
    obtain rfl := sm hf35
    refine (?_ : Exists _)
    exact ⟨_, (), rfl, ⟨(subs_lk hs103 _ _ rfl), (subs_lk hs103 _ _ rfl), (subs_lk hs103 _ _ rfl), (subs_lk hs103 _ _ rfl), trivial⟩, _, hB, h15⟩
  rintro l106 w107 ⟨s110, x111, rfl, hs109, O108, hB⟩
  replace hm := fin_done hm
  refine ewp_sub _ hs109 ?_
  refine ewp_seq ?_
  refine ewp_region ?_
  refine o_mv rfl rfl  ?_
  refine o_as rfl rfl  ?_
  (first | refine owp_nilT ?_ | refine owp_nilB ?_ | refine owp_nilBB ?_ | refine owp_nil ?_)
  refine ewp_ret ?_
  obtain rfl := sm hm
  exact ret1v rfl (res_tmp rfl) ⟨hB.ext, vBool⟩
noncomputable def m_ref05_Check (x0 : Tsk) : Option Int :=
  bnd (m_ref05_large x0) fun q23 => if q23 = true then some 5 else bnd (m_ref05_outside x0) fun q30 => if q30 = true then some 1 else bnd (m_ref05_malformed x0) fun q37 => if q37 = true then some 2 else bnd (m_ref05_misnamed x0) fun q44 => if q44 = true then some 8 else some 0
theorem c_ref05_Check {w : World} {A : Nat → Prop} (hA : ∀ k, A k → k < w.heap.size) {vx0 : Value} {x0 : Tsk} (hx0 : Vb w A vx0 x0) {r : Int} (hm : m_ref05_Check x0 = some r) :
    Fn Try.prog 15 [vx0] w fun v w' => Ext w w' ∧ Vb w' (upA A w w') v r := by
  obtain ⟨O, hB, hA0⟩ := enter hA
  replace hx0 := hx0.mono hA0
  obtain ⟨cs1, rfl, v2, v3, v4, v5, rfl, h6, h9, h12, h15⟩ := hx0
  obtain ⟨A7, c8, rfl⟩ := h6.form
  obtain ⟨A10, c11, rfl⟩ := h9.form
  obtain ⟨A13, c14, rfl⟩ := h12.form
  obtain ⟨A16, c17, rfl⟩ := h15.form
  refine fn_enter Try.func15 rfl Try.ntmps15 rfl ?_
  unfold m_ref05_Check at hm
  refine ewp_seq ?_
  refine ewp_region ?_
  refine l_box 2 O rfl rfl fun g18 w19 O20 S21 h22 => ?_
  replace h22 : Lc 2 w19 O20 g18 26 [(.slice A7 x0.vars.length c8), (.slice A10 x0.init.length c11), (.slice A13 x0.goal.length c14), (.slice A16 x0.ops.length c17)] := h22
  replace hB := hB.st S21 (fun h => h) (fun h => h)
  replace h6 := h6.st S21 (fun h => h)
  replace h9 := h9.st S21 (fun h => h)
  replace h12 := h12.st S21 (fun h => h)
  replace h15 := h15.st S21 (fun h => h)
  refine o_as rfl rfl  ?_
  (first | refine owp_nilT ?_ | refine owp_nilB ?_ | refine owp_nilBB ?_ | refine owp_nil ?_)
  refine ewp_seq ?_
  refine ewp_block ?_
  refine ewp_seq ?_
  refine ewp_region ?_
  refine o_la (hl := rfl) (hc := (h22.1).cellsAt) rfl rfl  ?_
  obtain ⟨q23, e24, hm⟩ := bs hm
  refine l_callA (O := O20) (A := All w19) (R := fun w' F v => Vb w' F v q23) (c_ref05_large (fun _ h => h) (Vb.mono (F := Fr 0 w19 O20) (Vb.ofAgg (cs := [(.slice A7 x0.vars.length c8), (.slice A10 x0.init.length c11), (.slice A13 x0.goal.length c14), (.slice A16 x0.ops.length c17)]) (x := x0) rfl ⟨_, _, _, _, rfl, h6, h9, h12, h15⟩) Fr.lt) e24) rfl rfl fun v29 w25 O26 S27 h28 => ?_
  obtain rfl := h28.bool
  replace hB := hB.st S27 (fun h => h) (fun h => h)
  replace h22 := h22.st S27 (fun h => h)
  replace h6 := h6.st S27 (fun h => h)
  replace h9 := h9.st S27 (fun h => h)
  replace h12 := h12.st S27 (fun h => h)
  replace h15 := h15.st S27 (fun h => h)
  cases q23
  case false =>
    replace hm := iF hm
    refine o_as rfl rfl  ?_
    (first | refine owp_nilT ?_ | refine owp_nilB ?_ | refine owp_nilBB ?_ | refine owp_nil ?_)
    refine ewp_false rfl ?_
    refine ewp_seq ?_
    refine ewp_region ?_
    refine o_la (hl := rfl) (hc := (h22.1).cellsAt) rfl rfl  ?_
    obtain ⟨q30, e31, hm⟩ := bs hm
    refine l_callA (O := O26) (A := All w25) (R := fun w' F v => Vb w' F v q30) (c_ref05_outside (fun _ h => h) (Vb.mono (F := Fr 0 w25 O26) (Vb.ofAgg (cs := [(.slice A7 x0.vars.length c8), (.slice A10 x0.init.length c11), (.slice A13 x0.goal.length c14), (.slice A16 x0.ops.length c17)]) (x := x0) rfl ⟨_, _, _, _, rfl, h6, h9, h12, h15⟩) Fr.lt) e31) rfl rfl fun v36 w32 O33 S34 h35 => ?_
    obtain rfl := h35.bool
    replace hB := hB.st S34 (fun h => h) (fun h => h)
    replace h22 := h22.st S34 (fun h => h)
    replace h6 := h6.st S34 (fun h => h)
    replace h9 := h9.st S34 (fun h => h)
    replace h12 := h12.st S34 (fun h => h)
    replace h15 := h15.st S34 (fun h => h)
    cases q30
    case false =>
      replace hm := iF hm
      refine o_as rfl rfl  ?_
      (first | refine owp_nilT ?_ | refine owp_nilB ?_ | refine owp_nilBB ?_ | refine owp_nil ?_)
      refine ewp_false rfl ?_
      refine ewp_seq ?_
      refine ewp_region ?_
      refine o_la (hl := rfl) (hc := (h22.1).cellsAt) rfl rfl  ?_
      obtain ⟨q37, e38, hm⟩ := bs hm
      refine l_callA (O := O33) (A := All w32) (R := fun w' F v => Vb w' F v q37) (c_ref05_malformed (fun _ h => h) (Vb.mono (F := Fr 0 w32 O33) (Vb.ofAgg (cs := [(.slice A7 x0.vars.length c8), (.slice A10 x0.init.length c11), (.slice A13 x0.goal.length c14), (.slice A16 x0.ops.length c17)]) (x := x0) rfl ⟨_, _, _, _, rfl, h6, h9, h12, h15⟩) Fr.lt) e38) rfl rfl fun v43 w39 O40 S41 h42 => ?_
      obtain rfl := h42.bool
      replace hB := hB.st S41 (fun h => h) (fun h => h)
      replace h22 := h22.st S41 (fun h => h)
      replace h6 := h6.st S41 (fun h => h)
      replace h9 := h9.st S41 (fun h => h)
      replace h12 := h12.st S41 (fun h => h)
      replace h15 := h15.st S41 (fun h => h)
      cases q37
      case false =>
        replace hm := iF hm
        refine o_as rfl rfl  ?_
        (first | refine owp_nilT ?_ | refine owp_nilB ?_ | refine owp_nilBB ?_ | refine owp_nil ?_)
        refine ewp_false rfl ?_
        refine ewp_seq ?_
        refine ewp_region ?_
        refine o_la (hl := rfl) (hc := (h22.1).cellsAt) rfl rfl  ?_
        obtain ⟨q44, e45, hm⟩ := bs hm
        refine l_callA (O := O40) (A := All w39) (R := fun w' F v => Vb w' F v q44) (c_ref05_misnamed (fun _ h => h) (Vb.mono (F := Fr 0 w39 O40) (Vb.ofAgg (cs := [(.slice A7 x0.vars.length c8), (.slice A10 x0.init.length c11), (.slice A13 x0.goal.length c14), (.slice A16 x0.ops.length c17)]) (x := x0) rfl ⟨_, _, _, _, rfl, h6, h9, h12, h15⟩) Fr.lt) e45) rfl rfl fun v50 w46 O47 S48 h49 => ?_
        obtain rfl := h49.bool
        replace hB := hB.st S48 (fun h => h) (fun h => h)
        cases q44
        case false =>
          replace hm := iF hm
          refine o_as rfl rfl  ?_
          (first | refine owp_nilT ?_ | refine owp_nilB ?_ | refine owp_nilBB ?_ | refine owp_nil ?_)
          refine ewp_false rfl ?_
          refine ewp_skip ?_
          refine ewp_seq ?_
          refine ewp_region ?_
          refine o_as rfl rfl  ?_
          (first | refine owp_nilT ?_ | refine owp_nilB ?_ | refine owp_nilBB ?_ | refine owp_nil ?_)
          refine ewp_ret ?_
          obtain rfl := sm hm
          exact ret1v rfl (res_tmp rfl) ⟨hB.ext, (vInt (show inI64 (0) from by decide))⟩
        replace hm := iT hm
        refine o_as rfl rfl  ?_
        (first | refine owp_nilT ?_ | refine owp_nilB ?_ | refine owp_nilBB ?_ | refine owp_nil ?_)
        refine ewp_true rfl ?_
        refine ewp_seq ?_
        refine ewp_region ?_
        refine o_as rfl rfl  ?_
        (first | refine owp_nilT ?_ | refine owp_nilB ?_ | refine owp_nilBB ?_ | refine owp_nil ?_)
        refine ewp_ret ?_
        obtain rfl := sm hm
        exact ret1v rfl (res_tmp rfl) ⟨hB.ext, (vInt (show inI64 (8) from by decide))⟩
      replace hm := iT hm
      refine o_as rfl rfl  ?_
      (first | refine owp_nilT ?_ | refine owp_nilB ?_ | refine owp_nilBB ?_ | refine owp_nil ?_)
      refine ewp_true rfl ?_
      refine ewp_seq ?_
      refine ewp_region ?_
      refine o_as rfl rfl  ?_
      (first | refine owp_nilT ?_ | refine owp_nilB ?_ | refine owp_nilBB ?_ | refine owp_nil ?_)
      refine ewp_ret ?_
      obtain rfl := sm hm
      exact ret1v rfl (res_tmp rfl) ⟨hB.ext, (vInt (show inI64 (2) from by decide))⟩
    replace hm := iT hm
    refine o_as rfl rfl  ?_
    (first | refine owp_nilT ?_ | refine owp_nilB ?_ | refine owp_nilBB ?_ | refine owp_nil ?_)
    refine ewp_true rfl ?_
    refine ewp_seq ?_
    refine ewp_region ?_
    refine o_as rfl rfl  ?_
    (first | refine owp_nilT ?_ | refine owp_nilB ?_ | refine owp_nilBB ?_ | refine owp_nil ?_)
    refine ewp_ret ?_
    obtain rfl := sm hm
    exact ret1v rfl (res_tmp rfl) ⟨hB.ext, (vInt (show inI64 (1) from by decide))⟩
  replace hm := iT hm
  refine o_as rfl rfl  ?_
  (first | refine owp_nilT ?_ | refine owp_nilB ?_ | refine owp_nilBB ?_ | refine owp_nil ?_)
  refine ewp_true rfl ?_
  refine ewp_seq ?_
  refine ewp_region ?_
  refine o_as rfl rfl  ?_
  (first | refine owp_nilT ?_ | refine owp_nilB ?_ | refine owp_nilBB ?_ | refine owp_nil ?_)
  refine ewp_ret ?_
  obtain rfl := sm hm
  exact ret1v rfl (res_tmp rfl) ⟨hB.ext, (vInt (show inI64 (5) from by decide))⟩
end Go.Proofs.Ytdhaelekmjgbmaa

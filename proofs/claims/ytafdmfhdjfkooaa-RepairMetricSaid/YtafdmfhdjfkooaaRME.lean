/- RepairMetric returns true for all lists of texts (a slice takes no more bytes than there are addresses: the form's own reach), and the lists read behind the call as before. No conditions. -/
import Derived.Test.YtafdmfhdjfkooaaRMD
import Derived.Test.YtafdmfhdjfkooaaRows
set_option linter.unusedVariables false
set_option linter.unusedSimpArgs false
namespace Go.Proofs.Ytafdmfhdjfkooaa
open Go Go.RowKit
section
open Go Go.RowKit
attribute [local irreducible] ewp owp hwp hwq hws Ev Evg Fn retPost loud loudS Res1
attribute [local irreducible] hwx loudX
structure Spc where
  t : Tsk
  reg : Reg
  gen : Option Gnr
instance : Ow Spc where
  R w F M v x := ∃ (g : Nat) (L : Lab) (c0 c1 c2 c3 c4 c5 : Value), v = .pointer (some ⟨g, 0, none⟩) ∧ Blk w g 85 [c0, c1, c2, c3, c4, c5] ∧ M g ∧ L g = 0 ∧ Vb w F c0 x.t.vars ∧ Vb w F c1 x.t.init ∧ Vb w F c2 x.t.goal ∧ Vb w F c3 x.t.ops ∧ Ow.R w F (fun k => M k ∧ L k = 1) c4 x.reg ∧ Vb w F c5 x.gen
  agree := by rintro w w' F M v x ⟨g, L, c0, c1, c2, c3, c4, c5, rfl, hb, hM, hL, h0, h1, h2, h3, h4, h5⟩ a1 a2; exact ⟨g, L, c0, c1, c2, c3, c4, c5, rfl, hb.keep (a2 g hM), hM, hL, h0.agree a1, h1.agree a1, h2.agree a1, h3.agree a1, Ow.agree h4 a1 fun k hk => a2 k hk.1, h5.agree a1⟩
  mono := by rintro w F M F' M' v x ⟨g, L, c0, c1, c2, c3, c4, c5, rfl, hb, hM, hL, h0, h1, h2, h3, h4, h5⟩ a1 a2 a3; exact ⟨g, L, c0, c1, c2, c3, c4, c5, rfl, hb, a2 g hM, hL, h0.mono a1, h1.mono a1, h2.mono a1, h3.mono a1, Ow.mono h4 a1 (fun k hk => ⟨a2 k hk.1, hk.2⟩) fun k hf hm => a3 k hf hm.1, h5.mono a1⟩
instance : OwP Spc := ⟨by rintro w F M v x ⟨g, L, c0, c1, c2, c3, c4, c5, rfl, _⟩; exact ⟨g, rfl⟩⟩
theorem Spc.opn {i : Nat} {w : World} {O : Lab} {p : Nat} {x : Spc} (h : Ob i w O (.pointer (some ⟨p, 0, none⟩)) x) (l0 l1 : Nat) (hl : l0 ≠ 0 ∧ l1 ≠ 0) : ∃ (O' : Lab) (c0 c1 c2 c3 c4 c5 : Value), St (eT i) w O w O' ∧ (∀ k, Fr i w O k → ∃ q, q ∈ [l0, l1] ∧ Fr q w O' k) ∧ Lc l0 w O' p 85 [c0, c1, c2, c3, c4, c5] ∧ Vb w (Fr 0 w O') c0 x.t.vars ∧ Vb w (Fr 0 w O') c1 x.t.init ∧ Vb w (Fr 0 w O') c2 x.t.goal ∧ Vb w (Fr 0 w O') c3 x.t.ops ∧ Ob l1 w O' c4 x.reg ∧ Vb w (Fr 0 w O') c5 x.gen := by
  obtain ⟨⟨g, L, c0, c1, c2, c3, c4, c5, hv, hb, hM, hL, h0, h1, h2, h3, h4, h5⟩, hi⟩ := h
  obtain rfl : p = g := by injection hv with hv; injection hv with hv; injection hv
  exact ⟨part O i L [l0, l1], c0, c1, c2, c3, c4, c5, part_st hi, part_all (by simp), ⟨hb, (part_fr (j := 0) rfl p ⟨hM, hL⟩).2⟩, h0.mono (part_fr0 hi), h1.mono (part_fr0 hi), h2.mono (part_fr0 hi), h3.mono (part_fr0 hi), ⟨Ow.mono h4 (part_fr0 hi) (part_fr (j := 1) rfl) (frNe0 hl.2), hl.2⟩, h5.mono (part_fr0 hi)⟩
theorem Spc.shut {w : World} {O : Lab} {p : Nat} {x : Spc} {l0 l1 : Nat} {c0 c1 c2 c3 c4 c5 : Value} (hd : ¬ 0 ∈ [l0, l1] ∧ [l0, l1].idxOf l0 = 0 ∧ [l0, l1].idxOf l1 = 1) (hb : Lc l0 w O p 85 [c0, c1, c2, c3, c4, c5]) (h0 : Vb w (Fr 0 w O) c0 x.t.vars) (h1 : Vb w (Fr 0 w O) c1 x.t.init) (h2 : Vb w (Fr 0 w O) c2 x.t.goal) (h3 : Vb w (Fr 0 w O) c3 x.t.ops) (h4 : Ob l1 w O c4 x.reg) (h5 : Vb w (Fr 0 w O) c5 x.gen) : ∃ O', St (· ∈ [l0, l1]) w O w O' ∧ (∀ k, Fr 0 w O k → Fr 0 w O' k) ∧ (∀ q, q ∈ [l0, l1] → ∀ k, Fr q w O k → Fr l0 w O' k) ∧ Ob l0 w O' (.pointer (some ⟨p, 0, none⟩)) x := by
  have hb1 : l0 ≠ 0 := fun e => hd.1 (by simp [e])
  have hg := whole_fr (i := l0) hd.2.1 (by simp) p ⟨hb.1.lt, hb.2⟩
  exact ⟨whole O l0 [l0, l1], whole_st, whole_fr0 hd.1, whole_all, ⟨p, fun k => [l0, l1].idxOf (O k), c0, c1, c2, c3, c4, c5, rfl, hb.1, hg.1, hg.2, h0.mono (whole_fr0 hd.1), h1.mono (whole_fr0 hd.1), h2.mono (whole_fr0 hd.1), h3.mono (whole_fr0 hd.1), Ow.mono h4.1 (whole_fr0 hd.1) (whole_fr hd.2.2 (by simp)) (fun k a b => frNe0 hb1 k a b.1), h5.mono (whole_fr0 hd.1)⟩, hb1⟩
noncomputable def m_breadth_begin (x0 : Tsk) : Option ((Option Spc) × Err) :=
  bnd (m_succgen_New x0) fun q24 => if q24.2.n ≠ 0 then (some (none, (⟨q24.2.n⟩ : Err))) else (bnd (m_registry_New x0.vars) fun q39 => if q39.2.n ≠ 0 then (some (none, (⟨q39.2.n⟩ : Err))) else (bnd q39.1 fun o52 => bnd (m_registry_Registry_Add o52 x0.init) fun q55 => if q55.2.2.1.n ≠ 0 then (some (none, (⟨q55.2.2.1.n⟩ : Err))) else (some ((some (⟨(⟨x0.vars, x0.init, x0.goal, x0.ops⟩ : Tsk), q55.2.2.2, q24.1⟩ : Spc)), (⟨0⟩ : Err)))))
theorem c_breadth_begin {w : World} {O : Lab} {vx0 : Value} {x0 : Tsk} (hx0 : Vb w (Fr 0 w O) vx0 x0) (j0 : Nat) (hj0 : j0 ≠ 0) {r : (Option Spc) × Err} (hm : m_breadth_begin x0 = some r) :
    Fn Try.prog 28 [vx0] w fun v w' => ∃ O', St nT w O w' O' ∧ ∃ v0 v1 : Value, v = .tuple #[v0, v1] ∧ Obo j0 w' O' v0 r.1 ∧ Vb w' (Fr 0 w' O') v1 r.2 := by
 obtain ⟨O0, hE, hz0⟩ := ent0 (w := w) (O := O)
 have hB : Bm w O0 w O0 := Bm.refl
 replace hx0 := hx0.mono hz0
 obtain ⟨cs2, rfl, v3, v4, v5, v6, rfl, h7, h10, h13, h16⟩ := hx0
 obtain ⟨A8, c9, rfl⟩ := h7.form
 obtain ⟨A11, c12, rfl⟩ := h10.form
 obtain ⟨A14, c15, rfl⟩ := h13.form
 obtain ⟨A17, c18, rfl⟩ := h16.form
 refine fn_enter Try.func28 rfl Try.ntmps28 rfl ?_
 unfold m_breadth_begin at hm
 refine ewp_seq (ewp_region (l_box 2 O0 rfl rfl fun g19 w20 O21 S22 h23 => ?_))
 replace h23 : Lc 2 w20 O21 g19 32 [(.slice A8 x0.vars.length c9), (.slice A11 x0.init.length c12), (.slice A14 x0.goal.length c15), (.slice A17 x0.ops.length c18)] := h23
 refine o_as rfl rfl (o_as rfl rfl (o_z ?_))
 refine ewp_seq (ewp_region (o_la (hl := rfl) (hc := (h23.1).cellsAt) rfl rfl ?_))
 obtain ⟨q24, e25, hm⟩ := bs hm
 replace h7 := h7.st S22
 replace h10 := h10.st S22
 replace h13 := h13.st S22
 replace h16 := h16.st S22
 refine l_call (O := O21) (R := fun w' F v => T2 w' F v q24) (c_succgen_New Fr.lt (Vb.ofAgg (cs := [(.slice A8 x0.vars.length c9), (.slice A11 x0.init.length c12), (.slice A14 x0.goal.length c15), (.slice A17 x0.ops.length c18)]) (x := x0) rfl ⟨_, _, _, _, rfl, h7, h10, h13, h16⟩) e25) rfl rfl fun v30 w26 O27 S28 h29 => ?_
 obtain ⟨v31, v32, rfl, h33, h34⟩ := h29
 obtain ⟨p35, rfl, hq36⟩ := h33.ptr
 obtain ⟨rfl, r37⟩ := h34.err
 refine o_mv rfl rfl (o_ex rfl rfl rfl (o_ex rfl rfl rfl (o_as rfl rfl (o_as rfl rfl (o_z ?_)))))
 refine ewp_seq (ewp_seq (ewp_region (o_mv rfl rfl (o_rnS rfl rfl (fun c38 => ?_) fun c38 => ?_))))
 ·
  replace hm := ip hm c38
  refine o_z ?_
  refine ewp_true rfl (ewp_seq (ewp_region (o_mv rfl rfl (o_as rfl rfl (o_as rfl rfl (o_z ?_))))))
  refine ewp_ret ?_
  obtain rfl := sm hm
  replace hB := (hB.st S22).st S28
  obtain ⟨O', hS', hz, hl⟩ := hE.leave (fun _ => 0) rfl hB
  exact ret2 rfl (res_tmp rfl) (res_tmp rfl) ⟨O', hS', _, _, rfl, rfl, (vErr r37)⟩
 ·
  replace hm := im hm c38
  refine o_z ?_
  refine ewp_false rfl (ewp_skip (ewp_seq (ewp_region (o_fa rfl rfl ?_))))
  replace h23 := h23.st S28
  refine o_ld (hc := Blk.cell (i := 0) (h23.1) rfl) rfl rfl ?_
  obtain ⟨q39, e40, hm⟩ := bs hm
  replace h7 := h7.st S28
  refine l_callM (O := O27) (c_registry_New h7 3 (by decide) e40) rfl rfl fun v45 w41 O42 S43 h44 => ?_
  obtain ⟨v46, v47, rfl, h48, h49⟩ := h44
  obtain ⟨rfl, r50⟩ := h49.err
  refine o_mv rfl rfl (o_ex rfl rfl rfl (o_ex rfl rfl rfl (o_as rfl rfl (o_as rfl rfl (o_z ?_)))))
  refine ewp_seq (ewp_seq (ewp_region (o_mv rfl rfl (o_rnS rfl rfl (fun c51 => ?_) fun c51 => ?_))))
  ·
   replace hm := ip hm c51
   refine o_z ?_
   refine ewp_true rfl (ewp_seq (ewp_region (o_mv rfl rfl (o_as rfl rfl (o_as rfl rfl (o_z ?_))))))
   refine ewp_ret ?_
   obtain rfl := sm hm
   replace hB := ((hB.st S22).st S28).st S43
   obtain ⟨O', hS', hz, hl⟩ := hE.leave (fun _ => 0) rfl hB
   exact ret2 rfl (res_tmp rfl) (res_tmp rfl) ⟨O', hS', _, _, rfl, rfl, (vErr r50)⟩
  ·
   replace hm := im hm c51
   refine o_z ?_
   refine ewp_false rfl (ewp_skip (ewp_seq (ewp_seq (ewp_region (o_mv rfl rfl (o_fa rfl rfl ?_))))))
   replace h23 := h23.st S43
   refine o_ld (hc := Blk.cell (i := 1) (h23.1) rfl) rfl rfl ?_
   obtain ⟨o52, e53, hm⟩ := bs hm
   rw [e53] at h48
   obtain ⟨p54, rfl⟩ := Ob.ptr h48
   obtain ⟨q55, e56, hm⟩ := bs hm
   replace h10 := (h10.st S28).st S43
   refine l_callM (O := O42) (c_registry_Registry_Add h48 h10 e56) rfl rfl fun v61 w57 O58 S59 h60 => ?_
   obtain ⟨v63, v64, v65, h62, rfl, h66, h67, h68⟩ := h60
   obtain ⟨rfl, r69⟩ := h66.int
   obtain rfl := h67.bool
   obtain ⟨rfl, r70⟩ := h68.err
   refine o_mv rfl rfl (o_ex rfl rfl rfl (o_ex rfl rfl rfl (o_ex rfl rfl rfl (o_as rfl rfl (o_as rfl rfl (o_as rfl rfl (o_z ?_)))))))
   refine ewp_seq (ewp_region (o_mv rfl rfl (o_rnS rfl rfl (fun c71 => ?_) fun c71 => ?_)))
   ·
    replace hm := ip hm c71
    refine o_z ?_
    refine ewp_true rfl (ewp_seq (ewp_region (o_mv rfl rfl (o_as rfl rfl (o_as rfl rfl (o_z ?_))))))
    refine ewp_ret ?_
    obtain rfl := sm hm
    replace hB := (((hB.st S22).st S28).st S43).st S59
    obtain ⟨O', hS', hz, hl⟩ := hE.leave (fun _ => 0) rfl hB
    exact ret2 rfl (res_tmp rfl) (res_tmp rfl) ⟨O', hS', _, _, rfl, rfl, (vErr r70)⟩
   ·
    replace hm := im hm c71
    refine o_z ?_
    refine ewp_false rfl (ewp_skip (ewp_seq (ewp_region ?_)))
    replace h23 := h23.st S59
    refine o_la (hl := rfl) (hc := (h23.1).cellsAt) rfl rfl ?_
    refine o_mv rfl rfl (o_mv rfl rfl (o_bd rfl rfl rfl ?_))
    refine l_box 4 O58 rfl rfl fun g72 w73 O74 S75 h76 => ?_
    replace h76 : Lc 4 w73 O74 g72 85 [(.slice A8 x0.vars.length c9), (.slice A11 x0.init.length c12), (.slice A14 x0.goal.length c15), (.slice A17 x0.ops.length c18), (.pointer (some ⟨p54, 0, none⟩)), (.pointer p35)] := h76
    refine o_as rfl rfl (o_as rfl rfl (o_z ?_))
    refine ewp_ret ?_
    replace h7 := ((h7.st S43).st S59).st S75
    replace h10 := (h10.st S59).st S75
    replace h13 := (((h13.st S28).st S43).st S59).st S75
    replace h16 := (((h16.st S28).st S43).st S59).st S75
    replace h33 := ((h33.st S43).st S59).st S75
    replace h62 := h62.st S75
    obtain ⟨O77, S78, hz80, ha81, h79⟩ := Spc.shut (x := (⟨(⟨x0.vars, x0.init, x0.goal, x0.ops⟩ : Tsk), q55.2.2.2, q24.1⟩ : Spc)) (l0 := 4) (l1 := 3) (by decide) h76 h7 h10 h13 h16 h62 h33
    obtain rfl := sm hm
    replace hB := (((((hB.st S22).st S28).st S43).st S59).st S75).st S78
    obtain ⟨O', hS', hz, hl⟩ := hE.leave (fun q => if q = 4 then j0 else 0) rfl hB
    exact ret2 rfl (res_tmp rfl) (res_tmp rfl) ⟨O', hS', _, _, rfl, (Ob.leave h79 hz (hl 4 (by decide) (by decide)) hj0), (vErr (show inI64 0 from by decide))⟩
noncomputable def m_breadth_space_solved (x0 : Spc) (x1 : Int) (x2 : Int) : Option (Rsl × Err) :=
  bnd (m_registry_Registry_Path x0.reg x1) fun q36 => if q36.2.n ≠ 0 then (some ((⟨0, ([] : List Int), 0, 0⟩ : Rsl), (⟨q36.2.n⟩ : Err))) else (bnd (rng (ρ := Rsl × Err) (fun (k77 : Nat) (a78 : Int) (s75 : Int) => bnd (atI x0.t.ops a78) fun a125 => bnd (chkI (s75 + a125.cost)) fun n146 => some (.next n146)) q36.1 0 0) fun res73 => fin res73 fun (s160 : Int) => some ((⟨1, q36.1, s160, x2⟩ : Rsl), (⟨0⟩ : Err)))
theorem c_breadth_space_solved {w : World} {O : Lab} {p0 i0 : Nat} {x0 : Spc} (hx0 : Ob i0 w O (.pointer (some ⟨p0, 0, none⟩)) x0) {x1 : Int} (rx1 : inI64 x1) {x2 : Int} (rx2 : inI64 x2) {r : Rsl × Err} (hm : m_breadth_space_solved x0 x1 x2 = some r) :
    Fn Try.prog 33 [(.pointer (some ⟨p0, 0, none⟩)), (.int .i64 x1), (.int .i64 x2)] w fun v w' => ∃ O', St (eT i0) w O w' O' ∧ ∃ v0 v1 : Value, Ob i0 w' O' (.pointer (some ⟨p0, 0, none⟩)) x0 ∧ v = .tuple #[v0, v1] ∧ Vb w' (Fr 0 w' O') v0 r.1 ∧ Vb w' (Fr 0 w' O') v1 r.2 := by
 obtain ⟨O0, hE, hz0, hl2⟩ := ent1 (w := w) (O := O) hx0.2
 have hx0' := Ob.leave hx0 hz0 hl2 (j := 2) (by decide)
 have hB : Bm w O0 w O0 := Bm.refl
 refine fn_enter Try.func33 rfl Try.ntmps33 rfl ?_
 unfold m_breadth_space_solved at hm
 refine ewp_seq (ewp_region (l_alloc 3 O0 rfl fun g4 w5 O6 S7 h8 => ?_))
 refine o_as rfl rfl (o_z ?_)
 refine ewp_seq (ewp_region (o_mv rfl rfl (o_nc rfl rfl ?_)))
 replace hx0' := hx0'.st S7
 obtain ⟨O9, v13, v17, v21, v25, v29, v32, S10, ha12, h11, h14, h18, h22, h26, h30, h33⟩ := Spc.opn hx0' 2 4 (by decide)
 obtain ⟨A15, c16, rfl⟩ := h14.form
 obtain ⟨A19, c20, rfl⟩ := h18.form
 obtain ⟨A23, c24, rfl⟩ := h22.form
 obtain ⟨A27, c28, rfl⟩ := h26.form
 obtain ⟨p31, rfl⟩ := h30.ptr
 obtain ⟨p34, rfl, hq35⟩ := h33.ptr
 refine o_fa rfl rfl (o_ld (hc := Blk.cell (i := 4) (h11.1) rfl) rfl rfl ?_)
 refine o_mv rfl rfl ?_
 obtain ⟨q36, e37, hm⟩ := bs hm
 refine l_callM (O := O9) (c_registry_Registry_Path h30 rx1 e37) rfl rfl fun v42 w38 O39 S40 h41 => ?_
 obtain ⟨v44, v45, h43, rfl, h46, h47⟩ := h41
 obtain ⟨A48, c49, rfl⟩ := h46.form
 obtain ⟨rfl, r50⟩ := h47.err
 refine o_mv rfl rfl (o_ex rfl rfl rfl (o_ex rfl rfl rfl (o_as rfl rfl (o_as rfl rfl (o_z ?_)))))
 refine ewp_seq (ewp_seq (ewp_region (o_mv rfl rfl (o_rnS rfl rfl (fun c51 => ?_) fun c51 => ?_))))
 ·
  replace hm := ip hm c51
  refine o_z ?_
  refine ewp_true rfl (ewp_seq (ewp_region (o_bd rfl rfl rfl ?_)))
  refine o_mv rfl rfl ?_
  replace h8 := (h8.st S10).st S40
  refine l_store h8 rfl rfl rfl (Nat.le_of_ble_eq_true rfl) (by first | exact allOne rfl | simp [Value.cells, Value.oneCell', errV_one]) fun w52 S53 h8 => ?_
  replace h8 : Lc 3 w52 O39 g4 37 [(.int .i64 0), (.slice none 0 0), (.int .i64 0), (.int .i64 0)] := h8
  refine o_as rfl rfl (o_z ?_)
  refine ewp_ret ?_
  replace h11 := (h11.st S40).st S53
  replace h14 := (h14.st S40).st S53
  replace h18 := (h18.st S40).st S53
  replace h22 := (h22.st S40).st S53
  replace h26 := (h26.st S40).st S53
  replace h33 := (h33.st S40).st S53
  replace h43 := h43.st S53
  obtain ⟨O54, S55, hz57, ha58, h56⟩ := Spc.shut (x := x0) (l0 := 2) (l1 := 4) (by decide) h11 h14 h18 h22 h26 h43 h33
  obtain rfl := sm hm
  replace hB := ((((hB.st S7).st S10).st S40).st S53).st S55
  obtain ⟨O', hS', hz, hl⟩ := hE.leave (fun q => if q = 2 then i0 else 0) rfl hB
  replace h8 := h8.st S55
  exact ret2 rfl (res_cell (cs := [(.int .i64 0), (.slice none 0 0), (.int .i64 0), (.int .i64 0)]) rfl rfl h8.1.cellsAt) (res_tmp rfl) ⟨O', hS', _, _, (Ob.leave h56 hz (hl 2 (by decide) (by decide)) hx0.2), rfl, (Vb.mono (Vb.ofAgg (cs := [(.int .i64 0), (.slice none 0 0), (.int .i64 0), (.int .i64 0)]) (x := (⟨0, ([] : List Int), 0, 0⟩ : Rsl)) rfl ⟨_, rfl, (Vb.nil _ _), (show inI64 0 from by decide), (show inI64 0 from by decide), (show inI64 0 from by decide)⟩) hz), (vErr r50)⟩
 ·
  replace hm := im hm c51
  refine o_z ?_
  refine ewp_false rfl (ewp_skip (ewp_seq (ewp_region (o_mv rfl rfl (o_mv rfl rfl (o_bd rfl rfl rfl ?_))))))
  refine l_alloc 5 O39 rfl fun g59 w60 O61 S62 h63 => ?_
  refine l_store h63 rfl rfl rfl (Nat.le_of_ble_eq_true rfl) (by first | exact allOne rfl | simp [Value.cells, Value.oneCell', errV_one]) fun w64 S65 h63 => ?_
  replace h63 : Lc 5 w64 O61 g59 37 [(.int .i64 1), (.slice A48 q36.1.length c49), (.int .i64 0), (.int .i64 x2)] := h63
  refine o_z ?_
  refine ewp_seq (ewp_seq (ewp_region (o_mv rfl rfl (o_ln rfl rfl ?_))))
  replace h46 := (h46.st S62).st S65
  have l67 : q36.1.length ≤ 9223372036854775807 := Nat.le_trans h46.len.2.1 h46.len.2.2
  have r66 : inI64 (q36.1.length : Int) := rngNat l67
  refine o_mv rfl rfl (o_z ?_)
  replace h11 := ((h11.st S40).st S62).st S65
  replace h14 := ((h14.st S40).st S62).st S65
  replace h18 := ((h18.st S40).st S62).st S65
  replace h22 := ((h22.st S40).st S62).st S65
  replace h26 := ((h26.st S40).st S62).st S65
  replace h33 := ((h33.st S40).st S62).st S65
  replace h43 := (h43.st S62).st S65
  obtain ⟨O68, S69, hz71, ha72, h70⟩ := Spc.shut (x := x0) (l0 := 2) (l1 := 4) (by decide) h11 h14 h18 h22 h26 h43 h33
  obtain ⟨res73, hL74, hm⟩ := bs hm
  refine ewp_join (aft res73 (fun (s75 : Int) (x76 : Unit) => [(6, (.pointer (some ⟨g4, 0, none⟩))), (10, (.pointer (some ⟨g59, 0, none⟩)))]) (fun s75 x76 w' => ∃ O' : Lab, Bm w O0 w' O' ∧ Lc 3 w' O' g4 37 [(.int .i64 0), (.slice none 0 0), (.int .i64 0), (.int .i64 0)] ∧ Lc 5 w' O' g59 37 [(.int .i64 1), (.slice A48 q36.1.length c49), (.int .i64 s75), (.int .i64 x2)] ∧ Vb w' (Fr 0 w' O') (.slice A48 q36.1.length c49) q36.1 ∧ Ob 2 w' O' (.pointer (some ⟨p0, 0, none⟩)) x0 ∧ inI64 s75)) ?_ ?_
  ·
   refine ewp_block ?_
   replace hB := (((((hB.st S7).st S10).st S40).st S62).st S65).st S69
   replace h8 := ((((h8.st S10).st S40).st S62).st S65).st S69
   replace h46 := h46.st S69
   replace h63 := h63.st S69
   refine ewp_rng (σ := Int) (X := Unit) (q36.1.length) hL74 rfl l67 (fun (s75 : Int) (x76 : Unit) => [(0, (.pointer (some ⟨p0, 0, none⟩))), (6, (.pointer (some ⟨g4, 0, none⟩))), (10, (.pointer (some ⟨g59, 0, none⟩))), (29, (.slice A48 q36.1.length c49))]) _ (fun s75 x76 w' => ∃ O' : Lab, Bm w O0 w' O' ∧ Ob 2 w' O' (.pointer (some ⟨p0, 0, none⟩)) x0 ∧ Lc 3 w' O' g4 37 [(.int .i64 0), (.slice none 0 0), (.int .i64 0), (.int .i64 0)] ∧ Lc 5 w' O' g59 37 [(.int .i64 1), (.slice A48 q36.1.length c49), (.int .i64 s75), (.int .i64 x2)] ∧ Vb w' (Fr 0 w' O') (.slice A48 q36.1.length c49) q36.1 ∧ inI64 s75) _ () ⟨O68, hB, h70, h8, h63, h46, (show inI64 0 from by decide)⟩ ⟨rfl, rfl, rfl, rfl, rfl, rfl, trivial⟩ (fun _ _ => ⟨rfl, rfl⟩) (fun _ _ => ⟨rfl, rfl, trivial⟩) (fun _ _ _ ⟨O', hB, h70, h8, h63, h46, r89⟩ => ⟨O', hB, h8, h63, h46, h70, r89⟩) ⟨rfl, rfl, rfl⟩ ⟨rfl, rfl⟩ ?_
   rintro k77 a78 s75 x76 w79 cc81 hx82 ⟨O80, hB, h70, h8, h63, h46, r89⟩ hf83 hret84 hbrk85
   have rk77 : inI64 (k77 : Int) := rngK hx82 l67
   refine ewp_seq (ewp_region ?_)
   obtain ⟨b90, o91, ce92, hA93, hl94, hd95, rfl, r97⟩ := h46.elem' hx82
   refine o_iaE (hA := hA93) (hj := rfl) (hlt := hl94) rfl rfl rfl ?_
   refine o_ld (hc := cat0 hd95) rfl rfl ?_
   refine o_as rfl rfl (o_z ?_)
   obtain ⟨O98, v102, v106, v110, v114, v118, v121, S99, ha101, h100, h103, h107, h111, h115, h119, h122⟩ := Spc.opn h70 2 4 (by decide)
   obtain ⟨A104, c105, rfl⟩ := h103.form
   obtain ⟨A108, c109, rfl⟩ := h107.form
   obtain ⟨A112, c113, rfl⟩ := h111.form
   obtain ⟨A116, c117, rfl⟩ := h115.form
   obtain ⟨p120, rfl⟩ := h119.ptr
   obtain ⟨p123, rfl, hq124⟩ := h122.ptr
   refine ewp_drawX [] O98 ?_
   refine x_pre (fuel := 1) [] [(0, true), (1, true), (2, true), (3, true), (4, true), (5, true), (6, true), (7, true), (8, true), (9, true), (10, true), (11, true), (12, true)] (by kernel_rfl) rfl ?_
   refine h_fa rfl rfl rfl ?_
   replace h63 := h63.st S99
   refine h_ldC (hc := fun w' ⟨O', hq⟩ => Blk.cell (i := 2) ((h63.st hq (by decide)).1) rfl) rfl rfl rfl ?_
   refine h_mv rfl rfl rfl (h_nc rfl rfl rfl (h_fa rfl rfl rfl (h_fa rfl rfl rfl (h_ldC (hc := fun w' ⟨O', hq⟩ => Blk.cell (i := 3) ((h100.st hq (by decide)).1) rfl) rfl rfl rfl ?_))))
   refine h_mv rfl rfl rfl ?_
   obtain ⟨a125, e126, hf83⟩ := bs hf83
   obtain ⟨p128, x127⟩ := atI_some' e126
   obtain ⟨b129, o130, ce131, hA132, hF135, hl133, hd134, v136, v137, rfl, h138, h141, r144, z145⟩ := h115.elem x127
   obtain ⟨A139, c140, rfl⟩ := h138.form
   obtain ⟨A142, c143, rfl⟩ := h141.form
   refine h_iaE (hA := hA132) (hj := (Int.toNat_of_nonneg p128).symm) (hlt := hl133) rfl rfl rfl rfl ?_
   refine h_fa rfl rfl rfl (h_ldC (hc := fun w' ⟨O', hq⟩ => cat1 (cellsAt_agree (hq.agree (i := 0) (by decide)) hF135 hd134)) rfl rfl rfl ?_)
   obtain ⟨n146, e147, hf83⟩ := bs hf83
   have r148 := (chkI_rng e147)
   refine h_adE (he := e147) rfl rfl rfl rfl ?_
   refine h_fa rfl rfl rfl (hwp_nilT ?_)
   refine x_one (i := 13) (by kernel_rfl) rfl ?_
   refine l_store h63 rfl rfl rfl (Nat.le_of_ble_eq_true rfl) (by first | exact allOne rfl | simp [Value.cells, Value.oneCell', errV_one]) fun w149 S150 h63 => ?_
   replace h63 : Lc 5 w149 O98 g59 37 [(.int .i64 1), (.slice A48 q36.1.length c49), (.int .i64 n146), (.int .i64 x2)] := h63
   refine x_end (by kernel_rfl) ?_
   refine x_nil (by kernel_rfl) ?_
   replace h100 := h100.st S150
   replace h103 := h103.st S150
   replace h107 := h107.st S150
   replace h111 := h111.st S150
   replace h115 := h115.st S150
   replace h119 := h119.st S150
   replace h122 := h122.st S150
   obtain ⟨O151, S152, hz154, ha155, h153⟩ := Spc.shut (x := x0) (l0 := 2) (l1 := 4) (by decide) h100 h103 h107 h111 h115 h119 h122
   obtain rfl := sm hf83
   refine (?_ : Exists _)
   replace hB := ((hB.st S99).st S150).st S152
   replace h8 := ((h8.st S99).st S150).st S152
   replace h46 := ((h46.st S99).st S150).st S152
   replace h63 := h63.st S152
   exact ⟨_, (), rfl, ⟨rfl, rfl, rfl, rfl, rfl, rfl, trivial⟩, _, hB, h153, h8, h63, h46, r148⟩
  replace hB := (((((hB.st S7).st S10).st S40).st S62).st S65).st S69
  replace h8 := ((((h8.st S10).st S40).st S62).st S65).st S69
  replace h46 := h46.st S69
  replace h63 := h63.st S69
  rintro l156 w157 ⟨s160, x161, rfl, hs159, O158, hB, h8, h63, h46, h70, r89⟩
  replace hm := fin_done hm
  refine ewp_sub _ hs159 ?_
  refine ewp_seq (ewp_region (o_la (hl := rfl) (hc := (h63.1).cellsAt) rfl rfl ?_))
  refine l_store h8 rfl rfl rfl (Nat.le_of_ble_eq_true rfl) (by first | exact allOne rfl | simp [Value.cells, Value.oneCell', errV_one]) fun w162 S163 h8 => ?_
  replace h8 : Lc 3 w162 O158 g4 37 [(.int .i64 1), (.slice A48 q36.1.length c49), (.int .i64 s160), (.int .i64 x2)] := h8
  refine o_as rfl rfl (o_z ?_)
  refine ewp_ret ?_
  obtain rfl := sm hm
  replace hB := hB.st S163
  obtain ⟨O', hS', hz, hl⟩ := hE.leave (fun q => if q = 2 then i0 else 0) rfl hB
  replace h46 := h46.st S163
  replace h70 := h70.st S163
  exact ret2 rfl (res_cell (cs := [(.int .i64 1), (.slice A48 q36.1.length c49), (.int .i64 s160), (.int .i64 x2)]) rfl rfl h8.1.cellsAt) (res_tmp rfl) ⟨O', hS', _, _, (Ob.leave h70 hz (hl 2 (by decide) (by decide)) hx0.2), rfl, (Vb.mono (Vb.ofAgg (cs := [(.int .i64 1), (.slice A48 q36.1.length c49), (.int .i64 s160), (.int .i64 x2)]) (x := (⟨1, q36.1, s160, x2⟩ : Rsl)) rfl ⟨_, rfl, h46, (show inI64 (1) from by decide), r89, rx2⟩) hz), (vErr (show inI64 0 from by decide))⟩
noncomputable def m_breadth_failed (x0 : Int) (x1 : Int) : Option (Rsl × Err) :=
  some ((⟨x0, ([] : List Int), 0, x1⟩ : Rsl), (⟨0⟩ : Err))
theorem c_breadth_failed {w : World} {A : Nat → Prop} (hA : ∀ k, A k → k < w.heap.size) {x0 : Int} (rx0 : inI64 x0) {x1 : Int} (rx1 : inI64 x1) {r : Rsl × Err} (hm : m_breadth_failed x0 x1 = some r) :
    Fn Try.prog 34 [(.int .i64 x0), (.int .i64 x1)] w fun v w' => Ext w w' ∧ T2 w' (upA A w w') v r := by
 obtain ⟨O, hB, hA0⟩ := enter hA
 refine fn_enter Try.func34 rfl Try.ntmps34 rfl ?_
 unfold m_breadth_failed at hm
 refine ewp_seq (ewp_region (l_alloc 2 O rfl fun g3 w4 O5 S6 h7 => ?_))
 refine o_as rfl rfl (o_z ?_)
 refine ewp_seq (ewp_region (o_mv rfl rfl (o_mv rfl rfl (o_bd rfl rfl rfl ?_))))
 refine l_store h7 rfl rfl rfl (Nat.le_of_ble_eq_true rfl) (by first | exact allOne rfl | simp [Value.cells, Value.oneCell', errV_one]) fun w8 S9 h7 => ?_
 replace h7 : Lc 2 w8 O5 g3 37 [(.int .i64 x0), (.slice none 0 0), (.int .i64 0), (.int .i64 x1)] := h7
 refine o_as rfl rfl (o_z ?_)
 refine ewp_ret ?_
 obtain rfl := sm hm
 replace hB := (hB.st S6).st S9
 exact ret2 rfl (res_cell (cs := [(.int .i64 x0), (.slice none 0 0), (.int .i64 0), (.int .i64 x1)]) rfl rfl h7.1.cellsAt) (res_tmp rfl) ⟨hB.ext, _, _, rfl, (Vb.mono (F := Fr 0 w8 O5) (Vb.ofAgg (cs := [(.int .i64 x0), (.slice none 0 0), (.int .i64 0), (.int .i64 x1)]) (x := (⟨x0, ([] : List Int), 0, x1⟩ : Rsl)) rfl ⟨_, rfl, (Vb.nil _ _), rx0, (show inI64 0 from by decide), rx1⟩) hB.out), (vErr (show inI64 0 from by decide))⟩
noncomputable def m_breadth_Uniform (x0 : Tsk) (x1 : Int) : Option (Rsl × Err) :=
  bnd (m_breadth_begin x0) fun q30 => if q30.2.n ≠ 0 then (some ((⟨0, ([] : List Int), 0, 0⟩ : Rsl), (⟨q30.2.n⟩ : Err))) else (bnd q30.1 fun o68 => bnd (lop (ρ := Rsl × Err) (fun (s78 : (List Int) × (List Bool) × Int × Int × Spc × (BxR 77 75 Itm)) => bnd (m_breadth_queue_Len s78.2.2.2.2.2.l) fun q116 => if 0 < q116 then (bnd (m_container_heap_Pop s78.2.2.2.2.2) fun q130 => bnd (atI s78.2.1 q130.1.x.id) fun a152 => if a152 = true then (some (.next (s78.1, s78.2.1, s78.2.2.1, s78.2.2.2.1, s78.2.2.2.2.1, q130.2))) else (bnd (m_registry_Registry_State s78.2.2.2.2.1.reg q130.1.x.id) fun q191 => if q191.2.n ≠ 0 then (some (.ret ((⟨0, ([] : List Int), 0, 0⟩ : Rsl), (⟨q191.2.n⟩ : Err)))) else (bnd (m_task_Holds x0.goal q191.1) fun q209 => if q209 = true then bnd (m_breadth_space_solved s78.2.2.2.2.1 q130.1.x.id s78.2.2.2.1) fun q581 => some (.ret (q581.1, (⟨q581.2.n⟩ : Err))) else if x1 ≤ s78.2.2.2.1 then (bnd (m_breadth_failed 3 s78.2.2.2.1) fun q217 => some (.ret (q217.1, (⟨q217.2.n⟩ : Err)))) else (bnd (atI s78.2.1 q130.1.x.id) fun a239 => bnd (chkI (s78.2.2.2.1 + 1)) fun n252 => bnd (m_succgen_Generator_Successors s78.2.2.2.2.1.gen q191.1) fun q255 => bnd (rng (ρ := Ctl ((List Int) × (List Bool) × Int × Int × Spc × (BxR 77 75 Itm)) (Rsl × Err)) (fun (k275 : Nat) (a276 : Suc) (s273 : (List Int) × (List Bool) × Int × Spc × (BxR 77 75 Itm)) => bnd (m_registry_Registry_Add s273.2.2.2.1.reg a276.state) fun q346 => if q346.2.2.1.n ≠ 0 then (bnd (m_breadth_failed 3 n252) fun q363 => some (.ret (.ret (q363.1, (⟨q363.2.n⟩ : Err))))) else (bnd (atI x0.ops a276.op) fun a385 => bnd (chkI (q130.1.x.cost + a385.cost)) fun n406 => bnd (if q346.2.1 = true then (bnd (appI 8 s273.1 [n406]) fun u418 => bnd (appI 1 s273.2.1 [false]) fun u430 => some (.done (u418, u430))) else (bnd (bnd (atI s273.2.1 q346.1) fun a451 => if a451 = true then (some true) else (bnd (atI s273.1 q346.1) fun a468 => if a468 ≤ n406 then (some true) else (some false)) : Option Bool) fun y447 => if y447 = true then (some (.ret (.next (s273.1, s273.2.1, s273.2.2.1, (⟨(⟨s273.2.2.2.1.t.vars, s273.2.2.2.1.t.init, s273.2.2.2.1.t.goal, s273.2.2.2.1.t.ops⟩ : Tsk), q346.2.2.2, s273.2.2.2.1.gen⟩ : Spc), s273.2.2.2.2)))) else (some (.done (s273.1, s273.2.1)))) : Option (Fin ((List Int) × (List Bool)) (Ctl ((List Int) × (List Bool) × Int × Spc × (BxR 77 75 Itm)) (Ctl ((List Int) × (List Bool) × Int × Int × Spc × (BxR 77 75 Itm)) (Rsl × Err))))) fun y409 => fin y409 fun (s411 : (List Int) × (List Bool)) => bnd (atI s411.1 q346.1) fun a500 => bnd (m_registry_Registry_SetLink ((⟨(⟨s273.2.2.2.1.t.vars, s273.2.2.2.1.t.init, s273.2.2.2.1.t.goal, s273.2.2.2.1.t.ops⟩ : Tsk), q346.2.2.2, s273.2.2.2.1.gen⟩ : Spc).reg) q346.1 q130.1.x.id a276.op n406) fun q541 => if q541.1.n ≠ 0 then (some (.ret (.ret ((⟨0, ([] : List Int), 0, 0⟩ : Rsl), (⟨q541.1.n⟩ : Err))))) else (bnd (m_container_heap_Push s273.2.2.2.2 (⟨(⟨n406, s273.2.2.1, q346.1⟩ : Itm)⟩ : An 75 Itm)) fun q554 => bnd (chkI (s273.2.2.1 + 1)) fun n562 => some (.next ((s411.1.set (q346.1 : Int).toNat n406), s411.2, n562, (⟨(⟨(⟨(⟨s273.2.2.2.1.t.vars, s273.2.2.2.1.t.init, s273.2.2.2.1.t.goal, s273.2.2.2.1.t.ops⟩ : Tsk), q346.2.2.2, s273.2.2.2.1.gen⟩ : Spc).t.vars, (⟨(⟨s273.2.2.2.1.t.vars, s273.2.2.2.1.t.init, s273.2.2.2.1.t.goal, s273.2.2.2.1.t.ops⟩ : Tsk), q346.2.2.2, s273.2.2.2.1.gen⟩ : Spc).t.init, (⟨(⟨s273.2.2.2.1.t.vars, s273.2.2.2.1.t.init, s273.2.2.2.1.t.goal, s273.2.2.2.1.t.ops⟩ : Tsk), q346.2.2.2, s273.2.2.2.1.gen⟩ : Spc).t.goal, (⟨(⟨s273.2.2.2.1.t.vars, s273.2.2.2.1.t.init, s273.2.2.2.1.t.goal, s273.2.2.2.1.t.ops⟩ : Tsk), q346.2.2.2, s273.2.2.2.1.gen⟩ : Spc).t.ops⟩ : Tsk), q541.2, (⟨(⟨s273.2.2.2.1.t.vars, s273.2.2.2.1.t.init, s273.2.2.2.1.t.goal, s273.2.2.2.1.t.ops⟩ : Tsk), q346.2.2.2, s273.2.2.2.1.gen⟩ : Spc).gen⟩ : Spc), q554))))) q255 0 (s78.1, (s78.2.1.set (q130.1.x.id : Int).toNat true), s78.2.2.1, s78.2.2.2.2.1, q130.2)) fun res271 => fin res271 fun (s574 : (List Int) × (List Bool) × Int × Spc × (BxR 77 75 Itm)) => some (.next (s574.1, s574.2.1, s574.2.2.1, n252, s574.2.2.2.1, s574.2.2.2.2)))))) else (some (.brk (s78.1, s78.2.1, s78.2.2.1, s78.2.2.2.1, s78.2.2.2.2.1, s78.2.2.2.2.2)))) (([0] : List Int), [false], 1, 0, o68, (⟨[(⟨0, 0, 0⟩ : Itm)]⟩ : BxR 77 75 Itm))) fun res76 => fin res76 fun (s613 : (List Int) × (List Bool) × Int × Int × Spc × (BxR 77 75 Itm)) => bnd (m_breadth_failed 2 s613.2.2.2.1) fun q615 => some (q615.1, (⟨q615.2.n⟩ : Err)))
set_option maxHeartbeats 1000000 in
theorem c_breadth_Uniform {w : World} {A : Nat → Prop} (hA : ∀ k, A k → k < w.heap.size) {vx0 : Value} {x0 : Tsk} (hx0 : Vb w A vx0 x0) {x1 : Int} (rx1 : inI64 x1) {r : Rsl × Err} (hm : m_breadth_Uniform x0 x1 = some r) :
    Fn Try.prog 20 [vx0, (.int .i64 x1)] w fun v w' => Ext w w' ∧ T2 w' (upA A w w') v r := by
 obtain ⟨O, hB, hA0⟩ := enter hA
 replace hx0 := hx0.mono hA0
 obtain ⟨cs3, rfl, v4, v5, v6, v7, rfl, h8, h11, h14, h17⟩ := hx0
 obtain ⟨A9, c10, rfl⟩ := h8.form
 obtain ⟨A12, c13, rfl⟩ := h11.form
 obtain ⟨A15, c16, rfl⟩ := h14.form
 obtain ⟨A18, c19, rfl⟩ := h17.form
 refine fn_enter Try.func20 rfl Try.ntmps20 rfl ?_
 unfold m_breadth_Uniform at hm
 refine ewp_seq (ewp_region (l_box 2 O rfl rfl fun g20 w21 O22 S23 h24 => ?_))
 replace h24 : Lc 2 w21 O22 g20 32 [(.slice A9 x0.vars.length c10), (.slice A12 x0.init.length c13), (.slice A15 x0.goal.length c16), (.slice A18 x0.ops.length c19)] := h24
 refine l_alloc 3 O22 rfl fun g25 w26 O27 S28 h29 => ?_
 refine o_as rfl rfl (o_z ?_)
 refine ewp_seq (ewp_region ?_)
 replace h24 := h24.st S28
 refine o_la (hl := rfl) (hc := (h24.1).cellsAt) rfl rfl ?_
 obtain ⟨q30, e31, hm⟩ := bs hm
 replace h8 := (h8.st S23).st S28
 replace h11 := (h11.st S23).st S28
 replace h14 := (h14.st S23).st S28
 replace h17 := (h17.st S23).st S28
 refine l_callM (O := O27) (c_breadth_begin (Vb.ofAgg (cs := [(.slice A9 x0.vars.length c10), (.slice A12 x0.init.length c13), (.slice A15 x0.goal.length c16), (.slice A18 x0.ops.length c19)]) (x := x0) rfl ⟨_, _, _, _, rfl, h8, h11, h14, h17⟩) 4 (by decide) e31) rfl rfl fun v36 w32 O33 S34 h35 => ?_
 obtain ⟨v37, v38, rfl, h39, h40⟩ := h35
 obtain ⟨rfl, r41⟩ := h40.err
 refine o_mv rfl rfl (o_ex rfl rfl rfl (o_ex rfl rfl rfl (o_as rfl rfl (o_as rfl rfl (o_z ?_)))))
 refine ewp_seq (ewp_seq (ewp_region (o_mv rfl rfl (o_rnS rfl rfl (fun c42 => ?_) fun c42 => ?_))))
 ·
  replace hm := ip hm c42
  refine o_z ?_
  refine ewp_true rfl (ewp_seq (ewp_region (o_bd rfl rfl rfl ?_)))
  refine o_mv rfl rfl ?_
  replace h29 := h29.st S34
  refine l_store h29 rfl rfl rfl (Nat.le_of_ble_eq_true rfl) (by first | exact allOne rfl | simp [Value.cells, Value.oneCell', errV_one]) fun w43 S44 h29 => ?_
  replace h29 : Lc 3 w43 O33 g25 37 [(.int .i64 0), (.slice none 0 0), (.int .i64 0), (.int .i64 0)] := h29
  refine o_as rfl rfl (o_z ?_)
  refine ewp_ret ?_
  obtain rfl := sm hm
  replace hB := (((hB.st S23).st S28).st S34).st S44
  exact ret2 rfl (res_cell (cs := [(.int .i64 0), (.slice none 0 0), (.int .i64 0), (.int .i64 0)]) rfl rfl h29.1.cellsAt) (res_tmp rfl) ⟨hB.ext, _, _, rfl, (Vb.mono (F := Fr 0 w43 O33) (Vb.ofAgg (cs := [(.int .i64 0), (.slice none 0 0), (.int .i64 0), (.int .i64 0)]) (x := (⟨0, ([] : List Int), 0, 0⟩ : Rsl)) rfl ⟨_, rfl, (Vb.nil _ _), (show inI64 0 from by decide), (show inI64 0 from by decide), (show inI64 0 from by decide)⟩) hB.out), (vErr r41)⟩
 ·
  replace hm := im hm c42
  refine o_z ?_
  refine ewp_false rfl (ewp_skip (ewp_seq (ewp_region (l_bslice 5 (by decide) O33 (xs := (([0] : List Int) : List Int)) rfl rfl rfl rfl ⟨(vInt (show inI64 (0) from by decide)), trivial⟩ (by decide) (by decide) rfl fun g45 w46 O47 S48 h49 => ?_))))
  refine l_bslice 6 (by decide) O47 (xs := ([false] : List Bool)) rfl rfl rfl rfl ⟨vBool, trivial⟩ (by decide) (by decide) rfl fun g51 w52 O53 S54 h55 => ?_
  refine o_as rfl rfl (o_as rfl rfl (o_z ?_))
  refine ewp_seq (ewp_region (o_bd rfl rfl rfl ?_))
  refine l_bslice 7 (by decide) O53 (xs := ([(⟨0, 0, 0⟩ : Itm)] : List Itm)) rfl rfl rfl rfl ⟨(Vb.ofAgg (cs := [(.int .i64 0), (.int .i64 0), (.int .i64 0)]) (x := (⟨0, 0, 0⟩ : Itm)) rfl ⟨rfl, (show inI64 0 from by decide), (show inI64 0 from by decide), (show inI64 0 from by decide)⟩), trivial⟩ (by decide) (by decide) rfl fun g57 w58 O59 S60 h61 => ?_
  refine l_box 8 O59 rfl rfl fun g63 w64 O65 S66 h67 => ?_
  refine o_as rfl rfl (o_z ?_)
  refine ewp_seq (ewp_region (o_as rfl rfl (o_as rfl rfl (o_z ?_))))
  refine ewp_seq ?_
  obtain ⟨o68, e69, hm⟩ := bs hm
  replace h39 := (((h39.st S48).st S54).st S60).st S66
  rw [e69] at h39
  obtain ⟨p70, rfl⟩ := Ob.ptr h39
  replace h61 := h61.st S66
  obtain ⟨O71, S72, hz74, ha75, h73⟩ := BxR.shut (x := (⟨[(⟨0, 0, 0⟩ : Itm)]⟩ : BxR 77 75 Itm)) (l0 := 8) (l1 := 7) (by decide) h67 h61
  obtain ⟨res76, hL77, hm⟩ := bs hm
  refine ewp_join (aft res76 (fun (s78 : (List Int) × (List Bool) × Int × Int × Spc × (BxR 77 75 Itm)) (x79 : (Option Addr × Nat) × (Option Addr × Nat)) => [(4, (.pointer (some ⟨g25, 0, none⟩))), (12, (.int .i64 s78.2.2.2.1))]) (fun s78 x79 w' => ∃ O' : Lab, Bs w A w' O' ∧ Lc 3 w' O' g25 37 [(.int .i64 0), (.slice none 0 0), (.int .i64 0), (.int .i64 0)] ∧ inI64 s78.2.2.1 ∧ inI64 s78.2.2.2.1)) ?_ ?_
  ·
   refine ewp_block ?_
   replace hB := (((((((hB.st S23).st S28).st S34).st S48).st S54).st S60).st S66).st S72
   replace h8 := (((((h8.st S34).st S48).st S54).st S60).st S66).st S72
   replace h11 := (((((h11.st S34).st S48).st S54).st S60).st S66).st S72
   replace h14 := (((((h14.st S34).st S48).st S54).st S60).st S66).st S72
   replace h17 := (((((h17.st S34).st S48).st S54).st S60).st S66).st S72
   replace h24 := (((((h24.st S34).st S48).st S54).st S60).st S66).st S72
   replace h29 := (((((h29.st S34).st S48).st S54).st S60).st S66).st S72
   replace h39 := h39.st S72
   replace h49 := (((h49.st S54).st S60).st S66).st S72
   replace h55 := ((h55.st S60).st S66).st S72
   refine ewp_lop (σ := (List Int) × (List Bool) × Int × Int × Spc × (BxR 77 75 Itm)) (X := (Option Addr × Nat) × (Option Addr × Nat)) hL77 (fun (s78 : (List Int) × (List Bool) × Int × Int × Spc × (BxR 77 75 Itm)) (x79 : (Option Addr × Nat) × (Option Addr × Nat)) => [(1, (.int .i64 x1)), (2, (.pointer (some ⟨g20, 0, none⟩))), (4, (.pointer (some ⟨g25, 0, none⟩))), (6, (.pointer (some ⟨p70, 0, none⟩))), (8, (.slice x79.1.1 s78.1.length x79.1.2)), (9, (.slice x79.2.1 s78.2.1.length x79.2.2)), (10, (.pointer (some ⟨g63, 0, none⟩))), (11, (.int .i64 s78.2.2.1)), (12, (.int .i64 s78.2.2.2.1))]) _ (fun s78 x79 w' => ∃ O' : Lab, Bs w A w' O' ∧ Lc 2 w' O' g20 32 [(.slice A9 x0.vars.length c10), (.slice A12 x0.init.length c13), (.slice A15 x0.goal.length c16), (.slice A18 x0.ops.length c19)] ∧ Vb w' (Fr 0 w' O') (.slice A9 x0.vars.length c10) x0.vars ∧ Vb w' (Fr 0 w' O') (.slice A12 x0.init.length c13) x0.init ∧ Vb w' (Fr 0 w' O') (.slice A15 x0.goal.length c16) x0.goal ∧ Vb w' (Fr 0 w' O') (.slice A18 x0.ops.length c19) x0.ops ∧ Lc 3 w' O' g25 37 [(.int .i64 0), (.slice none 0 0), (.int .i64 0), (.int .i64 0)] ∧ Ob 4 w' O' (.pointer (some ⟨p70, 0, none⟩)) s78.2.2.2.2.1 ∧ Rw 5 w' O' 3 (.slice x79.1.1 s78.1.length x79.1.2) s78.1 ∧ Rw 6 w' O' 4 (.slice x79.2.1 s78.2.1.length x79.2.2) s78.2.1 ∧ Ob 8 w' O' (.pointer (some ⟨g63, 0, none⟩)) s78.2.2.2.2.2 ∧ inI64 s78.2.2.1 ∧ inI64 s78.2.2.2.1) _ (((some ⟨g45, 0, none⟩), 1), ((some ⟨g51, 0, none⟩), 1)) ⟨O71, hB, h24, h8, h11, h14, h17, h29, h39, h49, h55, h73, (show inI64 (1) from by decide), (show inI64 (0) from by decide)⟩ ⟨rfl, rfl, rfl, rfl, rfl, rfl, rfl, rfl, rfl, trivial⟩ ?_
   rintro s78 x79 w82 cc84 ⟨O83, hB, h24, h8, h11, h14, h17, h29, h105, h99, h101, h106, r103, r104⟩ hf86 hret87 hbrk88
   refine ewp_seq (ewp_seq (ewp_region (o_mv rfl rfl (o_nc rfl rfl ?_))))
   obtain ⟨O107, v111, S108, ha110, h109, h112⟩ := BxR.opn h106 8 9 (by decide)
   obtain ⟨A113, c114, rfl⟩ := h112.form
   refine o_ld (hc := Blk.cell (i := 0) (h109.1) rfl) rfl rfl ?_
   obtain ⟨q116, e117, hf86⟩ := bs hf86
   refine l_callA (O := O107) (A := All w82) (R := fun w' F v => Vb w' F v q116) (c_breadth_queue_Len (fun _ h => h) (h112).all e117) rfl rfl fun v122 w118 O119 S120 h121 => ?_
   obtain ⟨rfl, r123⟩ := h121.int
   refine o_gtS rfl rfl rfl (fun c124 => ?_) fun c124 => ?_
   ·
    replace hf86 := ip hf86 c124
    refine o_z ?_
    refine ewp_true rfl (ewp_skip (ewp_block (ewp_seq (ewp_region (o_mv rfl rfl (o_miA rfl rfl ?_))))))
    replace h109 := h109.st S120
    replace h112 := h112.st S120
    obtain ⟨O125, S126, hz128, ha129, h127⟩ := BxR.shut (x := s78.2.2.2.2.2) (l0 := 8) (l1 := 9) (by decide) h109 h112
    obtain ⟨q130, e131, hf86⟩ := bs hf86
    refine l_callM (O := O125) (c_container_heap_Pop h127 e131) rfl rfl fun v136 w132 O133 S134 h135 => ?_
    obtain ⟨h137, h138⟩ := h135
    obtain ⟨v139, rfl, h140⟩ := h138.any
    obtain ⟨cs141, rfl, rfl, r142, r143, r144⟩ := h140
    refine o_taA rfl rfl ?_
    refine o_mv rfl rfl (o_ex rfl rfl rfl (o_ex rfl rfl rfl (l_alloc 10 O133 rfl fun g145 w146 O147 S148 h149 => ?_)))
    refine l_store h149 rfl rfl rfl (Nat.le_of_ble_eq_true rfl) (by first | exact allOne rfl | simp [Value.cells, Value.oneCell', errV_one]) fun w150 S151 h149 => ?_
    replace h149 : Lc 10 w150 O147 g145 75 [(.int .i64 q130.1.x.cost), (.int .i64 q130.1.x.order), (.int .i64 q130.1.x.id)] := h149
    refine o_as rfl rfl (o_z ?_)
    refine ewp_seq (ewp_seq (ewp_region (o_mv rfl rfl (o_fa rfl rfl (o_ld (hc := Blk.cell (i := 2) (h149.1) rfl) rfl rfl ?_)))))
    obtain ⟨a152, e153, hf86⟩ := bs hf86
    obtain ⟨p155, x154⟩ := atI_some' e153
    replace h101 := (((((h101.st S108).st S120).st S126).st S134).st S148).st S151
    obtain ⟨b156, o157, ce158, hA159, hl160, hd161, rfl⟩ := h101.elem x154
    refine o_iaE (hA := hA159) (hj := (Int.toNat_of_nonneg p155).symm) (hlt := hl160) rfl rfl rfl ?_
    refine o_ld (hc := cat0 hd161) rfl rfl ?_
    refine o_z ?_
    refine ewp_cond rfl (fun c163 => ?_) (fun c163 => ?_)
    ·
     replace hf86 := ip hf86 c163
     refine ewp_exit ?_
     obtain rfl := sm hf86
     refine (?_ : Exists _)
     replace hB := (((((hB.st S108).st S120).st S126).st S134).st S148).st S151
     replace h8 := (((((h8.st S108).st S120).st S126).st S134).st S148).st S151
     replace h11 := (((((h11.st S108).st S120).st S126).st S134).st S148).st S151
     replace h14 := (((((h14.st S108).st S120).st S126).st S134).st S148).st S151
     replace h17 := (((((h17.st S108).st S120).st S126).st S134).st S148).st S151
     replace h24 := (((((h24.st S108).st S120).st S126).st S134).st S148).st S151
     replace h29 := (((((h29.st S108).st S120).st S126).st S134).st S148).st S151
     replace h99 := (((((h99.st S108).st S120).st S126).st S134).st S148).st S151
     replace h105 := (((((h105.st S108).st S120).st S126).st S134).st S148).st S151
     replace h137 := (h137.st S148).st S151
     exact ⟨_, ((x79.1.1, x79.1.2), (x79.2.1, x79.2.2)), rfl, ⟨rfl, rfl, rfl, rfl, rfl, rfl, rfl, rfl, rfl, trivial⟩, _, hB, h24, h8, h11, h14, h17, h29, h105, h99, h101, h137, r103, r104⟩
    ·
     replace hf86 := im' hf86 c163
     refine ewp_skip (ewp_seq ?_)
     replace h105 := (((((h105.st S108).st S120).st S126).st S134).st S148).st S151
     obtain ⟨O164, v168, v172, v176, v180, v184, v187, S165, ha167, h166, h169, h173, h177, h181, h185, h188⟩ := Spc.opn h105 4 11 (by decide)
     obtain ⟨A170, c171, rfl⟩ := h169.form
     obtain ⟨A174, c175, rfl⟩ := h173.form
     obtain ⟨A178, c179, rfl⟩ := h177.form
     obtain ⟨A182, c183, rfl⟩ := h181.form
     obtain ⟨p186, rfl⟩ := h185.ptr
     obtain ⟨p189, rfl, hq190⟩ := h188.ptr
     refine ewp_drawX [(6, [11])] O164 ?_
     refine x_pre (fuel := 6) [] [(0, true), (1, true), (2, true), (3, true), (4, true), (5, true)] (by kernel_rfl) rfl ?_
     refine h_mv rfl rfl rfl (h_nc rfl rfl rfl (h_fa rfl rfl rfl (h_ldC (hc := fun w' ⟨O', hq⟩ => Blk.cell (i := 4) ((h166.st hq (by decide)).1) rfl) rfl rfl rfl ?_)))
     refine h_fa rfl rfl rfl ?_
     replace h149 := h149.st S165
     refine h_ldC (hc := fun w' ⟨O', hq⟩ => Blk.cell (i := 2) ((h149.st hq (by decide)).1) rfl) rfl rfl rfl ?_
     refine hwp_nilT ?_
     refine x_one (i := 6) (by kernel_rfl) rfl ?_
     obtain ⟨q191, e192, hf86⟩ := bs hf86
     refine l_callM (O := O164) (c_registry_Registry_State h185 r144 e192) rfl rfl fun v197 w193 O194 S195 h196 => ?_
     obtain ⟨v199, v200, h198, rfl, h201, h202⟩ := h196
     obtain ⟨A203, c204, rfl⟩ := h201.form
     obtain ⟨rfl, r205⟩ := h202.err
     have hZ := S195.lst [11] (fun _ h => by cases h; decide)
     refine x_go [] hZ (by kernel_rfl) ?_
     refine x_pre (fuel := 0) [] [(7, true), (8, true), (9, true), (10, true), (11, true)] (by kernel_rfl) rfl ?_
     refine h_mv rfl rfl rfl (h_ex rfl rfl rfl rfl (h_ex rfl rfl rfl rfl (h_as rfl rfl rfl (h_as rfl rfl rfl (hwp_nilT ?_)))))
     refine x_nil (by kernel_rfl) ?_
     refine ewp_seq (ewp_seq (ewp_region (o_mv rfl rfl (o_rnS rfl rfl (fun c206 => ?_) fun c206 => ?_))))
     ·
      replace hf86 := ip hf86 c206
      refine o_z ?_
      refine ewp_true rfl (ewp_seq (ewp_region (o_bd rfl rfl rfl ?_)))
      refine o_mv rfl rfl ?_
      replace h29 := (((((((h29.st S108).st S120).st S126).st S134).st S148).st S151).st S165).st S195
      refine l_store h29 rfl rfl rfl (Nat.le_of_ble_eq_true rfl) (by first | exact allOne rfl | simp [Value.cells, Value.oneCell', errV_one]) fun w207 S208 h29 => ?_
      replace h29 : Lc 3 w207 O194 g25 37 [(.int .i64 0), (.slice none 0 0), (.int .i64 0), (.int .i64 0)] := h29
      refine o_as rfl rfl (o_z ?_)
      refine ewp_ret ?_
      obtain rfl := sm hf86
      obtain rfl := hret87 _ rfl
      obtain rfl := sm (fin_ret hm)
      replace hB := ((((((((hB.st S108).st S120).st S126).st S134).st S148).st S151).st S165).st S195).st S208
      exact ret2 rfl (res_cell (cs := [(.int .i64 0), (.slice none 0 0), (.int .i64 0), (.int .i64 0)]) rfl rfl h29.1.cellsAt) (res_tmp rfl) ⟨hB.ext, _, _, rfl, (Vb.mono (F := Fr 0 w207 O194) (Vb.ofAgg (cs := [(.int .i64 0), (.slice none 0 0), (.int .i64 0), (.int .i64 0)]) (x := (⟨0, ([] : List Int), 0, 0⟩ : Rsl)) rfl ⟨_, rfl, (Vb.nil _ _), (show inI64 0 from by decide), (show inI64 0 from by decide), (show inI64 0 from by decide)⟩) hB.out), (vErr r205)⟩
     ·
      replace hf86 := im hf86 c206
      refine o_z ?_
      refine ewp_false rfl (ewp_skip (ewp_seq (ewp_seq (ewp_region (o_fa rfl rfl ?_)))))
      replace h24 := (((((((h24.st S108).st S120).st S126).st S134).st S148).st S151).st S165).st S195
      refine o_ld (hc := Blk.cell (i := 2) (h24.1) rfl) rfl rfl ?_
      refine o_mv rfl rfl ?_
      obtain ⟨q209, e210, hf86⟩ := bs hf86
      replace h14 := (((((((h14.st S108).st S120).st S126).st S134).st S148).st S151).st S165).st S195
      refine l_callA (O := O194) (A := All w193) (R := fun w' F v => Vb w' F v q209) (c_task_Holds (fun _ h => h) (Vb.mono (F := Fr 0 w193 O194) h14 Fr.lt) (Vb.mono (F := Fr 0 w193 O194) h201 Fr.lt) e210) rfl rfl fun v215 w211 O212 S213 h214 => ?_
      obtain rfl := h214.bool
      cases q209
      case false =>
       replace hf86 := iF hf86
       refine o_z ?_
       refine ewp_false rfl (ewp_skip (ewp_seq (ewp_seq (ewp_region (o_mv rfl rfl (o_mv rfl rfl (o_geS rfl rfl rfl (fun c216 => ?_) fun c216 => ?_)))))))
       ·
        replace hf86 := ip hf86 c216
        refine o_z ?_
        refine ewp_true rfl (ewp_seq (ewp_region (o_mv rfl rfl ?_)))
        obtain ⟨q217, e218, hf86⟩ := bs hf86
        refine l_call (O := O212) (R := fun w' F v => T2 w' F v q217) (c_breadth_failed Fr.lt (show inI64 (3) from by decide) r104 e218) rfl rfl fun v223 w219 O220 S221 h222 => ?_
        obtain ⟨v224, v225, rfl, h226, h227⟩ := h222
        obtain ⟨cs228, rfl, v229, rfl, h230, r233, r234, r235⟩ := h226
        obtain ⟨A231, c232, rfl⟩ := h230.form
        obtain ⟨rfl, r236⟩ := h227.err
        refine o_ex rfl rfl rfl (o_ex rfl rfl rfl ?_)
        replace h29 := (((((((((h29.st S108).st S120).st S126).st S134).st S148).st S151).st S165).st S195).st S213).st S221
        refine l_store h29 rfl rfl rfl (Nat.le_of_ble_eq_true rfl) (by first | exact allOne rfl | simp [Value.cells, Value.oneCell', errV_one]) fun w237 S238 h29 => ?_
        replace h29 : Lc 3 w237 O220 g25 37 [(.int .i64 q217.1.verdict), (.slice A231 q217.1.plan.length c232), (.int .i64 q217.1.cost), (.int .i64 q217.1.expanded)] := h29
        refine o_as rfl rfl (o_z ?_)
        refine ewp_ret ?_
        obtain rfl := sm hf86
        obtain rfl := hret87 _ rfl
        obtain rfl := sm (fin_ret hm)
        replace hB := ((((((((((hB.st S108).st S120).st S126).st S134).st S148).st S151).st S165).st S195).st S213).st S221).st S238
        replace h230 := h230.st S238
        exact ret2 rfl (res_cell (cs := [(.int .i64 q217.1.verdict), (.slice A231 q217.1.plan.length c232), (.int .i64 q217.1.cost), (.int .i64 q217.1.expanded)]) rfl rfl h29.1.cellsAt) (res_tmp rfl) ⟨hB.ext, _, _, rfl, (Vb.mono (F := Fr 0 w237 O220) (Vb.ofAgg (cs := [(.int .i64 q217.1.verdict), (.slice A231 q217.1.plan.length c232), (.int .i64 q217.1.cost), (.int .i64 q217.1.expanded)]) (x := q217.1) rfl ⟨_, rfl, h230, r233, r234, r235⟩) hB.out), (vErr r236)⟩
       ·
        replace hf86 := im hf86 c216
        refine o_z ?_
        refine ewp_false rfl (ewp_skip (ewp_seq (ewp_region (o_mv rfl rfl (o_fa rfl rfl ?_)))))
        replace h149 := (h149.st S195).st S213
        refine o_ld (hc := Blk.cell (i := 2) (h149.1) rfl) rfl rfl ?_
        obtain ⟨a239, e240, hf86⟩ := bs hf86
        obtain ⟨p242, x241⟩ := atI_some' e240
        replace h101 := ((h101.st S165).st S195).st S213
        obtain ⟨b243, o244, ce245, hA246, hl247, hd248, rfl⟩ := h101.elem x241
        refine o_iaE (hA := hA246) (hj := (Int.toNat_of_nonneg p242).symm) (hlt := hl247) rfl rfl rfl ?_
        refine l_setE rfl h101 (a := true) vBool hA246 rfl rfl (lt_of_get x241) fun w250 S251 h101 => ?_
        refine o_z ?_
        refine ewp_seq (ewp_region (o_mv rfl rfl ?_))
        obtain ⟨n252, e253, hf86⟩ := bs hf86
        have r254 := (chkI_rng e253)
        refine o_adE (he := e253) rfl rfl rfl ?_
        refine o_as rfl rfl (o_z ?_)
        refine ewp_seq (ewp_region (o_mv rfl rfl (o_nc rfl rfl (o_fa rfl rfl ?_))))
        replace h166 := ((h166.st S195).st S213).st S251
        refine o_ld (hc := Blk.cell (i := 5) (h166.1) rfl) rfl rfl ?_
        refine o_mv rfl rfl ?_
        obtain ⟨q255, e256, hf86⟩ := bs hf86
        replace h188 := ((h188.st S195).st S213).st S251
        replace h201 := (h201.st S213).st S251
        refine l_call (O := O212) (R := fun w' F v => Vb w' F v q255) (c_succgen_Generator_Successors Fr.lt h188 h201 e256) rfl rfl fun v261 w257 O258 S259 h260 => ?_
        obtain ⟨A262, c263, rfl⟩ := h260.form
        refine o_ln rfl rfl ?_
        have l265 : q255.length ≤ 9223372036854775807 := Nat.le_trans h260.len.2.1 h260.len.2.2
        have r264 : inI64 (q255.length : Int) := rngNat l265
        refine o_mv rfl rfl (o_z ?_)
        replace h166 := h166.st S259
        replace h169 := (((h169.st S195).st S213).st S251).st S259
        replace h173 := (((h173.st S195).st S213).st S251).st S259
        replace h177 := (((h177.st S195).st S213).st S251).st S259
        replace h181 := (((h181.st S195).st S213).st S251).st S259
        replace h188 := h188.st S259
        replace h198 := ((h198.st S213).st S251).st S259
        obtain ⟨O266, S267, hz269, ha270, h268⟩ := Spc.shut (x := s78.2.2.2.2.1) (l0 := 4) (l1 := 11) (by decide) h166 h169 h173 h177 h181 h198 h188
        obtain ⟨res271, hL272, hf86⟩ := bs hf86
        refine ewp_join (aft res271 (fun (s273 : (List Int) × (List Bool) × Int × Spc × (BxR 77 75 Itm)) (x274 : (Option Addr × Nat) × (Option Addr × Nat)) => [(1, (.int .i64 x1)), (2, (.pointer (some ⟨g20, 0, none⟩))), (4, (.pointer (some ⟨g25, 0, none⟩))), (6, (.pointer (some ⟨p70, 0, none⟩))), (8, (.slice x274.1.1 s273.1.length x274.1.2)), (9, (.slice x274.2.1 s273.2.1.length x274.2.2)), (10, (.pointer (some ⟨g63, 0, none⟩))), (11, (.int .i64 s273.2.2.1)), (12, (.int .i64 n252))]) (fun s273 x274 w' => ∃ O' : Lab, Bs w A w' O' ∧ Lc 2 w' O' g20 32 [(.slice A9 x0.vars.length c10), (.slice A12 x0.init.length c13), (.slice A15 x0.goal.length c16), (.slice A18 x0.ops.length c19)] ∧ Vb w' (Fr 0 w' O') (.slice A9 x0.vars.length c10) x0.vars ∧ Vb w' (Fr 0 w' O') (.slice A12 x0.init.length c13) x0.init ∧ Vb w' (Fr 0 w' O') (.slice A15 x0.goal.length c16) x0.goal ∧ Vb w' (Fr 0 w' O') (.slice A18 x0.ops.length c19) x0.ops ∧ Lc 3 w' O' g25 37 [(.int .i64 0), (.slice none 0 0), (.int .i64 0), (.int .i64 0)] ∧ Ob 4 w' O' (.pointer (some ⟨p70, 0, none⟩)) s273.2.2.2.1 ∧ Rw 5 w' O' 3 (.slice x274.1.1 s273.1.length x274.1.2) s273.1 ∧ Rw 6 w' O' 4 (.slice x274.2.1 s273.2.1.length x274.2.2) s273.2.1 ∧ Ob 8 w' O' (.pointer (some ⟨g63, 0, none⟩)) s273.2.2.2.2 ∧ inI64 s273.2.2.1)) ?_ ?_
        ·
         refine ewp_block ?_
         replace hB := (((((((((((hB.st S108).st S120).st S126).st S134).st S148).st S151).st S165).st S195).st S213).st S251).st S259).st S267
         replace h8 := (((((((((((h8.st S108).st S120).st S126).st S134).st S148).st S151).st S165).st S195).st S213).st S251).st S259).st S267
         replace h11 := (((((((((((h11.st S108).st S120).st S126).st S134).st S148).st S151).st S165).st S195).st S213).st S251).st S259).st S267
         replace h14 := (((h14.st S213).st S251).st S259).st S267
         replace h17 := (((((((((((h17.st S108).st S120).st S126).st S134).st S148).st S151).st S165).st S195).st S213).st S251).st S259).st S267
         replace h24 := (((h24.st S213).st S251).st S259).st S267
         replace h29 := (((((((((((h29.st S108).st S120).st S126).st S134).st S148).st S151).st S165).st S195).st S213).st S251).st S259).st S267
         replace h99 := (((((((((((h99.st S108).st S120).st S126).st S134).st S148).st S151).st S165).st S195).st S213).st S251).st S259).st S267
         replace h101 := (h101.st S259).st S267
         replace h137 := (((((((h137.st S148).st S151).st S165).st S195).st S213).st S251).st S259).st S267
         replace h149 := ((h149.st S251).st S259).st S267
         replace h260 := h260.st S267
         refine ewp_rng (σ := (List Int) × (List Bool) × Int × Spc × (BxR 77 75 Itm)) (X := (Option Addr × Nat) × (Option Addr × Nat)) (q255.length) hL272 rfl l265 (fun (s273 : (List Int) × (List Bool) × Int × Spc × (BxR 77 75 Itm)) (x274 : (Option Addr × Nat) × (Option Addr × Nat)) => [(1, (.int .i64 x1)), (2, (.pointer (some ⟨g20, 0, none⟩))), (4, (.pointer (some ⟨g25, 0, none⟩))), (6, (.pointer (some ⟨p70, 0, none⟩))), (8, (.slice x274.1.1 s273.1.length x274.1.2)), (9, (.slice x274.2.1 s273.2.1.length x274.2.2)), (10, (.pointer (some ⟨g63, 0, none⟩))), (11, (.int .i64 s273.2.2.1)), (12, (.int .i64 n252)), (13, (.pointer (some ⟨g145, 0, none⟩))), (98, (.slice A262 q255.length c263))]) _ (fun s273 x274 w' => ∃ O' : Lab, Bs w A w' O' ∧ Lc 2 w' O' g20 32 [(.slice A9 x0.vars.length c10), (.slice A12 x0.init.length c13), (.slice A15 x0.goal.length c16), (.slice A18 x0.ops.length c19)] ∧ Vb w' (Fr 0 w' O') (.slice A9 x0.vars.length c10) x0.vars ∧ Vb w' (Fr 0 w' O') (.slice A12 x0.init.length c13) x0.init ∧ Vb w' (Fr 0 w' O') (.slice A15 x0.goal.length c16) x0.goal ∧ Vb w' (Fr 0 w' O') (.slice A18 x0.ops.length c19) x0.ops ∧ Lc 3 w' O' g25 37 [(.int .i64 0), (.slice none 0 0), (.int .i64 0), (.int .i64 0)] ∧ Ob 4 w' O' (.pointer (some ⟨p70, 0, none⟩)) s273.2.2.2.1 ∧ Rw 5 w' O' 3 (.slice x274.1.1 s273.1.length x274.1.2) s273.1 ∧ Rw 6 w' O' 4 (.slice x274.2.1 s273.2.1.length x274.2.2) s273.2.1 ∧ Ob 8 w' O' (.pointer (some ⟨g63, 0, none⟩)) s273.2.2.2.2 ∧ Lc 10 w' O' g145 75 [(.int .i64 q130.1.x.cost), (.int .i64 q130.1.x.order), (.int .i64 q130.1.x.id)] ∧ Vb w' (Fr 0 w' O') (.slice A262 q255.length c263) q255 ∧ inI64 s273.2.2.1) _ ((x79.1.1, x79.1.2), (x79.2.1, x79.2.2)) ⟨O266, hB, h24, h8, h11, h14, h17, h29, h268, h99, h101.relen, h137, h149, h260, r103⟩ ⟨rfl, rfl, rfl, rfl, rfl, rfl, rfl, (congrArg (fun n => some (Value.slice _ n _)) ((by simp : (s78.2.1.set (q130.1.x.id : Int).toNat true).length = s78.2.1.length).trans rfl).symm), rfl, rfl, rfl, rfl, rfl, trivial⟩ (fun _ _ => ⟨rfl, rfl⟩) (fun _ _ => ⟨rfl, rfl, rfl, rfl, rfl, rfl, rfl, rfl, rfl, trivial⟩) (fun _ _ _ ⟨O', hB, h24, h8, h11, h14, h17, h29, h298, h293, h295, h299, h149, h260, r297⟩ => ⟨O', hB, h24, h8, h11, h14, h17, h29, h298, h293, h295, h299, r297⟩) ⟨rfl, rfl, rfl⟩ ⟨rfl, rfl⟩ ?_
         rintro k275 a276 s273 x274 w277 cc279 hx280 ⟨O278, hB, h24, h8, h11, h14, h17, h29, h298, h293, h295, h299, h149, h260, r297⟩ hf281 hret282 hbrk283
         have rk275 : inI64 (k275 : Int) := rngK hx280 l265
         refine ewp_seq (ewp_region ?_)
         obtain ⟨b300, o301, ce302, hA303, hl304, hd305, v307, rfl, h308, r311⟩ := h260.elem' hx280
         obtain ⟨A309, c310, rfl⟩ := h308.form
         refine o_iaE (hA := hA303) (hj := rfl) (hlt := hl304) rfl rfl rfl ?_
         refine o_la (hl := rfl) (hc := hd305) rfl rfl ?_
         refine l_alloc 12 O278 rfl fun g312 w313 O314 S315 h316 => ?_
         refine l_store h316 rfl rfl rfl (Nat.le_of_ble_eq_true rfl) (by first | exact allOne rfl | simp [Value.cells, Value.oneCell', errV_one]) fun w317 S318 h316 => ?_
         replace h316 : Lc 12 w317 O314 g312 92 [(.int .i64 a276.op), (.slice A309 a276.state.length c310)] := h316
         refine o_z ?_
         refine ewp_seq ?_
         replace h298 := (h298.st S315).st S318
         obtain ⟨O319, v323, v327, v331, v335, v339, v342, S320, ha322, h321, h324, h328, h332, h336, h340, h343⟩ := Spc.opn h298 4 11 (by decide)
         obtain ⟨A325, c326, rfl⟩ := h324.form
         obtain ⟨A329, c330, rfl⟩ := h328.form
         obtain ⟨A333, c334, rfl⟩ := h332.form
         obtain ⟨A337, c338, rfl⟩ := h336.form
         obtain ⟨p341, rfl⟩ := h340.ptr
         obtain ⟨p344, rfl, hq345⟩ := h343.ptr
         refine ewp_drawX [(6, [11])] O319 ?_
         refine x_pre (fuel := 8) [] [(0, true), (1, true), (2, true), (3, true), (4, true), (5, true)] (by kernel_rfl) rfl ?_
         refine h_mv rfl rfl rfl (h_nc rfl rfl rfl (h_fa rfl rfl rfl (h_ldC (hc := fun w' ⟨O', hq⟩ => Blk.cell (i := 4) ((h321.st hq (by decide)).1) rfl) rfl rfl rfl ?_)))
         refine h_fa rfl rfl rfl ?_
         replace h316 := h316.st S320
         refine h_ldC (hc := fun w' ⟨O', hq⟩ => Blk.cell (i := 1) ((h316.st hq (by decide)).1) rfl) rfl rfl rfl ?_
         refine hwp_nilT ?_
         refine x_one (i := 6) (by kernel_rfl) rfl ?_
         obtain ⟨q346, e347, hf281⟩ := bs hf281
         replace h308 := ((h308.st S315).st S318).st S320
         refine l_callM (O := O319) (c_registry_Registry_Add h340 h308 e347) rfl rfl fun v352 w348 O349 S350 h351 => ?_
         obtain ⟨v354, v355, v356, h353, rfl, h357, h358, h359⟩ := h351
         obtain ⟨rfl, r360⟩ := h357.int
         obtain rfl := h358.bool
         obtain ⟨rfl, r361⟩ := h359.err
         have hZ := S350.lst [11] (fun _ h => by cases h; decide)
         refine x_go [] hZ (by kernel_rfl) ?_
         refine x_pre (fuel := 0) [] [(7, true), (8, true), (9, true), (10, true), (11, true), (12, true), (13, true)] (by kernel_rfl) rfl ?_
         refine h_mv rfl rfl rfl (h_ex rfl rfl rfl rfl (h_ex rfl rfl rfl rfl (h_ex rfl rfl rfl rfl (h_as rfl rfl rfl (h_as rfl rfl rfl (h_as rfl rfl rfl (hwp_nilT ?_)))))))
         refine x_nil (by kernel_rfl) ?_
         refine ewp_seq (ewp_seq (ewp_region (o_mv rfl rfl (o_rnS rfl rfl (fun c362 => ?_) fun c362 => ?_))))
         ·
          replace hf281 := ip hf281 c362
          refine o_z ?_
          refine ewp_true rfl (ewp_seq (ewp_region (o_mv rfl rfl ?_)))
          obtain ⟨q363, e364, hf281⟩ := bs hf281
          refine l_call (O := O349) (R := fun w' F v => T2 w' F v q363) (c_breadth_failed Fr.lt (show inI64 (3) from by decide) r254 e364) rfl rfl fun v369 w365 O366 S367 h368 => ?_
          obtain ⟨v370, v371, rfl, h372, h373⟩ := h368
          obtain ⟨cs374, rfl, v375, rfl, h376, r379, r380, r381⟩ := h372
          obtain ⟨A377, c378, rfl⟩ := h376.form
          obtain ⟨rfl, r382⟩ := h373.err
          refine o_ex rfl rfl rfl (o_ex rfl rfl rfl ?_)
          replace h29 := ((((h29.st S315).st S318).st S320).st S350).st S367
          refine l_store h29 rfl rfl rfl (Nat.le_of_ble_eq_true rfl) (by first | exact allOne rfl | simp [Value.cells, Value.oneCell', errV_one]) fun w383 S384 h29 => ?_
          replace h29 : Lc 3 w383 O366 g25 37 [(.int .i64 q363.1.verdict), (.slice A377 q363.1.plan.length c378), (.int .i64 q363.1.cost), (.int .i64 q363.1.expanded)] := h29
          refine o_as rfl rfl (o_z ?_)
          refine ewp_ret ?_
          obtain rfl := sm hf281
          obtain rfl := hret282 _ rfl
          obtain rfl := sm (fin_ret hf86)
          obtain rfl := hret87 _ rfl
          obtain rfl := sm (fin_ret hm)
          replace hB := (((((hB.st S315).st S318).st S320).st S350).st S367).st S384
          replace h376 := h376.st S384
          exact ret2 rfl (res_cell (cs := [(.int .i64 q363.1.verdict), (.slice A377 q363.1.plan.length c378), (.int .i64 q363.1.cost), (.int .i64 q363.1.expanded)]) rfl rfl h29.1.cellsAt) (res_tmp rfl) ⟨hB.ext, _, _, rfl, (Vb.mono (F := Fr 0 w383 O366) (Vb.ofAgg (cs := [(.int .i64 q363.1.verdict), (.slice A377 q363.1.plan.length c378), (.int .i64 q363.1.cost), (.int .i64 q363.1.expanded)]) (x := q363.1) rfl ⟨_, rfl, h376, r379, r380, r381⟩) hB.out), (vErr r382)⟩
         ·
          replace hf281 := im hf281 c362
          refine o_z ?_
          refine ewp_false rfl (ewp_skip (ewp_seq (ewp_draw (· = w348) [(0, true), (1, true), (2, true), (3, true), (4, true), (5, true), (6, true), (7, true), (8, true), (9, true), (10, true)] (by kernel_rfl) rfl (by kernel_rfl) rfl ?_)))
          refine h_fa rfl rfl rfl ?_
          replace h149 := (((h149.st S315).st S318).st S320).st S350
          refine h_ldA (hc := Blk.cell (i := 0) (h149.1) rfl) rfl rfl rfl ?_
          refine h_fa rfl rfl rfl ?_
          replace h24 := (((h24.st S315).st S318).st S320).st S350
          refine h_ldA (hc := Blk.cell (i := 3) (h24.1) rfl) rfl rfl rfl ?_
          refine h_fa rfl rfl rfl ?_
          replace h316 := h316.st S350
          refine h_ldA (hc := Blk.cell (i := 0) (h316.1) rfl) rfl rfl rfl ?_
          obtain ⟨a385, e386, hf281⟩ := bs hf281
          obtain ⟨p388, x387⟩ := atI_some' e386
          replace h17 := (((h17.st S315).st S318).st S320).st S350
          obtain ⟨b389, o390, ce391, hA392, hl393, hd394, v396, v397, rfl, h398, h401, r404, z405⟩ := h17.elem' x387
          obtain ⟨A399, c400, rfl⟩ := h398.form
          obtain ⟨A402, c403, rfl⟩ := h401.form
          refine h_iaE (hA := hA392) (hj := (Int.toNat_of_nonneg p388).symm) (hlt := hl393) rfl rfl rfl rfl ?_
          refine h_fa rfl rfl rfl (h_ldA (hc := cat1 hd394) rfl rfl rfl ?_)
          obtain ⟨n406, e407, hf281⟩ := bs hf281
          have r408 := (chkI_rng e407)
          refine h_adE (he := e407) rfl rfl rfl rfl ?_
          refine h_as rfl rfl rfl (h_z ?_)
          refine ewp_seq ?_
          obtain ⟨y409, hy410, hf281⟩ := bs hf281
          refine ewp_join (fun l' w' => ∃ (s411 : (List Int) × (List Bool)) (x412 : (Option Addr × Nat) × (Option Addr × Nat)) (O' : Lab), y409 = .done s411 ∧ subs l' [(1, (.int .i64 x1)), (2, (.pointer (some ⟨g20, 0, none⟩))), (4, (.pointer (some ⟨g25, 0, none⟩))), (6, (.pointer (some ⟨p70, 0, none⟩))), (8, (.slice x412.1.1 s411.1.length x412.1.2)), (9, (.slice x412.2.1 s411.2.length x412.2.2)), (10, (.pointer (some ⟨g63, 0, none⟩))), (11, (.int .i64 s273.2.2.1)), (12, (.int .i64 n252)), (13, (.pointer (some ⟨g145, 0, none⟩))), (18, (.pointer (some ⟨g312, 0, none⟩))), (19, (.int .i64 q346.1)), (22, (.int .i64 n406)), (98, (.slice A262 q255.length c263)), (99, (.int .i64 (q255.length : Int))), (100, (.int .i64 (k275 : Int)))] ∧ Bs w A w' O' ∧ Lc 2 w' O' g20 32 [(.slice A9 x0.vars.length c10), (.slice A12 x0.init.length c13), (.slice A15 x0.goal.length c16), (.slice A18 x0.ops.length c19)] ∧ Vb w' (Fr 0 w' O') (.slice A9 x0.vars.length c10) x0.vars ∧ Vb w' (Fr 0 w' O') (.slice A12 x0.init.length c13) x0.init ∧ Vb w' (Fr 0 w' O') (.slice A15 x0.goal.length c16) x0.goal ∧ Vb w' (Fr 0 w' O') (.slice A18 x0.ops.length c19) x0.ops ∧ Lc 3 w' O' g25 37 [(.int .i64 0), (.slice none 0 0), (.int .i64 0), (.int .i64 0)] ∧ Ob 4 w' O' (.pointer (some ⟨p70, 0, none⟩)) (⟨(⟨s273.2.2.2.1.t.vars, s273.2.2.2.1.t.init, s273.2.2.2.1.t.goal, s273.2.2.2.1.t.ops⟩ : Tsk), q346.2.2.2, s273.2.2.2.1.gen⟩ : Spc) ∧ Rw 5 w' O' 3 (.slice x412.1.1 s411.1.length x412.1.2) s411.1 ∧ Rw 6 w' O' 4 (.slice x412.2.1 s411.2.length x412.2.2) s411.2 ∧ Ob 8 w' O' (.pointer (some ⟨g63, 0, none⟩)) s273.2.2.2.2 ∧ Lc 10 w' O' g145 75 [(.int .i64 q130.1.x.cost), (.int .i64 q130.1.x.order), (.int .i64 q130.1.x.id)] ∧ Lc 12 w' O' g312 92 [(.int .i64 a276.op), (.slice A309 a276.state.length c310)] ∧ Vb w' (Fr 0 w' O') (.slice A309 a276.state.length c310) a276.state ∧ Vb w' (Fr 0 w' O') (.slice A262 q255.length c263) q255) ?_ ?_
          ·
           refine ewp_seq (ewp_region (o_mv rfl rfl (o_z ?_)))
           refine ewp_cond rfl (fun c417 => ?_) (fun c417 => ?_)
           ·
            replace hy410 := ip hy410 c417
            refine ewp_region (o_mv rfl rfl (o_mv rfl rfl ?_))
            obtain ⟨u418, e419, hy410⟩ := bs hy410
            obtain ⟨e419, e420, e421⟩ := appI_some e419
            replace h293 := (((h293.st S315).st S318).st S320).st S350
            refine l_append1 rfl (a := n406) h293 (vInt r408) (fun _ => rfl) rfl (by decide) (by decide) e420 e421 ⟨rfl, rfl⟩ fun g422 A423 c424 w425 O426 S427 h428 => ?_
            rw [← e419] at h428 ⊢
            refine o_mv rfl rfl ?_
            obtain ⟨u430, e431, hy410⟩ := bs hy410
            obtain ⟨e431, e432, e433⟩ := appI_some e431
            replace h295 := ((((h295.st S315).st S318).st S320).st S350).st S427
            refine l_append1 rfl (a := false) h295 vBool (fun _ => rfl) rfl (by decide) (by decide) e432 e433 ⟨rfl, rfl⟩ fun g434 A435 c436 w437 O438 S439 h440 => ?_
            rw [← e431] at h440 ⊢
            refine o_as rfl rfl (o_as rfl rfl (o_z ?_))
            replace h321 := ((h321.st S350).st S427).st S439
            replace h324 := ((h324.st S350).st S427).st S439
            replace h328 := ((h328.st S350).st S427).st S439
            replace h332 := ((h332.st S350).st S427).st S439
            replace h336 := ((h336.st S350).st S427).st S439
            replace h343 := ((h343.st S350).st S427).st S439
            replace h353 := (h353.st S427).st S439
            obtain ⟨O442, S443, hz445, ha446, h444⟩ := Spc.shut (x := (⟨(⟨s273.2.2.2.1.t.vars, s273.2.2.2.1.t.init, s273.2.2.2.1.t.goal, s273.2.2.2.1.t.ops⟩ : Tsk), q346.2.2.2, s273.2.2.2.1.gen⟩ : Spc)) (l0 := 4) (l1 := 11) (by decide) h321 h324 h328 h332 h336 h353 h343
            obtain rfl := sm hy410
            replace hB := ((((((hB.st S315).st S318).st S320).st S350).st S427).st S439).st S443
            replace h8 := ((((((h8.st S315).st S318).st S320).st S350).st S427).st S439).st S443
            replace h11 := ((((((h11.st S315).st S318).st S320).st S350).st S427).st S439).st S443
            replace h14 := ((((((h14.st S315).st S318).st S320).st S350).st S427).st S439).st S443
            replace h17 := ((h17.st S427).st S439).st S443
            replace h24 := ((h24.st S427).st S439).st S443
            replace h29 := ((((((h29.st S315).st S318).st S320).st S350).st S427).st S439).st S443
            replace h149 := ((h149.st S427).st S439).st S443
            replace h260 := ((((((h260.st S315).st S318).st S320).st S350).st S427).st S439).st S443
            replace h299 := ((((((h299.st S315).st S318).st S320).st S350).st S427).st S439).st S443
            replace h308 := (((h308.st S350).st S427).st S439).st S443
            replace h316 := ((h316.st S427).st S439).st S443
            replace h428 := (h428.st S439).st S443
            replace h440 := h440.st S443
            exact ⟨_, ((A423, c424), (A435, c436)), _, rfl, ⟨rfl, rfl, rfl, rfl, rfl, rfl, rfl, rfl, rfl, rfl, rfl, rfl, rfl, rfl, rfl, rfl, trivial⟩, hB, h24, h8, h11, h14, h17, h29, h444, h428, h440, h299, h149, h316, h308, h260⟩
           ·
            replace hy410 := im' hy410 c417
            refine ewp_seq ?_
            obtain ⟨y447, hy448, hy410⟩ := bs hy410
            refine ewp_join (fun l' w' => ∃ (x450 : Unit) (O' : Lab), subs l' [(1, (.int .i64 x1)), (2, (.pointer (some ⟨g20, 0, none⟩))), (4, (.pointer (some ⟨g25, 0, none⟩))), (6, (.pointer (some ⟨p70, 0, none⟩))), (8, (.slice x274.1.1 s273.1.length x274.1.2)), (9, (.slice x274.2.1 s273.2.1.length x274.2.2)), (10, (.pointer (some ⟨g63, 0, none⟩))), (11, (.int .i64 s273.2.2.1)), (12, (.int .i64 n252)), (13, (.pointer (some ⟨g145, 0, none⟩))), (18, (.pointer (some ⟨g312, 0, none⟩))), (19, (.int .i64 q346.1)), (22, (.int .i64 n406)), (98, (.slice A262 q255.length c263)), (99, (.int .i64 (q255.length : Int))), (100, (.int .i64 (k275 : Int))), (150, (.bool y447))] ∧ Bs w A w' O' ∧ Lc 2 w' O' g20 32 [(.slice A9 x0.vars.length c10), (.slice A12 x0.init.length c13), (.slice A15 x0.goal.length c16), (.slice A18 x0.ops.length c19)] ∧ Vb w' (Fr 0 w' O') (.slice A9 x0.vars.length c10) x0.vars ∧ Vb w' (Fr 0 w' O') (.slice A12 x0.init.length c13) x0.init ∧ Vb w' (Fr 0 w' O') (.slice A15 x0.goal.length c16) x0.goal ∧ Vb w' (Fr 0 w' O') (.slice A18 x0.ops.length c19) x0.ops ∧ Lc 3 w' O' g25 37 [(.int .i64 0), (.slice none 0 0), (.int .i64 0), (.int .i64 0)] ∧ Ob 4 w' O' (.pointer (some ⟨p70, 0, none⟩)) (⟨(⟨s273.2.2.2.1.t.vars, s273.2.2.2.1.t.init, s273.2.2.2.1.t.goal, s273.2.2.2.1.t.ops⟩ : Tsk), q346.2.2.2, s273.2.2.2.1.gen⟩ : Spc) ∧ Rw 5 w' O' 3 (.slice x274.1.1 s273.1.length x274.1.2) s273.1 ∧ Rw 6 w' O' 4 (.slice x274.2.1 s273.2.1.length x274.2.2) s273.2.1 ∧ Ob 8 w' O' (.pointer (some ⟨g63, 0, none⟩)) s273.2.2.2.2 ∧ Lc 10 w' O' g145 75 [(.int .i64 q130.1.x.cost), (.int .i64 q130.1.x.order), (.int .i64 q130.1.x.id)] ∧ Lc 12 w' O' g312 92 [(.int .i64 a276.op), (.slice A309 a276.state.length c310)] ∧ Vb w' (Fr 0 w' O') (.slice A309 a276.state.length c310) a276.state ∧ Vb w' (Fr 0 w' O') (.slice A262 q255.length c263) q255) ?_ ?_
            ·
             refine ewp_region (o_mv rfl rfl (o_mv rfl rfl ?_))
             obtain ⟨a451, e452, hy448⟩ := bs hy448
             obtain ⟨p454, x453⟩ := atI_some' e452
             replace h295 := (((h295.st S315).st S318).st S320).st S350
             obtain ⟨b455, o456, ce457, hA458, hl459, hd460, rfl⟩ := h295.elem x453
             refine o_iaE (hA := hA458) (hj := (Int.toNat_of_nonneg p454).symm) (hlt := hl459) rfl rfl rfl ?_
             refine o_ld (hc := cat0 hd460) rfl rfl ?_
             refine o_mv rfl rfl ?_
             rcases Bool.eq_false_or_eq_true a451 with c462 | c462
             ·
              try rw [c462]
              replace hy448 := ip hy448 c462
              refine owp_no rfl rfl rfl rfl (owp_no rfl rfl rfl rfl (owp_no rfl rfl rfl rfl (owp_no rfl rfl rfl rfl (owp_no rfl rfl rfl rfl (owp_no rfl rfl rfl rfl (o_pt rfl rfl rfl (o_z ?_)))))))
              replace h321 := h321.st S350
              replace h324 := h324.st S350
              replace h328 := h328.st S350
              replace h332 := h332.st S350
              replace h336 := h336.st S350
              replace h343 := h343.st S350
              obtain ⟨O463, S464, hz466, ha467, h465⟩ := Spc.shut (x := (⟨(⟨s273.2.2.2.1.t.vars, s273.2.2.2.1.t.init, s273.2.2.2.1.t.goal, s273.2.2.2.1.t.ops⟩ : Tsk), q346.2.2.2, s273.2.2.2.1.gen⟩ : Spc)) (l0 := 4) (l1 := 11) (by decide) h321 h324 h328 h332 h336 h353 h343
              obtain rfl := sm hy448
              replace hB := ((((hB.st S315).st S318).st S320).st S350).st S464
              replace h8 := ((((h8.st S315).st S318).st S320).st S350).st S464
              replace h11 := ((((h11.st S315).st S318).st S320).st S350).st S464
              replace h14 := ((((h14.st S315).st S318).st S320).st S350).st S464
              replace h17 := h17.st S464
              replace h24 := h24.st S464
              replace h29 := ((((h29.st S315).st S318).st S320).st S350).st S464
              replace h149 := h149.st S464
              replace h260 := ((((h260.st S315).st S318).st S320).st S350).st S464
              replace h293 := ((((h293.st S315).st S318).st S320).st S350).st S464
              replace h295 := h295.st S464
              replace h299 := ((((h299.st S315).st S318).st S320).st S350).st S464
              replace h308 := (h308.st S350).st S464
              replace h316 := h316.st S464
              exact ⟨(), _, ⟨rfl, rfl, rfl, rfl, rfl, rfl, rfl, rfl, rfl, rfl, rfl, rfl, rfl, rfl, rfl, rfl, rfl, trivial⟩, hB, h24, h8, h11, h14, h17, h29, h465, h293, h295, h299, h149, h316, h308, h260⟩
             ·
              try rw [c462]
              replace hy448 := im' hy448 c462
              refine owp_yes rfl rfl (o_mv rfl rfl (owp_yes rfl rfl (o_mv rfl rfl (owp_yes rfl rfl (o_mv rfl rfl (owp_yes rfl rfl ?_))))))
              obtain ⟨a468, e469, hy448⟩ := bs hy448
              obtain ⟨p471, x470⟩ := atI_some' e469
              replace h293 := (((h293.st S315).st S318).st S320).st S350
              obtain ⟨b472, o473, ce474, hA475, hl476, hd477, rfl, r479⟩ := h293.elem x470
              refine o_iaE (hA := hA475) (hj := (Int.toNat_of_nonneg p471).symm) (hlt := hl476) rfl rfl rfl ?_
              refine owp_yes rfl rfl (o_ld (hc := cat0 hd477) rfl rfl ?_)
              refine owp_yes rfl rfl (o_geS rfl rfl rfl (fun c480 => ?_) fun c480 => ?_)
              ·
               replace hy448 := ip hy448 c480
               refine o_pf rfl rfl rfl (o_z ?_)
               replace h321 := h321.st S350
               replace h324 := h324.st S350
               replace h328 := h328.st S350
               replace h332 := h332.st S350
               replace h336 := h336.st S350
               replace h343 := h343.st S350
               obtain ⟨O481, S482, hz484, ha485, h483⟩ := Spc.shut (x := (⟨(⟨s273.2.2.2.1.t.vars, s273.2.2.2.1.t.init, s273.2.2.2.1.t.goal, s273.2.2.2.1.t.ops⟩ : Tsk), q346.2.2.2, s273.2.2.2.1.gen⟩ : Spc)) (l0 := 4) (l1 := 11) (by decide) h321 h324 h328 h332 h336 h353 h343
               obtain rfl := sm hy448
               replace hB := ((((hB.st S315).st S318).st S320).st S350).st S482
               replace h8 := ((((h8.st S315).st S318).st S320).st S350).st S482
               replace h11 := ((((h11.st S315).st S318).st S320).st S350).st S482
               replace h14 := ((((h14.st S315).st S318).st S320).st S350).st S482
               replace h17 := h17.st S482
               replace h24 := h24.st S482
               replace h29 := ((((h29.st S315).st S318).st S320).st S350).st S482
               replace h149 := h149.st S482
               replace h260 := ((((h260.st S315).st S318).st S320).st S350).st S482
               replace h293 := h293.st S482
               replace h295 := h295.st S482
               replace h299 := ((((h299.st S315).st S318).st S320).st S350).st S482
               replace h308 := (h308.st S350).st S482
               replace h316 := h316.st S482
               exact ⟨(), _, ⟨rfl, rfl, rfl, rfl, rfl, rfl, rfl, rfl, rfl, rfl, rfl, rfl, rfl, rfl, rfl, rfl, rfl, trivial⟩, hB, h24, h8, h11, h14, h17, h29, h483, h293, h295, h299, h149, h316, h308, h260⟩
              ·
               replace hy448 := im hy448 c480
               refine o_pf rfl rfl rfl (o_z ?_)
               replace h321 := h321.st S350
               replace h324 := h324.st S350
               replace h328 := h328.st S350
               replace h332 := h332.st S350
               replace h336 := h336.st S350
               replace h343 := h343.st S350
               obtain ⟨O486, S487, hz489, ha490, h488⟩ := Spc.shut (x := (⟨(⟨s273.2.2.2.1.t.vars, s273.2.2.2.1.t.init, s273.2.2.2.1.t.goal, s273.2.2.2.1.t.ops⟩ : Tsk), q346.2.2.2, s273.2.2.2.1.gen⟩ : Spc)) (l0 := 4) (l1 := 11) (by decide) h321 h324 h328 h332 h336 h353 h343
               obtain rfl := sm hy448
               replace hB := ((((hB.st S315).st S318).st S320).st S350).st S487
               replace h8 := ((((h8.st S315).st S318).st S320).st S350).st S487
               replace h11 := ((((h11.st S315).st S318).st S320).st S350).st S487
               replace h14 := ((((h14.st S315).st S318).st S320).st S350).st S487
               replace h17 := h17.st S487
               replace h24 := h24.st S487
               replace h29 := ((((h29.st S315).st S318).st S320).st S350).st S487
               replace h149 := h149.st S487
               replace h260 := ((((h260.st S315).st S318).st S320).st S350).st S487
               replace h293 := h293.st S487
               replace h295 := h295.st S487
               replace h299 := ((((h299.st S315).st S318).st S320).st S350).st S487
               replace h308 := (h308.st S350).st S487
               replace h316 := h316.st S487
               exact ⟨(), _, ⟨rfl, rfl, rfl, rfl, rfl, rfl, rfl, rfl, rfl, rfl, rfl, rfl, rfl, rfl, rfl, rfl, rfl, trivial⟩, hB, h24, h8, h11, h14, h17, h29, h488, h293, h295, h299, h149, h316, h308, h260⟩
            replace hB := (((hB.st S315).st S318).st S320).st S350
            replace h8 := (((h8.st S315).st S318).st S320).st S350
            replace h11 := (((h11.st S315).st S318).st S320).st S350
            replace h14 := (((h14.st S315).st S318).st S320).st S350
            replace h29 := (((h29.st S315).st S318).st S320).st S350
            replace h260 := (((h260.st S315).st S318).st S320).st S350
            replace h293 := (((h293.st S315).st S318).st S320).st S350
            replace h295 := (((h295.st S315).st S318).st S320).st S350
            replace h299 := (((h299.st S315).st S318).st S320).st S350
            replace h308 := h308.st S350
            rintro l491 w492 ⟨x450, O493, hs494, hB, h24, h8, h11, h14, h17, h29, h461, h293, h295, h299, h149, h316, h308, h260⟩
            refine ewp_sub _ hs494 ?_
            refine ewp_cond rfl (fun c495 => ?_) (fun c495 => ?_)
            ·
             replace hy410 := ip hy410 c495
             refine ewp_exit ?_
             obtain rfl := sm hy410
             obtain rfl := sm (fin_ret hf281)
             refine (?_ : Exists _)
             exact ⟨_, ((x274.1.1, x274.1.2), (x274.2.1, x274.2.2)), rfl, ⟨rfl, rfl, rfl, rfl, rfl, rfl, rfl, rfl, rfl, rfl, rfl, rfl, rfl, trivial⟩, _, hB, h24, h8, h11, h14, h17, h29, h461, h293, h295, h299, h149, h260, r297⟩
            ·
             replace hy410 := im' hy410 c495
             refine ewp_skip ?_
             obtain rfl := sm hy410
             exact ⟨_, ((x274.1.1, x274.1.2), (x274.2.1, x274.2.2)), _, rfl, ⟨rfl, rfl, rfl, rfl, rfl, rfl, rfl, rfl, rfl, rfl, rfl, rfl, rfl, rfl, rfl, rfl, trivial⟩, hB, h24, h8, h11, h14, h17, h29, h461, h293, h295, h299, h149, h316, h308, h260⟩
          replace hB := (((hB.st S315).st S318).st S320).st S350
          replace h8 := (((h8.st S315).st S318).st S320).st S350
          replace h11 := (((h11.st S315).st S318).st S320).st S350
          replace h14 := (((h14.st S315).st S318).st S320).st S350
          replace h29 := (((h29.st S315).st S318).st S320).st S350
          replace h260 := (((h260.st S315).st S318).st S320).st S350
          replace h299 := (((h299.st S315).st S318).st S320).st S350
          replace h308 := h308.st S350
          rintro l496 w497 ⟨s411, x412, O498, rfl, hs499, hB, h24, h8, h11, h14, h17, h29, h436, h413, h415, h299, h149, h316, h308, h260⟩
          replace hf281 := fin_done hf281
          refine ewp_sub _ hs499 ?_
          refine ewp_seq (ewp_region (o_mv rfl rfl (o_mv rfl rfl (o_mv rfl rfl ?_))))
          obtain ⟨a500, e501, hf281⟩ := bs hf281
          obtain ⟨p503, x502⟩ := atI_some' e501
          obtain ⟨b504, o505, ce506, hA507, hl508, hd509, rfl, r511⟩ := h413.elem x502
          refine o_iaE (hA := hA507) (hj := (Int.toNat_of_nonneg p503).symm) (hlt := hl508) rfl rfl rfl ?_
          refine l_setE rfl h413 (a := n406) (vInt r408) hA507 rfl rfl (lt_of_get x502) fun w512 S513 h413 => ?_
          refine o_z ?_
          refine ewp_seq (ewp_seq ?_)
          replace h436 := h436.st S513
          obtain ⟨O514, v518, v522, v526, v530, v534, v537, S515, ha517, h516, h519, h523, h527, h531, h535, h538⟩ := Spc.opn h436 4 11 (by decide)
          obtain ⟨A520, c521, rfl⟩ := h519.form
          obtain ⟨A524, c525, rfl⟩ := h523.form
          obtain ⟨A528, c529, rfl⟩ := h527.form
          obtain ⟨A532, c533, rfl⟩ := h531.form
          obtain ⟨p536, rfl⟩ := h535.ptr
          obtain ⟨p539, rfl, hq540⟩ := h538.ptr
          refine ewp_drawX [(10, [11])] O514 ?_
          refine x_pre (fuel := 2) [] [(0, true), (1, true), (2, true), (3, true), (4, true), (5, true), (6, true), (7, true), (8, true), (9, true)] (by kernel_rfl) rfl ?_
          refine h_mv rfl rfl rfl (h_nc rfl rfl rfl (h_fa rfl rfl rfl (h_ldC (hc := fun w' ⟨O', hq⟩ => Blk.cell (i := 4) ((h516.st hq (by decide)).1) rfl) rfl rfl rfl ?_)))
          refine h_mv rfl rfl rfl (h_fa rfl rfl rfl ?_)
          replace h149 := (h149.st S513).st S515
          refine h_ldC (hc := fun w' ⟨O', hq⟩ => Blk.cell (i := 2) ((h149.st hq (by decide)).1) rfl) rfl rfl rfl ?_
          refine h_fa rfl rfl rfl ?_
          replace h316 := (h316.st S513).st S515
          refine h_ldC (hc := fun w' ⟨O', hq⟩ => Blk.cell (i := 0) ((h316.st hq (by decide)).1) rfl) rfl rfl rfl ?_
          refine h_mv rfl rfl rfl (hwp_nilT ?_)
          refine x_one (i := 10) (by kernel_rfl) rfl ?_
          obtain ⟨q541, e542, hf281⟩ := bs hf281
          refine l_callM (O := O514) (c_registry_Registry_SetLink h535 r360 r144 r311 r408 e542) rfl rfl fun v547 w543 O544 S545 h546 => ?_
          obtain ⟨h548, h549⟩ := h546
          obtain ⟨rfl, r550⟩ := h549.err
          have hZ := S545.lst [11] (fun _ h => by cases h; decide)
          refine x_go [] hZ (by kernel_rfl) ?_
          refine x_pre (fuel := 0) [] [(11, true)] (by kernel_rfl) rfl ?_
          refine h_as rfl rfl rfl (hwp_nilT ?_)
          refine x_nil (by kernel_rfl) ?_
          refine ewp_seq (ewp_region (o_mv rfl rfl (o_rnS rfl rfl (fun c551 => ?_) fun c551 => ?_)))
          ·
           replace hf281 := ip hf281 c551
           refine o_z ?_
           refine ewp_true rfl (ewp_seq (ewp_region (o_bd rfl rfl rfl ?_)))
           refine o_mv rfl rfl ?_
           replace h29 := ((h29.st S513).st S515).st S545
           refine l_store h29 rfl rfl rfl (Nat.le_of_ble_eq_true rfl) (by first | exact allOne rfl | simp [Value.cells, Value.oneCell', errV_one]) fun w552 S553 h29 => ?_
           replace h29 : Lc 3 w552 O544 g25 37 [(.int .i64 0), (.slice none 0 0), (.int .i64 0), (.int .i64 0)] := h29
           refine o_as rfl rfl (o_z ?_)
           refine ewp_ret ?_
           obtain rfl := sm hf281
           obtain rfl := hret282 _ rfl
           obtain rfl := sm (fin_ret hf86)
           obtain rfl := hret87 _ rfl
           obtain rfl := sm (fin_ret hm)
           replace hB := (((hB.st S513).st S515).st S545).st S553
           exact ret2 rfl (res_cell (cs := [(.int .i64 0), (.slice none 0 0), (.int .i64 0), (.int .i64 0)]) rfl rfl h29.1.cellsAt) (res_tmp rfl) ⟨hB.ext, _, _, rfl, (Vb.mono (F := Fr 0 w552 O544) (Vb.ofAgg (cs := [(.int .i64 0), (.slice none 0 0), (.int .i64 0), (.int .i64 0)]) (x := (⟨0, ([] : List Int), 0, 0⟩ : Rsl)) rfl ⟨_, rfl, (Vb.nil _ _), (show inI64 0 from by decide), (show inI64 0 from by decide), (show inI64 0 from by decide)⟩) hB.out), (vErr r550)⟩
          ·
           replace hf281 := im hf281 c551
           refine o_z ?_
           refine ewp_false rfl (ewp_skip (ewp_seq (ewp_region (o_mv rfl rfl (o_miA rfl rfl ?_)))))
           refine o_mv rfl rfl (o_mv rfl rfl (o_mv rfl rfl (o_bd rfl rfl rfl ?_)))
           refine o_miA rfl rfl ?_
           obtain ⟨q554, e555, hf281⟩ := bs hf281
           replace h299 := ((h299.st S513).st S515).st S545
           refine l_callM (O := O544) (c_container_heap_Push h299 (vAny (Vb.ofAgg (cs := [(.int .i64 n406), (.int .i64 s273.2.2.1), (.int .i64 q346.1)]) (x := (⟨n406, s273.2.2.1, q346.1⟩ : Itm)) rfl ⟨rfl, r408, r297, r360⟩)) e555) rfl rfl fun v560 w556 O557 S558 h561 => ?_
           refine o_z ?_
           refine ewp_region (o_mv rfl rfl ?_)
           obtain ⟨n562, e563, hf281⟩ := bs hf281
           have r564 := (chkI_rng e563)
           refine o_adE (he := e563) rfl rfl rfl ?_
           refine o_as rfl rfl (o_z ?_)
           replace h516 := (h516.st S545).st S558
           replace h519 := (h519.st S545).st S558
           replace h523 := (h523.st S545).st S558
           replace h527 := (h527.st S545).st S558
           replace h531 := (h531.st S545).st S558
           replace h538 := (h538.st S545).st S558
           replace h548 := h548.st S558
           obtain ⟨O565, S566, hz568, ha569, h567⟩ := Spc.shut (x := (⟨(⟨(⟨(⟨s273.2.2.2.1.t.vars, s273.2.2.2.1.t.init, s273.2.2.2.1.t.goal, s273.2.2.2.1.t.ops⟩ : Tsk), q346.2.2.2, s273.2.2.2.1.gen⟩ : Spc).t.vars, (⟨(⟨s273.2.2.2.1.t.vars, s273.2.2.2.1.t.init, s273.2.2.2.1.t.goal, s273.2.2.2.1.t.ops⟩ : Tsk), q346.2.2.2, s273.2.2.2.1.gen⟩ : Spc).t.init, (⟨(⟨s273.2.2.2.1.t.vars, s273.2.2.2.1.t.init, s273.2.2.2.1.t.goal, s273.2.2.2.1.t.ops⟩ : Tsk), q346.2.2.2, s273.2.2.2.1.gen⟩ : Spc).t.goal, (⟨(⟨s273.2.2.2.1.t.vars, s273.2.2.2.1.t.init, s273.2.2.2.1.t.goal, s273.2.2.2.1.t.ops⟩ : Tsk), q346.2.2.2, s273.2.2.2.1.gen⟩ : Spc).t.ops⟩ : Tsk), q541.2, (⟨(⟨s273.2.2.2.1.t.vars, s273.2.2.2.1.t.init, s273.2.2.2.1.t.goal, s273.2.2.2.1.t.ops⟩ : Tsk), q346.2.2.2, s273.2.2.2.1.gen⟩ : Spc).gen⟩ : Spc)) (l0 := 4) (l1 := 11) (by decide) h516 h519 h523 h527 h531 h548 h538
           obtain rfl := sm hf281
           refine (?_ : Exists _)
           replace hB := ((((hB.st S513).st S515).st S545).st S558).st S566
           replace h8 := ((((h8.st S513).st S515).st S545).st S558).st S566
           replace h11 := ((((h11.st S513).st S515).st S545).st S558).st S566
           replace h14 := ((((h14.st S513).st S515).st S545).st S558).st S566
           replace h17 := ((((h17.st S513).st S515).st S545).st S558).st S566
           replace h24 := ((((h24.st S513).st S515).st S545).st S558).st S566
           replace h29 := ((((h29.st S513).st S515).st S545).st S558).st S566
           replace h149 := ((h149.st S545).st S558).st S566
           replace h260 := ((((h260.st S513).st S515).st S545).st S558).st S566
           replace h413 := (((h413.st S515).st S545).st S558).st S566
           replace h415 := ((((h415.st S513).st S515).st S545).st S558).st S566
           replace h561 := h561.st S566
           exact ⟨_, ((x412.1.1, x412.1.2), (x412.2.1, x412.2.2)), rfl, ⟨rfl, rfl, rfl, rfl, rfl, rfl, (congrArg (fun n => some (Value.slice _ n _)) ((by simp : (s411.1.set (q346.1 : Int).toNat n406).length = s411.1.length).trans rfl).symm), rfl, rfl, rfl, rfl, rfl, rfl, trivial⟩, _, hB, h24, h8, h11, h14, h17, h29, h567, h413.relen, h415, h561, h149, h260, r564⟩
        replace hB := (((((((((((hB.st S108).st S120).st S126).st S134).st S148).st S151).st S165).st S195).st S213).st S251).st S259).st S267
        replace h8 := (((((((((((h8.st S108).st S120).st S126).st S134).st S148).st S151).st S165).st S195).st S213).st S251).st S259).st S267
        replace h11 := (((((((((((h11.st S108).st S120).st S126).st S134).st S148).st S151).st S165).st S195).st S213).st S251).st S259).st S267
        replace h14 := (((h14.st S213).st S251).st S259).st S267
        replace h17 := (((((((((((h17.st S108).st S120).st S126).st S134).st S148).st S151).st S165).st S195).st S213).st S251).st S259).st S267
        replace h24 := (((h24.st S213).st S251).st S259).st S267
        replace h29 := (((((((((((h29.st S108).st S120).st S126).st S134).st S148).st S151).st S165).st S195).st S213).st S251).st S259).st S267
        rintro l570 w571 ⟨s574, x575, rfl, hs573, O572, hB, h24, h8, h11, h14, h17, h29, h298, h293, h295, h299, r297⟩
        replace hf86 := fin_done hf86
        obtain rfl := sm hf86
        refine (?_ : Exists _)
        exact ⟨_, ((x575.1.1, x575.1.2), (x575.2.1, x575.2.2)), rfl, ⟨(subs_lk hs573 _ _ rfl), (subs_lk hs573 _ _ rfl), (subs_lk hs573 _ _ rfl), (subs_lk hs573 _ _ rfl), (subs_lk hs573 _ _ rfl), (subs_lk hs573 _ _ rfl), (subs_lk hs573 _ _ rfl), (subs_lk hs573 _ _ rfl), (subs_lk hs573 _ _ rfl), trivial⟩, _, hB, h24, h8, h11, h14, h17, h29, h298, h293, h295, h299, r297, r254⟩
      replace hf86 := iT hf86
      refine o_z ?_
      refine ewp_true rfl (ewp_seq (ewp_region (o_mv rfl rfl (o_fa rfl rfl ?_))))
      replace h149 := (h149.st S195).st S213
      refine o_ld (hc := Blk.cell (i := 2) (h149.1) rfl) rfl rfl ?_
      refine o_mv rfl rfl ?_
      replace h166 := (h166.st S195).st S213
      replace h169 := (h169.st S195).st S213
      replace h173 := (h173.st S195).st S213
      replace h177 := (h177.st S195).st S213
      replace h181 := (h181.st S195).st S213
      replace h188 := (h188.st S195).st S213
      replace h198 := h198.st S213
      obtain ⟨O576, S577, hz579, ha580, h578⟩ := Spc.shut (x := s78.2.2.2.2.1) (l0 := 4) (l1 := 11) (by decide) h166 h169 h173 h177 h181 h198 h188
      obtain ⟨q581, e582, hf86⟩ := bs hf86
      refine l_callM (O := O576) (c_breadth_space_solved h578 r144 r104 e582) rfl rfl fun v587 w583 O584 S585 h586 => ?_
      obtain ⟨v589, v590, h588, rfl, h591, h592⟩ := h586
      obtain ⟨cs593, rfl, v594, rfl, h595, r598, r599, r600⟩ := h591
      obtain ⟨A596, c597, rfl⟩ := h595.form
      obtain ⟨rfl, r601⟩ := h592.err
      refine o_ex rfl rfl rfl (o_ex rfl rfl rfl ?_)
      replace h29 := ((((((((((h29.st S108).st S120).st S126).st S134).st S148).st S151).st S165).st S195).st S213).st S577).st S585
      refine l_store h29 rfl rfl rfl (Nat.le_of_ble_eq_true rfl) (by first | exact allOne rfl | simp [Value.cells, Value.oneCell', errV_one]) fun w602 S603 h29 => ?_
      replace h29 : Lc 3 w602 O584 g25 37 [(.int .i64 q581.1.verdict), (.slice A596 q581.1.plan.length c597), (.int .i64 q581.1.cost), (.int .i64 q581.1.expanded)] := h29
      refine o_as rfl rfl (o_z ?_)
      refine ewp_ret ?_
      obtain rfl := sm hf86
      obtain rfl := hret87 _ rfl
      obtain rfl := sm (fin_ret hm)
      replace hB := (((((((((((hB.st S108).st S120).st S126).st S134).st S148).st S151).st S165).st S195).st S213).st S577).st S585).st S603
      replace h595 := h595.st S603
      exact ret2 rfl (res_cell (cs := [(.int .i64 q581.1.verdict), (.slice A596 q581.1.plan.length c597), (.int .i64 q581.1.cost), (.int .i64 q581.1.expanded)]) rfl rfl h29.1.cellsAt) (res_tmp rfl) ⟨hB.ext, _, _, rfl, (Vb.mono (F := Fr 0 w602 O584) (Vb.ofAgg (cs := [(.int .i64 q581.1.verdict), (.slice A596 q581.1.plan.length c597), (.int .i64 q581.1.cost), (.int .i64 q581.1.expanded)]) (x := q581.1) rfl ⟨_, rfl, h595, r598, r599, r600⟩) hB.out), (vErr r601)⟩
   ·
    replace hf86 := im hf86 c124
    refine o_z ?_
    refine ewp_false rfl (ewp_exit ?_)
    replace h109 := h109.st S120
    replace h112 := h112.st S120
    obtain ⟨O604, S605, hz607, ha608, h606⟩ := BxR.shut (x := s78.2.2.2.2.2) (l0 := 8) (l1 := 9) (by decide) h109 h112
    obtain rfl := sm hf86
    refine (?_ : Exists _)
    replace hB := ((hB.st S108).st S120).st S605
    replace h29 := ((h29.st S108).st S120).st S605
    exact ⟨_, ((x79.1.1, x79.1.2), (x79.2.1, x79.2.2)), hbrk88 _ rfl, ⟨rfl, rfl, trivial⟩, _, hB, h29, r103, r104⟩
  replace hB := (((((((hB.st S23).st S28).st S34).st S48).st S54).st S60).st S66).st S72
  replace h29 := (((((h29.st S34).st S48).st S54).st S60).st S66).st S72
  rintro l609 w610 ⟨s613, x614, rfl, hs612, O611, hB, h29, r103, r104⟩
  replace hm := fin_done hm
  refine ewp_sub _ hs612 ?_
  refine ewp_seq (ewp_region (o_mv rfl rfl ?_))
  obtain ⟨q615, e616, hm⟩ := bs hm
  refine l_call (O := O611) (R := fun w' F v => T2 w' F v q615) (c_breadth_failed Fr.lt (show inI64 (2) from by decide) r104 e616) rfl rfl fun v621 w617 O618 S619 h620 => ?_
  obtain ⟨v622, v623, rfl, h624, h625⟩ := h620
  obtain ⟨cs626, rfl, v627, rfl, h628, r631, r632, r633⟩ := h624
  obtain ⟨A629, c630, rfl⟩ := h628.form
  obtain ⟨rfl, r634⟩ := h625.err
  refine o_ex rfl rfl rfl (o_ex rfl rfl rfl ?_)
  replace h29 := h29.st S619
  refine l_store h29 rfl rfl rfl (Nat.le_of_ble_eq_true rfl) (by first | exact allOne rfl | simp [Value.cells, Value.oneCell', errV_one]) fun w635 S636 h29 => ?_
  replace h29 : Lc 3 w635 O618 g25 37 [(.int .i64 q615.1.verdict), (.slice A629 q615.1.plan.length c630), (.int .i64 q615.1.cost), (.int .i64 q615.1.expanded)] := h29
  refine o_as rfl rfl (o_z ?_)
  refine ewp_ret ?_
  obtain rfl := sm hm
  replace hB := (hB.st S619).st S636
  replace h628 := h628.st S636
  exact ret2 rfl (res_cell (cs := [(.int .i64 q615.1.verdict), (.slice A629 q615.1.plan.length c630), (.int .i64 q615.1.cost), (.int .i64 q615.1.expanded)]) rfl rfl h29.1.cellsAt) (res_tmp rfl) ⟨hB.ext, _, _, rfl, (Vb.mono (F := Fr 0 w635 O618) (Vb.ofAgg (cs := [(.int .i64 q615.1.verdict), (.slice A629 q615.1.plan.length c630), (.int .i64 q615.1.cost), (.int .i64 q615.1.expanded)]) (x := q615.1) rfl ⟨_, rfl, h628, r631, r632, r633⟩) hB.out), (vErr r634)⟩
end
section
open Go Go.RowKit
attribute [local irreducible] ewp owp hwp hwq hws Ev Evg Fn retPost loud loudS Res1
noncomputable def m_repair_Distance (x0 : List ByteArray) (x1 : List ByteArray) : Option Int :=
  bnd (chkI ((x1.length : Int) + 1)) fun n9 => bnd (mkI 8 (0 : Int) n9) fun u12 => bnd (rngN (ρ := Int) (fun (k31 : Nat) (s29 : (List Int)) => bnd (s29[k31]?) fun a50 => some (.next (s29.set k31 (k31 : Int)))) u12.length u12) fun res27 => fin res27 fun (s66 : (List Int)) => bnd (rng (ρ := Int) (fun (k74 : Nat) (a75 : ByteArray) (s72 : (List Int)) => bnd (chkI ((x1.length : Int) + 1)) fun n99 => bnd (mkI 8 (0 : Int) n99) fun u102 => bnd (chkI ((k74 : Int) + 1)) fun n115 => bnd (atI u102 0) fun a118 => bnd (rng (ρ := Ctl (List Int) Int) (fun (k138 : Nat) (a139 : ByteArray) (s136 : (List Int)) => bnd (chkI ((k138 : Int) + 1)) fun n161 => bnd (s136[k138]?) fun a164 => bnd (chkI ((k138 : Int) + 1)) fun n174 => bnd (atI s72 n174) fun a177 => bnd (chkI ((min a164 a177) + 1)) fun n189 => bnd (atI s136 n161) fun a192 => if a75 = a139 then (bnd (chkI ((k138 : Int) + 1)) fun n207 => bnd (chkI ((k138 : Int) + 1)) fun n210 => bnd (atI (s136.set (n161 : Int).toNat n189) n210) fun a213 => bnd (s72[k138]?) fun a225 => bnd (atI (s136.set (n161 : Int).toNat n189) n207) fun a235 => some (.next ((s136.set (n161 : Int).toNat n189).set (n207 : Int).toNat (min a213 a225)))) else (some (.next (s136.set (n161 : Int).toNat n189)))) x1 0 (u102.set (0 : Int).toNat n115)) fun res134 => fin res134 fun (s253 : (List Int)) => some (.next s253)) x0 0 s66) fun res70 => fin res70 fun (s261 : (List Int)) => bnd (s261[x1.length]?) fun a265 => some a265
theorem c_repair_Distance {w : World} {A : Nat → Prop} (hA : ∀ k, A k → k < w.heap.size) {vx0 : Value} {x0 : List ByteArray} (hx0 : Vb w A vx0 x0) {vx1 : Value} {x1 : List ByteArray} (hx1 : Vb w A vx1 x1) {r : Int} (hm : m_repair_Distance x0 x1 = some r) :
    Fn Try.prog 9 [vx0, vx1] w fun v w' => Ext w w' ∧ Vb w' (upA A w w') v r := by
 obtain ⟨O, hB, hA0⟩ := enter hA
 replace hx0 := hx0.mono hA0
 obtain ⟨A3, c4, rfl⟩ := hx0.form
 replace hx1 := hx1.mono hA0
 obtain ⟨A5, c6, rfl⟩ := hx1.form
 refine fn_enter Try.func9 rfl Try.ntmps9 rfl ?_
 unfold m_repair_Distance at hm
 refine ewp_seq (ewp_region (o_as rfl rfl (o_z ?_)))
 refine ewp_seq (ewp_region (o_mv rfl rfl (o_ln rfl rfl ?_)))
 have l8 : x1.length ≤ 9223372036854775807 := Nat.le_trans hx1.len.2.1 hx1.len.2.2
 have r7 : inI64 (x1.length : Int) := rngNat l8
 obtain ⟨n9, e10, hm⟩ := bs hm
 have r11 := (chkI_rng e10)
 refine o_adE (he := e10) rfl rfl rfl ?_
 obtain ⟨u12, e13, hm⟩ := bs hm
 obtain ⟨m14, e15, e16, e17, e18⟩ := mkI_some e13
 refine l_make 2 (by decide) O (z0 := (0 : Int)) rfl rfl rfl rfl rfl e15 (vInt (show inI64 0 from by decide)) e16 e17 rfl fun g19 w20 O21 S22 h23 => ?_
 rw [← e18] at h23 ⊢
 refine o_as rfl rfl (o_z ?_)
 refine ewp_seq (ewp_seq (ewp_region (o_mv rfl rfl (o_ln rfl rfl ?_))))
 have l26 : u12.length ≤ 9223372036854775807 := Nat.le_trans h23.len.2.1 h23.len.2.2
 have r25 : inI64 (u12.length : Int) := rngNat l26
 refine o_mv rfl rfl (o_z ?_)
 obtain ⟨res27, hL28, hm⟩ := bs hm
 refine ewp_join (aft res27 (fun (s29 : (List Int)) (x30 : Unit) => [(0, (.slice A3 x0.length c4)), (1, (.slice A5 x1.length c6)), (5, (.slice (some ⟨g19, 0, none⟩) u12.length m14))]) (fun s29 x30 w' => ∃ O' : Lab, Bs w A w' O' ∧ Vb w' (Fr 0 w' O') (.slice A3 x0.length c4) x0 ∧ Vb w' (Fr 0 w' O') (.slice A5 x1.length c6) x1 ∧ Rw 2 w' O' 3 (.slice (some ⟨g19, 0, none⟩) u12.length m14) s29)) ?_ ?_
 ·
  refine ewp_block ?_
  replace hB := hB.st S22
  replace hx0 := hx0.st S22
  replace hx1 := hx1.st S22
  refine ewp_rngN (σ := (List Int)) (X := Unit) (u12.length) hL28 l26 (fun (s29 : (List Int)) (x30 : Unit) => [(0, (.slice A3 x0.length c4)), (1, (.slice A5 x1.length c6)), (5, (.slice (some ⟨g19, 0, none⟩) u12.length m14))]) _ (fun s29 x30 w' => ∃ O' : Lab, Bs w A w' O' ∧ Vb w' (Fr 0 w' O') (.slice A3 x0.length c4) x0 ∧ Vb w' (Fr 0 w' O') (.slice A5 x1.length c6) x1 ∧ Rw 2 w' O' 3 (.slice (some ⟨g19, 0, none⟩) u12.length m14) s29) _ () ⟨O21, hB, hx0, hx1, h23⟩ ⟨rfl, rfl, rfl, rfl, rfl, trivial⟩ (fun _ _ => ⟨rfl, rfl⟩) (fun _ _ => ⟨rfl, rfl, rfl, trivial⟩) (fun _ _ _ ⟨O', hB, hx0, hx1, h48⟩ => ⟨O', hB, hx0, hx1, h48⟩) ⟨rfl, rfl, rfl⟩ ⟨rfl, rfl⟩ ?_
  rintro k31 s29 x30 w33 cc35 hx36 ⟨O34, hB, hx0, hx1, h48⟩ hf37 hret38 hbrk39
  have rk31 : inI64 (k31 : Int) := rngKN hx36 l26
  refine ewp_seq (ewp_region (o_mv rfl rfl (o_as rfl rfl (o_z ?_))))
  refine ewp_region (o_mv rfl rfl (o_mv rfl rfl (o_mv rfl rfl ?_)))
  obtain ⟨a50, e51, hf37⟩ := bs hf37
  obtain ⟨b52, o53, ce54, hA55, hl56, hd57, rfl, r59⟩ := h48.elem e51
  refine o_iaE (hA := hA55) (hj := rfl) (hlt := hl56) rfl rfl rfl ?_
  refine l_setE rfl h48 (a := (k31 : Int)) (vInt rk31) hA55 rfl rfl (lt_of_get e51) fun w60 S61 h48 => ?_
  refine o_z ?_
  obtain rfl := sm hf37
  refine (?_ : Exists _)
  replace hB := hB.st S61
  replace hx0 := hx0.st S61
  replace hx1 := hx1.st S61
  exact ⟨_, (), rfl, ⟨rfl, rfl, rfl, rfl, rfl, trivial⟩, _, hB, hx0, hx1, h48⟩
 replace hB := hB.st S22
 replace hx0 := hx0.st S22
 replace hx1 := hx1.st S22
 rintro l62 w63 ⟨s66, x67, rfl, hs65, O64, hB, hx0, hx1, h48⟩
 replace hm := fin_done hm
 refine ewp_sub _ hs65 ?_
 refine ewp_seq (ewp_seq (ewp_region (o_mv rfl rfl (o_ln rfl rfl ?_))))
 have l69 : x0.length ≤ 9223372036854775807 := Nat.le_trans hx0.len.2.1 hx0.len.2.2
 have r68 : inI64 (x0.length : Int) := rngNat l69
 refine o_mv rfl rfl (o_z ?_)
 obtain ⟨res70, hL71, hm⟩ := bs hm
 refine ewp_join (aft res70 (fun (s72 : (List Int)) (x73 : (Option Addr × Nat)) => [(1, (.slice A5 x1.length c6)), (5, (.slice x73.1 s72.length x73.2))]) (fun s72 x73 w' => ∃ O' : Lab, Bs w A w' O' ∧ Vb w' (Fr 0 w' O') (.slice A5 x1.length c6) x1 ∧ Vb w' (Fr 0 w' O') (.slice x73.1 s72.length x73.2) s72)) ?_ ?_
 ·
  refine ewp_block ?_
  obtain ⟨O87, S88, h48⟩ := h48.freeze
  replace hB := hB.st S88
  replace hx0 := hx0.st S88
  replace hx1 := hx1.st S88
  refine ewp_rng (σ := (List Int)) (X := (Option Addr × Nat)) (x0.length) hL71 rfl l69 (fun (s72 : (List Int)) (x73 : (Option Addr × Nat)) => [(1, (.slice A5 x1.length c6)), (5, (.slice x73.1 s72.length x73.2)), (26, (.slice A3 x0.length c4))]) _ (fun s72 x73 w' => ∃ O' : Lab, Bs w A w' O' ∧ Vb w' (Fr 0 w' O') (.slice A5 x1.length c6) x1 ∧ Vb w' (Fr 0 w' O') (.slice x73.1 s72.length x73.2) s72 ∧ Vb w' (Fr 0 w' O') (.slice A3 x0.length c4) x0) _ ((some ⟨g19, 0, none⟩), m14) ⟨O87, hB, hx1, h48.relen, hx0⟩ ⟨rfl, rfl, rfl, (congrArg (fun n => some (Value.slice _ n _)) h48.len.1.symm.symm), rfl, trivial⟩ (fun _ _ => ⟨rfl, rfl⟩) (fun _ _ => ⟨rfl, rfl, trivial⟩) (fun _ _ _ ⟨O', hB, hx1, h86, hx0⟩ => ⟨O', hB, hx1, h86⟩) ⟨rfl, rfl, rfl⟩ ⟨rfl, rfl⟩ ?_
  rintro k74 a75 s72 x73 w76 cc78 hx79 ⟨O77, hB, hx1, h86, hx0⟩ hf80 hret81 hbrk82
  have rk74 : inI64 (k74 : Int) := rngK hx79 l69
  refine ewp_seq (ewp_region (o_mv rfl rfl ?_))
  obtain ⟨b89, o90, ce91, hA92, hl93, hd94, rfl, z96⟩ := hx0.elem' hx79
  refine o_iaE (hA := hA92) (hj := rfl) (hlt := hl93) rfl rfl rfl ?_
  refine o_ld (hc := cat0 hd94) rfl rfl ?_
  refine o_as rfl rfl (o_as rfl rfl (o_z ?_))
  refine ewp_seq (ewp_region (o_mv rfl rfl (o_ln rfl rfl ?_)))
  have l98 : x1.length ≤ 9223372036854775807 := Nat.le_trans hx1.len.2.1 hx1.len.2.2
  have r97 : inI64 (x1.length : Int) := rngNat l98
  obtain ⟨n99, e100, hf80⟩ := bs hf80
  have r101 := (chkI_rng e100)
  refine o_adE (he := e100) rfl rfl rfl ?_
  obtain ⟨u102, e103, hf80⟩ := bs hf80
  obtain ⟨m104, e105, e106, e107, e108⟩ := mkI_some e103
  refine l_make 3 (by decide) O77 (z0 := (0 : Int)) rfl rfl rfl rfl rfl e105 (vInt (show inI64 0 from by decide)) e106 e107 rfl fun g109 w110 O111 S112 h113 => ?_
  rw [← e108] at h113 ⊢
  refine o_as rfl rfl (o_z ?_)
  refine ewp_seq (ewp_region (o_mv rfl rfl (o_mv rfl rfl ?_)))
  obtain ⟨n115, e116, hf80⟩ := bs hf80
  have r117 := (chkI_rng e116)
  refine o_adE (he := e116) rfl rfl rfl ?_
  obtain ⟨a118, e119, hf80⟩ := bs hf80
  obtain ⟨p121, x120⟩ := atI_some' e119
  obtain ⟨b122, o123, ce124, hA125, hl126, hd127, rfl, r129⟩ := h113.elem x120
  refine o_iaE (hA := hA125) (hj := (Int.toNat_of_nonneg p121).symm) (hlt := hl126) rfl rfl rfl ?_
  refine l_setE rfl h113 (a := n115) (vInt r117) hA125 rfl rfl (lt_of_get x120) fun w130 S131 h113 => ?_
  refine o_z ?_
  refine ewp_seq (ewp_seq (ewp_region (o_mv rfl rfl (o_ln rfl rfl ?_))))
  replace hx1 := (hx1.st S112).st S131
  have l133 : x1.length ≤ 9223372036854775807 := Nat.le_trans hx1.len.2.1 hx1.len.2.2
  have r132 : inI64 (x1.length : Int) := rngNat l133
  refine o_mv rfl rfl (o_z ?_)
  obtain ⟨res134, hL135, hf80⟩ := bs hf80
  refine ewp_join (aft res134 (fun (s136 : (List Int)) (x137 : Unit) => [(1, (.slice A5 x1.length c6)), (9, (.slice (some ⟨g109, 0, none⟩) u102.length m104)), (26, (.slice A3 x0.length c4)), (27, (.int .i64 (x0.length : Int))), (28, (.int .i64 (k74 : Int)))]) (fun s136 x137 w' => ∃ O' : Lab, Bs w A w' O' ∧ Vb w' (Fr 0 w' O') (.slice A5 x1.length c6) x1 ∧ Rw 3 w' O' 3 (.slice (some ⟨g109, 0, none⟩) u102.length m104) s136 ∧ Vb w' (Fr 0 w' O') (.slice A3 x0.length c4) x0)) ?_ ?_
  ·
   refine ewp_block ?_
   replace hB := (hB.st S112).st S131
   replace hx0 := (hx0.st S112).st S131
   replace h86 := (h86.st S112).st S131
   refine ewp_rng (σ := (List Int)) (X := Unit) (x1.length) hL135 rfl l133 (fun (s136 : (List Int)) (x137 : Unit) => [(1, (.slice A5 x1.length c6)), (5, (.slice x73.1 s72.length x73.2)), (8, (.string a75)), (9, (.slice (some ⟨g109, 0, none⟩) u102.length m104)), (26, (.slice A3 x0.length c4)), (27, (.int .i64 (x0.length : Int))), (28, (.int .i64 (k74 : Int))), (41, (.slice A5 x1.length c6))]) _ (fun s136 x137 w' => ∃ O' : Lab, Bs w A w' O' ∧ Vb w' (Fr 0 w' O') (.slice A5 x1.length c6) x1 ∧ Vb w' (Fr 0 w' O') (.slice x73.1 s72.length x73.2) s72 ∧ Rw 3 w' O' 3 (.slice (some ⟨g109, 0, none⟩) u102.length m104) s136 ∧ Vb w' (Fr 0 w' O') (.slice A3 x0.length c4) x0) _ () ⟨O111, hB, hx1, h86, h113, hx0⟩ ⟨rfl, rfl, rfl, rfl, rfl, rfl, rfl, rfl, rfl, rfl, trivial⟩ (fun _ _ => ⟨rfl, rfl⟩) (fun _ _ => ⟨rfl, rfl, rfl, rfl, rfl, trivial⟩) (fun _ _ _ ⟨O', hB, hx1, h86, h151, hx0⟩ => ⟨O', hB, hx1, h151, hx0⟩) ⟨rfl, rfl, rfl⟩ ⟨rfl, rfl⟩ ?_
   rintro k138 a139 s136 x137 w140 cc142 hx143 ⟨O141, hB, hx1, h86, h151, hx0⟩ hf144 hret145 hbrk146
   have rk138 : inI64 (k138 : Int) := rngK hx143 l133
   refine ewp_seq (ewp_region (o_mv rfl rfl ?_))
   obtain ⟨b153, o154, ce155, hA156, hl157, hd158, rfl, z160⟩ := hx1.elem' hx143
   refine o_iaE (hA := hA156) (hj := rfl) (hlt := hl157) rfl rfl rfl ?_
   refine o_ld (hc := cat0 hd158) rfl rfl ?_
   refine o_as rfl rfl (o_as rfl rfl (o_z ?_))
   refine ewp_seq (ewp_drawX [] O141 ?_)
   refine x_pre (fuel := 1) [] [(0, true), (1, true), (2, true), (3, true), (4, true), (5, true), (6, true), (7, true), (8, true), (9, true), (10, true), (11, true), (12, true), (13, true), (14, true)] (by kernel_rfl) rfl ?_
   refine h_mv rfl rfl rfl (h_mv rfl rfl rfl ?_)
   obtain ⟨n161, e162, hf144⟩ := bs hf144
   have r163 := (chkI_rng e162)
   refine h_adE (he := e162) rfl rfl rfl rfl ?_
   refine h_mv rfl rfl rfl (h_mv rfl rfl rfl ?_)
   obtain ⟨a164, e165, hf144⟩ := bs hf144
   obtain ⟨b166, o167, ce168, hA169, hF172, hl170, hd171, rfl, r173⟩ := h151.elemF e165
   refine h_iaE (hA := hA169) (hj := rfl) (hlt := hl170) rfl rfl rfl rfl ?_
   refine h_ldC (hc := fun w' ⟨O', hq⟩ => cat0 (cellsAt_agree (hq.agree (i := 3) (by decide)) hF172 hd171)) rfl rfl rfl ?_
   refine h_mv rfl rfl rfl (h_mv rfl rfl rfl ?_)
   obtain ⟨n174, e175, hf144⟩ := bs hf144
   have r176 := (chkI_rng e175)
   refine h_adE (he := e175) rfl rfl rfl rfl ?_
   obtain ⟨a177, e178, hf144⟩ := bs hf144
   obtain ⟨p180, x179⟩ := atI_some' e178
   obtain ⟨b181, o182, ce183, hA184, hF187, hl185, hd186, rfl, r188⟩ := h86.elem x179
   refine h_iaE (hA := hA184) (hj := (Int.toNat_of_nonneg p180).symm) (hlt := hl185) rfl rfl rfl rfl ?_
   refine h_ldC (hc := fun w' ⟨O', hq⟩ => cat0 (cellsAt_agree (hq.agree (i := 0) (by decide)) hF187 hd186)) rfl rfl rfl ?_
   refine h_min rfl rfl rfl rfl ?_
   obtain ⟨n189, e190, hf144⟩ := bs hf144
   have r191 := (chkI_rng e190)
   refine h_adE (he := e190) rfl rfl rfl rfl ?_
   obtain ⟨a192, e193, hf144⟩ := bs hf144
   obtain ⟨p195, x194⟩ := atI_some' e193
   obtain ⟨b196, o197, ce198, hA199, hF202, hl200, hd201, rfl, r203⟩ := h151.elemF x194
   refine h_iaE (hA := hA199) (hj := (Int.toNat_of_nonneg p195).symm) (hlt := hl200) rfl rfl rfl rfl ?_
   refine hwp_nilT ?_
   refine x_one (i := 15) (by kernel_rfl) rfl ?_
   refine l_setE rfl h151 (a := n189) (vInt r191) hA199 rfl rfl (lt_of_get x194) fun w204 S205 h151 => ?_
   refine x_end (by kernel_rfl) ?_
   refine x_nil (by kernel_rfl) ?_
   refine ewp_seq (ewp_region (o_mv rfl rfl (o_mv rfl rfl (o_teS rfl rfl rfl (fun c206 => ?_) fun c206 => ?_))))
   ·
    replace hf144 := ip hf144 c206
    refine o_z ?_
    refine ewp_true rfl (ewp_drawX [] O141 ?_)
    refine x_pre (fuel := 1) [] [(0, true), (1, true), (2, true), (3, true), (4, true), (5, true), (6, true), (7, true), (8, true), (9, true), (10, true), (11, true), (12, true), (13, true)] (by kernel_rfl) rfl ?_
    refine h_mv rfl rfl rfl (h_mv rfl rfl rfl ?_)
    obtain ⟨n207, e208, hf144⟩ := bs hf144
    have r209 := (chkI_rng e208)
    refine h_adE (he := e208) rfl rfl rfl rfl ?_
    refine h_mv rfl rfl rfl (h_mv rfl rfl rfl ?_)
    obtain ⟨n210, e211, hf144⟩ := bs hf144
    have r212 := (chkI_rng e211)
    refine h_adE (he := e211) rfl rfl rfl rfl ?_
    obtain ⟨a213, e214, hf144⟩ := bs hf144
    obtain ⟨p216, x215⟩ := atI_some' e214
    obtain ⟨b217, o218, ce219, hA220, hF223, hl221, hd222, rfl, r224⟩ := h151.elemF x215
    refine h_iaE (hA := hA220) (hj := (Int.toNat_of_nonneg p216).symm) (hlt := hl221) rfl rfl rfl rfl ?_
    refine h_ldC (hc := fun w' ⟨O', hq⟩ => cat0 (cellsAt_agree (hq.agree (i := 3) (by decide)) hF223 hd222)) rfl rfl rfl ?_
    refine h_mv rfl rfl rfl (h_mv rfl rfl rfl ?_)
    obtain ⟨a225, e226, hf144⟩ := bs hf144
    replace h86 := h86.st S205
    obtain ⟨b227, o228, ce229, hA230, hF233, hl231, hd232, rfl, r234⟩ := h86.elem e226
    refine h_iaE (hA := hA230) (hj := rfl) (hlt := hl231) rfl rfl rfl rfl ?_
    refine h_ldC (hc := fun w' ⟨O', hq⟩ => cat0 (cellsAt_agree (hq.agree (i := 0) (by decide)) hF233 hd232)) rfl rfl rfl ?_
    refine h_min rfl rfl rfl rfl ?_
    obtain ⟨a235, e236, hf144⟩ := bs hf144
    obtain ⟨p238, x237⟩ := atI_some' e236
    obtain ⟨b239, o240, ce241, hA242, hF245, hl243, hd244, rfl, r246⟩ := h151.elemF x237
    refine h_iaE (hA := hA242) (hj := (Int.toNat_of_nonneg p238).symm) (hlt := hl243) rfl rfl rfl rfl ?_
    refine hwp_nilT ?_
    refine x_one (i := 14) (by kernel_rfl) rfl ?_
    refine l_setE rfl h151 (a := (min a213 a225)) (vInt (rngMin r224 r234)) hA242 rfl rfl (lt_of_get x237) fun w247 S248 h151 => ?_
    refine x_end (by kernel_rfl) ?_
    refine x_nil (by kernel_rfl) ?_
    obtain rfl := sm hf144
    refine (?_ : Exists _)
    replace hB := (hB.st S205).st S248
    replace hx0 := (hx0.st S205).st S248
    replace hx1 := (hx1.st S205).st S248
    replace h86 := h86.st S248
    exact ⟨_, (), rfl, ⟨rfl, rfl, rfl, rfl, rfl, rfl, rfl, rfl, rfl, rfl, trivial⟩, _, hB, hx1, h86, h151, hx0⟩
   ·
    replace hf144 := im hf144 c206
    refine o_z ?_
    refine ewp_false rfl (ewp_skip ?_)
    obtain rfl := sm hf144
    refine (?_ : Exists _)
    replace hB := hB.st S205
    replace hx0 := hx0.st S205
    replace hx1 := hx1.st S205
    replace h86 := h86.st S205
    exact ⟨_, (), rfl, ⟨rfl, rfl, rfl, rfl, rfl, rfl, rfl, rfl, rfl, rfl, trivial⟩, _, hB, hx1, h86, h151, hx0⟩
  replace hB := (hB.st S112).st S131
  replace hx0 := (hx0.st S112).st S131
  rintro l249 w250 ⟨s253, x254, rfl, hs252, O251, hB, hx1, h151, hx0⟩
  replace hf80 := fin_done hf80
  refine ewp_sub _ hs252 ?_
  refine ewp_region (o_mv rfl rfl (o_as rfl rfl (o_z ?_)))
  obtain ⟨O255, S256, h151⟩ := h151.freeze
  obtain rfl := sm hf80
  refine (?_ : Exists _)
  replace hB := hB.st S256
  replace hx0 := hx0.st S256
  replace hx1 := hx1.st S256
  exact ⟨_, ((some ⟨g109, 0, none⟩), m104), rfl, ⟨rfl, rfl, rfl, (congrArg (fun n => some (Value.slice _ n _)) h151.len.1.symm.symm), rfl, trivial⟩, _, hB, hx1, h151.relen, hx0⟩
 rintro l257 w258 ⟨s261, x262, rfl, hs260, O259, hB, hx1, h86⟩
 replace hm := fin_done hm
 refine ewp_sub _ hs260 ?_
 refine ewp_seq (ewp_region (o_mv rfl rfl (o_mv rfl rfl (o_ln rfl rfl ?_))))
 have l264 : x1.length ≤ 9223372036854775807 := Nat.le_trans hx1.len.2.1 hx1.len.2.2
 have r263 : inI64 (x1.length : Int) := rngNat l264
 obtain ⟨a265, e266, hm⟩ := bs hm
 obtain ⟨b267, o268, ce269, hA270, hl271, hd272, rfl, r274⟩ := h86.elem' e266
 refine o_iaE (hA := hA270) (hj := rfl) (hlt := hl271) rfl rfl rfl ?_
 refine o_ld (hc := cat0 hd272) rfl rfl ?_
 refine o_as rfl rfl (o_z ?_)
 refine ewp_ret ?_
 obtain rfl := sm hm
 exact ret1v rfl (res_tmp rfl) ⟨hB.ext, (vInt r274)⟩
noncomputable def m_base_Texts (x0 : List ByteArray) (x1 : List ByteArray) : Option Bool :=
  if (x0.length : Int) ≠ (x1.length : Int) then (some false) else (bnd (rng (ρ := Bool) (fun (k18 : Nat) (a19 : ByteArray) (s16 : Unit) => bnd (x1[k18]?) fun a37 => if a19 ≠ a37 then (some (.ret false)) else (some (.next ()))) x0 0 ()) fun res14 => fin res14 fun (s52 : Unit) => some true)
theorem c_base_Texts {w : World} {A : Nat → Prop} (hA : ∀ k, A k → k < w.heap.size) {vx0 : Value} {x0 : List ByteArray} (hx0 : Vb w A vx0 x0) {vx1 : Value} {x1 : List ByteArray} (hx1 : Vb w A vx1 x1) {r : Bool} (hm : m_base_Texts x0 x1 = some r) :
    Fn Try.prog 11 [vx0, vx1] w fun v w' => Ext w w' ∧ Vb w' (upA A w w') v r := by
 obtain ⟨O, hB, hA0⟩ := enter hA
 replace hx0 := hx0.mono hA0
 obtain ⟨A3, c4, rfl⟩ := hx0.form
 replace hx1 := hx1.mono hA0
 obtain ⟨A5, c6, rfl⟩ := hx1.form
 refine fn_enter Try.func11 rfl Try.ntmps11 rfl ?_
 unfold m_base_Texts at hm
 refine ewp_seq (ewp_region (o_as rfl rfl (o_z ?_)))
 refine ewp_seq (ewp_seq (ewp_region (o_mv rfl rfl (o_ln rfl rfl ?_))))
 have l8 : x0.length ≤ 9223372036854775807 := Nat.le_trans hx0.len.2.1 hx0.len.2.2
 have r7 : inI64 (x0.length : Int) := rngNat l8
 refine o_mv rfl rfl (o_ln rfl rfl ?_)
 have l10 : x1.length ≤ 9223372036854775807 := Nat.le_trans hx1.len.2.1 hx1.len.2.2
 have r9 : inI64 (x1.length : Int) := rngNat l10
 refine o_neS rfl rfl rfl (fun c11 => ?_) fun c11 => ?_
 ·
  replace hm := ip hm c11
  refine o_z ?_
  refine ewp_true rfl (ewp_seq (ewp_region (o_as rfl rfl (o_z ?_))))
  refine ewp_ret ?_
  obtain rfl := sm hm
  exact ret1v rfl (res_tmp rfl) ⟨hB.ext, vBool⟩
 ·
  replace hm := im hm c11
  refine o_z ?_
  refine ewp_false rfl (ewp_skip (ewp_seq (ewp_seq (ewp_region (o_mv rfl rfl (o_ln rfl rfl ?_))))))
  have l13 : x0.length ≤ 9223372036854775807 := Nat.le_trans hx0.len.2.1 hx0.len.2.2
  have r12 : inI64 (x0.length : Int) := rngNat l13
  refine o_mv rfl rfl (o_z ?_)
  obtain ⟨res14, hL15, hm⟩ := bs hm
  refine ewp_join (aft res14 (fun (s16 : Unit) (x17 : Unit) => []) (fun s16 x17 w' => ∃ O' : Lab, Bs w A w' O')) ?_ ?_
  ·
   refine ewp_block (ewp_rng (σ := Unit) (X := Unit) (x0.length) hL15 rfl l13 (fun (s16 : Unit) (x17 : Unit) => [(0, (.slice A3 x0.length c4)), (1, (.slice A5 x1.length c6))]) _ (fun s16 x17 w' => ∃ O' : Lab, Bs w A w' O' ∧ Vb w' (Fr 0 w' O') (.slice A3 x0.length c4) x0 ∧ Vb w' (Fr 0 w' O') (.slice A5 x1.length c6) x1) _ () ⟨O, hB, hx0, hx1⟩ ⟨rfl, rfl, rfl, rfl, trivial⟩ (fun _ _ => ⟨rfl, rfl⟩) (fun _ _ => trivial) (fun _ _ _ ⟨O', hB, hx0, hx1⟩ => ⟨O', hB⟩) ⟨rfl, rfl, rfl⟩ ⟨rfl, rfl⟩ ?_)
   rintro k18 a19 s16 x17 w20 cc22 hx23 ⟨O21, hB, hx0, hx1⟩ hf24 hret25 hbrk26
   have rk18 : inI64 (k18 : Int) := rngK hx23 l13
   refine ewp_seq (ewp_region (o_mv rfl rfl (o_as rfl rfl (o_z ?_))))
   refine ewp_seq (ewp_draw (· = w20) [(0, true), (1, true), (2, true), (3, true), (4, true), (5, true), (6, true), (7, true), (8, true)] (by kernel_rfl) rfl (by kernel_rfl) rfl ?_)
   refine h_mv rfl rfl rfl (h_mv rfl rfl rfl ?_)
   obtain ⟨b29, o30, ce31, hA32, hl33, hd34, rfl, z36⟩ := hx0.elem' hx23
   refine h_iaE (hA := hA32) (hj := rfl) (hlt := hl33) rfl rfl rfl rfl ?_
   refine h_ldA (hc := cat0 hd34) rfl rfl rfl ?_
   refine h_mv rfl rfl rfl (h_mv rfl rfl rfl ?_)
   obtain ⟨a37, e38, hf24⟩ := bs hf24
   obtain ⟨b39, o40, ce41, hA42, hl43, hd44, rfl, z46⟩ := hx1.elem' e38
   refine h_iaE (hA := hA42) (hj := rfl) (hlt := hl43) rfl rfl rfl rfl ?_
   refine h_ldA (hc := cat0 hd44) rfl rfl rfl ?_
   refine h_tnS rfl rfl rfl rfl (fun c47 => ?_) fun c47 => ?_
   ·
    replace hf24 := ip hf24 c47
    refine h_z ?_
    refine ewp_true rfl (ewp_seq (ewp_region (o_as rfl rfl (o_z ?_))))
    refine ewp_ret ?_
    obtain rfl := sm hf24
    obtain rfl := hret25 _ rfl
    obtain rfl := sm (fin_ret hm)
    exact ret1v rfl (res_tmp rfl) ⟨hB.ext, vBool⟩
   ·
    replace hf24 := im hf24 c47
    refine h_z ?_
    refine ewp_false rfl (ewp_skip ?_)
    obtain rfl := sm hf24
    refine (?_ : Exists _)
    exact ⟨_, (), rfl, ⟨rfl, rfl, rfl, rfl, trivial⟩, _, hB, hx0, hx1⟩
  rintro l48 w49 ⟨s52, x53, rfl, hs51, O50, hB⟩
  replace hm := fin_done hm
  refine ewp_sub _ hs51 ?_
  refine ewp_seq (ewp_region (o_as rfl rfl (o_z ?_)))
  refine ewp_ret ?_
  obtain rfl := sm hm
  exact ret1v rfl (res_tmp rfl) ⟨hB.ext, vBool⟩
noncomputable def m_law60_long (x0 : List ByteArray) : Option Bool :=
  bnd (rng (ρ := Bool) (fun (k12 : Nat) (a13 : ByteArray) (s10 : Int) => some (.next (wr (s10 + (a13.size : Int))))) x0 0 (x0.length : Int)) fun res8 => fin res8 fun (s38 : Int) => bnd (if 600 < s38 then (some true) else (some false) : Option Bool) fun y40 => some y40
theorem c_law60_long {w : World} {A : Nat → Prop} (hA : ∀ k, A k → k < w.heap.size) {vx0 : Value} {x0 : List ByteArray} (hx0 : Vb w A vx0 x0) {r : Bool} (hm : m_law60_long x0 = some r) :
    Fn Try.prog 7 [vx0] w fun v w' => Ext w w' ∧ Vb w' (upA A w w') v r := by
 obtain ⟨O, hB, hA0⟩ := enter hA
 replace hx0 := hx0.mono hA0
 obtain ⟨A2, c3, rfl⟩ := hx0.form
 refine fn_enter Try.func7 rfl Try.ntmps7 rfl ?_
 unfold m_law60_long at hm
 refine ewp_seq (ewp_region (o_as rfl rfl (o_z ?_)))
 refine ewp_seq (ewp_region (o_mv rfl rfl (o_ln rfl rfl ?_)))
 have l5 : x0.length ≤ 9223372036854775807 := Nat.le_trans hx0.len.2.1 hx0.len.2.2
 have r4 : inI64 (x0.length : Int) := rngNat l5
 refine o_as rfl rfl (o_z ?_)
 refine ewp_seq (ewp_seq (ewp_region (o_mv rfl rfl (o_ln rfl rfl ?_))))
 have l7 : x0.length ≤ 9223372036854775807 := Nat.le_trans hx0.len.2.1 hx0.len.2.2
 have r6 : inI64 (x0.length : Int) := rngNat l7
 refine o_mv rfl rfl (o_z ?_)
 obtain ⟨res8, hL9, hm⟩ := bs hm
 refine ewp_join (aft res8 (fun (s10 : Int) (x11 : Unit) => [(3, (.int .i64 s10))]) (fun s10 x11 w' => ∃ O' : Lab, Bs w A w' O' ∧ inI64 s10)) ?_ ?_
 ·
  refine ewp_block (ewp_rng (σ := Int) (X := Unit) (x0.length) hL9 rfl l7 (fun (s10 : Int) (x11 : Unit) => [(3, (.int .i64 s10)), (8, (.slice A2 x0.length c3))]) _ (fun s10 x11 w' => ∃ O' : Lab, Bs w A w' O' ∧ Vb w' (Fr 0 w' O') (.slice A2 x0.length c3) x0 ∧ inI64 s10) _ () ⟨O, hB, hx0, r4⟩ ⟨rfl, rfl, rfl, rfl, trivial⟩ (fun _ _ => ⟨rfl, rfl⟩) (fun _ _ => ⟨rfl, trivial⟩) (fun _ _ _ ⟨O', hB, hx0, r24⟩ => ⟨O', hB, r24⟩) ⟨rfl, rfl, rfl⟩ ⟨rfl, rfl⟩ ?_)
  rintro k12 a13 s10 x11 w14 cc16 hx17 ⟨O15, hB, hx0, r24⟩ hf18 hret19 hbrk20
  have rk12 : inI64 (k12 : Int) := rngK hx17 l7
  refine ewp_seq (ewp_region ?_)
  obtain ⟨b25, o26, ce27, hA28, hl29, hd30, rfl, z32⟩ := hx0.elem' hx17
  refine o_iaE (hA := hA28) (hj := rfl) (hlt := hl29) rfl rfl rfl ?_
  refine o_ld (hc := cat0 hd30) rfl rfl ?_
  refine o_as rfl rfl (o_z ?_)
  refine ewp_region (o_mv rfl rfl (o_mv rfl rfl (o_ls rfl rfl ?_)))
  have r33 : inI64 (a13.size : Int) := rngNat z32
  refine o_adW rfl rfl rfl ?_
  refine o_as rfl rfl (o_z ?_)
  obtain rfl := sm hf18
  refine (?_ : Exists _)
  exact ⟨_, (), rfl, ⟨rfl, rfl, rfl, rfl, trivial⟩, _, hB, hx0, (wr_rng _)⟩
 rintro l34 w35 ⟨s38, x39, rfl, hs37, O36, hB, r24⟩
 replace hm := fin_done hm
 refine ewp_sub _ hs37 ?_
 refine ewp_seq ?_
 obtain ⟨y40, hy41, hm⟩ := bs hm
 refine ewp_join (fun l' w' => ∃ (x43 : Unit) (O' : Lab), subs l' [(2, (.bool y40))] ∧ Bs w A w' O') ?_ ?_
 ·
  refine ewp_region (o_mv rfl rfl (o_gtS rfl rfl rfl (fun c44 => ?_) fun c44 => ?_))
  ·
   replace hy41 := ip hy41 c44
   refine o_as rfl rfl (o_z ?_)
   obtain rfl := sm hy41
   exact ⟨(), _, ⟨rfl, trivial⟩, hB⟩
  ·
   replace hy41 := im hy41 c44
   refine o_as rfl rfl (o_z ?_)
   obtain rfl := sm hy41
   exact ⟨(), _, ⟨rfl, trivial⟩, hB⟩
 rintro l45 w46 ⟨x43, O47, hs48, hB⟩
 refine ewp_sub _ hs48 ?_
 refine ewp_ret ?_
 obtain rfl := sm hm
 exact ret1v rfl (res_tmp rfl) ⟨hB.ext, vBool⟩
end
section
open Go Go.RowKit
attribute [local irreducible] ewp owp hwp hwq hws Ev Evg Fn retPost loud loudS Res1
attribute [local irreducible] hwx loudX hwz zNext
noncomputable def m_repair_Repair (x0 : Tsk) (x1 : List ByteArray) (x2 : Int) (x3 : Int) : Option (Rsl × Int × Err) :=
  bnd (m_repair_compile x0 x1 x2) fun q34 => if q34.2.2.n ≠ 0 then (some ((⟨0, ([] : List Int), 0, 0⟩ : Rsl), 0, (⟨q34.2.2.n⟩ : Err))) else (bnd (m_breadth_Uniform q34.1 x3) fun q77 => if q77.2.n ≠ 0 then (some ((⟨0, ([] : List Int), 0, 0⟩ : Rsl), 0, (⟨q77.2.n⟩ : Err))) else (if q77.1.verdict ≠ 1 then (some (q77.1, 0, (⟨0⟩ : Err))) else (bnd (rng (ρ := Rsl × Int × Err) (fun (k116 : Nat) (a117 : Int) (s114 : (List Int) × (List ByteArray)) => bnd (atI q34.2.1 a117) fun a143 => if 0 ≤ a143.op then (bnd (atI x0.ops a143.op) fun a156 => bnd (appI 8 s114.1 ([a143.op] : List Int)) fun u158 => bnd (appI 16 s114.2 [a156.name]) fun u160 => some (.next (u158, u160))) else (some (.next (s114.1, s114.2)))) q77.1.plan 0 (([] : List Int), ([] : List ByteArray))) fun res112 => fin res112 fun (s269 : (List Int) × (List ByteArray)) => bnd (m_repair_Distance s269.2 x1) fun q273 => some ((⟨q77.1.verdict, s269.1, q77.1.cost, q77.1.expanded⟩ : Rsl), q273, (⟨0⟩ : Err)))))
theorem c_repair_Repair {w : World} {A : Nat → Prop} (hA : ∀ k, A k → k < w.heap.size) {vx0 : Value} {x0 : Tsk} (hx0 : Vb w A vx0 x0) {vx1 : Value} {x1 : List ByteArray} (hx1 : Vb w A vx1 x1) {x2 : Int} (rx2 : inI64 x2) {x3 : Int} (rx3 : inI64 x3) {r : Rsl × Int × Err} (hm : m_repair_Repair x0 x1 x2 x3 = some r) :
    Fn Try.prog 14 [vx0, vx1, (.int .i64 x2), (.int .i64 x3)] w fun v w' => Ext w w' ∧ T3 w' (upA A w w') v r := by
 obtain ⟨O, hB, hA0⟩ := enter hA
 replace hx0 := hx0.mono hA0
 obtain ⟨cs5, rfl, v6, v7, v8, v9, rfl, h10, h13, h16, h19⟩ := hx0
 obtain ⟨A11, c12, rfl⟩ := h10.form
 obtain ⟨A14, c15, rfl⟩ := h13.form
 obtain ⟨A17, c18, rfl⟩ := h16.form
 obtain ⟨A20, c21, rfl⟩ := h19.form
 replace hx1 := hx1.mono hA0
 obtain ⟨A22, c23, rfl⟩ := hx1.form
 refine fn_enter Try.func14 rfl Try.ntmps14 rfl ?_
 unfold m_repair_Repair at hm
 refine ewp_seq (ewp_region (l_box 2 O rfl rfl fun g24 w25 O26 S27 h28 => ?_))
 replace h28 : Lc 2 w25 O26 g24 32 [(.slice A11 x0.vars.length c12), (.slice A14 x0.init.length c15), (.slice A17 x0.goal.length c18), (.slice A20 x0.ops.length c21)] := h28
 refine l_alloc 3 O26 rfl fun g29 w30 O31 S32 h33 => ?_
 refine o_as rfl rfl (o_as rfl rfl (o_z ?_))
 refine ewp_seq (ewp_region ?_)
 replace h28 := h28.st S32
 refine o_la (hl := rfl) (hc := (h28.1).cellsAt) rfl rfl ?_
 refine o_mv rfl rfl (o_mv rfl rfl ?_)
 obtain ⟨q34, e35, hm⟩ := bs hm
 replace hx1 := (hx1.st S27).st S32
 replace h10 := (h10.st S27).st S32
 replace h13 := (h13.st S27).st S32
 replace h16 := (h16.st S27).st S32
 replace h19 := (h19.st S27).st S32
 refine l_call (O := O31) (R := fun w' F v => T3 w' F v q34) (c_repair_compile Fr.lt (Vb.ofAgg (cs := [(.slice A11 x0.vars.length c12), (.slice A14 x0.init.length c15), (.slice A17 x0.goal.length c18), (.slice A20 x0.ops.length c21)]) (x := x0) rfl ⟨_, _, _, _, rfl, h10, h13, h16, h19⟩) hx1 rx2 e35) rfl rfl fun v40 w36 O37 S38 h39 => ?_
 obtain ⟨v41, v42, v43, rfl, h44, h45, h46⟩ := h39
 obtain ⟨cs47, rfl, v48, v49, v50, v51, rfl, h52, h55, h58, h61⟩ := h44
 obtain ⟨A53, c54, rfl⟩ := h52.form
 obtain ⟨A56, c57, rfl⟩ := h55.form
 obtain ⟨A59, c60, rfl⟩ := h58.form
 obtain ⟨A62, c63, rfl⟩ := h61.form
 obtain ⟨A64, c65, rfl⟩ := h45.form
 obtain ⟨rfl, r66⟩ := h46.err
 refine o_mv rfl rfl (o_ex rfl rfl rfl (o_ex rfl rfl rfl (o_ex rfl rfl rfl (l_alloc 4 O37 rfl fun g67 w68 O69 S70 h71 => ?_))))
 refine l_store h71 rfl rfl rfl (Nat.le_of_ble_eq_true rfl) (by first | exact allOne rfl | simp [Value.cells, Value.oneCell', errV_one]) fun w72 S73 h71 => ?_
 replace h71 : Lc 4 w72 O69 g67 32 [(.slice A53 q34.1.vars.length c54), (.slice A56 q34.1.init.length c57), (.slice A59 q34.1.goal.length c60), (.slice A62 q34.1.ops.length c63)] := h71
 refine o_as rfl rfl (o_as rfl rfl (o_z ?_))
 refine ewp_seq (ewp_seq (ewp_region (o_mv rfl rfl (o_rnS rfl rfl (fun c74 => ?_) fun c74 => ?_))))
 ·
  replace hm := ip hm c74
  refine o_z ?_
  refine ewp_true rfl (ewp_seq (ewp_region (o_bd rfl rfl rfl ?_)))
  refine o_mv rfl rfl ?_
  replace h33 := ((h33.st S38).st S70).st S73
  refine l_store h33 rfl rfl rfl (Nat.le_of_ble_eq_true rfl) (by first | exact allOne rfl | simp [Value.cells, Value.oneCell', errV_one]) fun w75 S76 h33 => ?_
  replace h33 : Lc 3 w75 O69 g29 37 [(.int .i64 0), (.slice none 0 0), (.int .i64 0), (.int .i64 0)] := h33
  refine o_as rfl rfl (o_as rfl rfl (o_z ?_))
  refine ewp_ret ?_
  obtain rfl := sm hm
  replace hB := (((((hB.st S27).st S32).st S38).st S70).st S73).st S76
  exact ret3 rfl (res_cell (cs := [(.int .i64 0), (.slice none 0 0), (.int .i64 0), (.int .i64 0)]) rfl rfl h33.1.cellsAt) (res_tmp rfl) (res_tmp rfl) ⟨hB.ext, _, _, _, rfl, (Vb.mono (F := Fr 0 w75 O69) (Vb.ofAgg (cs := [(.int .i64 0), (.slice none 0 0), (.int .i64 0), (.int .i64 0)]) (x := (⟨0, ([] : List Int), 0, 0⟩ : Rsl)) rfl ⟨_, rfl, (Vb.nil _ _), (show inI64 0 from by decide), (show inI64 0 from by decide), (show inI64 0 from by decide)⟩) hB.out), (vInt (show inI64 (0) from by decide)), (vErr r66)⟩
 ·
  replace hm := im hm c74
  refine o_z ?_
  refine ewp_false rfl (ewp_skip (ewp_seq (ewp_region (o_la (hl := rfl) (hc := (h71.1).cellsAt) rfl rfl ?_))))
  refine o_mv rfl rfl ?_
  obtain ⟨q77, e78, hm⟩ := bs hm
  replace h52 := (h52.st S70).st S73
  replace h55 := (h55.st S70).st S73
  replace h58 := (h58.st S70).st S73
  replace h61 := (h61.st S70).st S73
  refine l_call (O := O69) (R := fun w' F v => T2 w' F v q77) (c_breadth_Uniform Fr.lt (Vb.ofAgg (cs := [(.slice A53 q34.1.vars.length c54), (.slice A56 q34.1.init.length c57), (.slice A59 q34.1.goal.length c60), (.slice A62 q34.1.ops.length c63)]) (x := q34.1) rfl ⟨_, _, _, _, rfl, h52, h55, h58, h61⟩) rx3 e78) rfl rfl fun v83 w79 O80 S81 h82 => ?_
  obtain ⟨v84, v85, rfl, h86, h87⟩ := h82
  obtain ⟨cs88, rfl, v89, rfl, h90, r93, r94, r95⟩ := h86
  obtain ⟨A91, c92, rfl⟩ := h90.form
  obtain ⟨rfl, r96⟩ := h87.err
  refine o_mv rfl rfl (o_ex rfl rfl rfl (o_ex rfl rfl rfl (l_alloc 5 O80 rfl fun g97 w98 O99 S100 h101 => ?_)))
  refine l_store h101 rfl rfl rfl (Nat.le_of_ble_eq_true rfl) (by first | exact allOne rfl | simp [Value.cells, Value.oneCell', errV_one]) fun w102 S103 h101 => ?_
  replace h101 : Lc 5 w102 O99 g97 37 [(.int .i64 q77.1.verdict), (.slice A91 q77.1.plan.length c92), (.int .i64 q77.1.cost), (.int .i64 q77.1.expanded)] := h101
  refine o_as rfl rfl (o_z ?_)
  refine ewp_seq (ewp_seq (ewp_region (o_mv rfl rfl (o_rnS rfl rfl (fun c104 => ?_) fun c104 => ?_))))
  ·
   replace hm := ip hm c104
   refine o_z ?_
   refine ewp_true rfl (ewp_seq (ewp_region (o_bd rfl rfl rfl ?_)))
   refine o_mv rfl rfl ?_
   replace h33 := (((((h33.st S38).st S70).st S73).st S81).st S100).st S103
   refine l_store h33 rfl rfl rfl (Nat.le_of_ble_eq_true rfl) (by first | exact allOne rfl | simp [Value.cells, Value.oneCell', errV_one]) fun w105 S106 h33 => ?_
   replace h33 : Lc 3 w105 O99 g29 37 [(.int .i64 0), (.slice none 0 0), (.int .i64 0), (.int .i64 0)] := h33
   refine o_as rfl rfl (o_as rfl rfl (o_z ?_))
   refine ewp_ret ?_
   obtain rfl := sm hm
   replace hB := ((((((((hB.st S27).st S32).st S38).st S70).st S73).st S81).st S100).st S103).st S106
   exact ret3 rfl (res_cell (cs := [(.int .i64 0), (.slice none 0 0), (.int .i64 0), (.int .i64 0)]) rfl rfl h33.1.cellsAt) (res_tmp rfl) (res_tmp rfl) ⟨hB.ext, _, _, _, rfl, (Vb.mono (F := Fr 0 w105 O99) (Vb.ofAgg (cs := [(.int .i64 0), (.slice none 0 0), (.int .i64 0), (.int .i64 0)]) (x := (⟨0, ([] : List Int), 0, 0⟩ : Rsl)) rfl ⟨_, rfl, (Vb.nil _ _), (show inI64 0 from by decide), (show inI64 0 from by decide), (show inI64 0 from by decide)⟩) hB.out), (vInt (show inI64 (0) from by decide)), (vErr r96)⟩
  ·
   replace hm := im hm c104
   refine o_z ?_
   refine ewp_false rfl (ewp_skip (ewp_seq (ewp_seq (ewp_region (o_fa rfl rfl (o_ld (hc := Blk.cell (i := 0) (h101.1) rfl) rfl rfl ?_))))))
   refine o_neS rfl rfl rfl (fun c107 => ?_) fun c107 => ?_
   ·
    replace hm := ip hm c107
    refine o_z ?_
    refine ewp_true rfl (ewp_seq (ewp_region (o_la (hl := rfl) (hc := (h101.1).cellsAt) rfl rfl ?_)))
    replace h33 := (((((h33.st S38).st S70).st S73).st S81).st S100).st S103
    refine l_store h33 rfl rfl rfl (Nat.le_of_ble_eq_true rfl) (by first | exact allOne rfl | simp [Value.cells, Value.oneCell', errV_one]) fun w108 S109 h33 => ?_
    replace h33 : Lc 3 w108 O99 g29 37 [(.int .i64 q77.1.verdict), (.slice A91 q77.1.plan.length c92), (.int .i64 q77.1.cost), (.int .i64 q77.1.expanded)] := h33
    refine o_as rfl rfl (o_as rfl rfl (o_z ?_))
    refine ewp_ret ?_
    obtain rfl := sm hm
    replace hB := ((((((((hB.st S27).st S32).st S38).st S70).st S73).st S81).st S100).st S103).st S109
    replace h90 := ((h90.st S100).st S103).st S109
    exact ret3 rfl (res_cell (cs := [(.int .i64 q77.1.verdict), (.slice A91 q77.1.plan.length c92), (.int .i64 q77.1.cost), (.int .i64 q77.1.expanded)]) rfl rfl h33.1.cellsAt) (res_tmp rfl) (res_tmp rfl) ⟨hB.ext, _, _, _, rfl, (Vb.mono (F := Fr 0 w108 O99) (Vb.ofAgg (cs := [(.int .i64 q77.1.verdict), (.slice A91 q77.1.plan.length c92), (.int .i64 q77.1.cost), (.int .i64 q77.1.expanded)]) (x := q77.1) rfl ⟨_, rfl, h90, r93, r94, r95⟩) hB.out), (vInt (show inI64 (0) from by decide)), (vErr (show inI64 0 from by decide))⟩
   ·
    replace hm := im hm c107
    refine o_z ?_
    refine ewp_false rfl (ewp_skip (ewp_seq (ewp_region (o_as rfl rfl (o_z ?_)))))
    refine ewp_seq (ewp_region (o_as rfl rfl (o_z ?_)))
    refine ewp_seq (ewp_seq (ewp_region (o_fa rfl rfl (o_ld (hc := Blk.cell (i := 1) (h101.1) rfl) rfl rfl ?_))))
    refine o_ln rfl rfl ?_
    replace h90 := (h90.st S100).st S103
    have l111 : q77.1.plan.length ≤ 9223372036854775807 := Nat.le_trans h90.len.2.1 h90.len.2.2
    have r110 : inI64 (q77.1.plan.length : Int) := rngNat l111
    refine o_mv rfl rfl (o_z ?_)
    obtain ⟨res112, hL113, hm⟩ := bs hm
    refine ewp_join (aft res112 (fun (s114 : (List Int) × (List ByteArray)) (x115 : (Option Addr × Nat) × (Option Addr × Nat)) => [(1, (.slice A22 x1.length c23)), (8, (.pointer (some ⟨g29, 0, none⟩))), (14, (.pointer (some ⟨g97, 0, none⟩))), (15, (.slice x115.1.1 s114.1.length x115.1.2)), (16, (.slice x115.2.1 s114.2.length x115.2.2))]) (fun s114 x115 w' => ∃ O' : Lab, Bs w A w' O' ∧ Vb w' (Fr 0 w' O') (.slice A22 x1.length c23) x1 ∧ Lc 3 w' O' g29 37 [(.int .i64 0), (.slice none 0 0), (.int .i64 0), (.int .i64 0)] ∧ Lc 5 w' O' g97 37 [(.int .i64 q77.1.verdict), (.slice A91 q77.1.plan.length c92), (.int .i64 q77.1.cost), (.int .i64 q77.1.expanded)] ∧ Vb w' (Fr 0 w' O') (.slice A91 q77.1.plan.length c92) q77.1.plan ∧ Rw 7 w' O' 3 (.slice x115.1.1 s114.1.length x115.1.2) s114.1 ∧ Rw 9 w' O' 9 (.slice x115.2.1 s114.2.length x115.2.2) s114.2)) ?_ ?_
    ·
     refine ewp_block ?_
     replace hB := (((((((hB.st S27).st S32).st S38).st S70).st S73).st S81).st S100).st S103
     replace hx1 := (((((hx1.st S38).st S70).st S73).st S81).st S100).st S103
     replace h10 := (((((h10.st S38).st S70).st S73).st S81).st S100).st S103
     replace h13 := (((((h13.st S38).st S70).st S73).st S81).st S100).st S103
     replace h16 := (((((h16.st S38).st S70).st S73).st S81).st S100).st S103
     replace h19 := (((((h19.st S38).st S70).st S73).st S81).st S100).st S103
     replace h28 := (((((h28.st S38).st S70).st S73).st S81).st S100).st S103
     replace h33 := (((((h33.st S38).st S70).st S73).st S81).st S100).st S103
     replace h45 := ((((h45.st S70).st S73).st S81).st S100).st S103
     refine ewp_rng (σ := (List Int) × (List ByteArray)) (X := (Option Addr × Nat) × (Option Addr × Nat)) (q77.1.plan.length) hL113 rfl l111 (fun (s114 : (List Int) × (List ByteArray)) (x115 : (Option Addr × Nat) × (Option Addr × Nat)) => [(1, (.slice A22 x1.length c23)), (4, (.pointer (some ⟨g24, 0, none⟩))), (8, (.pointer (some ⟨g29, 0, none⟩))), (12, (.slice A64 q34.2.1.length c65)), (14, (.pointer (some ⟨g97, 0, none⟩))), (15, (.slice x115.1.1 s114.1.length x115.1.2)), (16, (.slice x115.2.1 s114.2.length x115.2.2)), (47, (.slice A91 q77.1.plan.length c92))]) _ (fun s114 x115 w' => ∃ O' : Lab, Bs w A w' O' ∧ Vb w' (Fr 0 w' O') (.slice A22 x1.length c23) x1 ∧ Lc 2 w' O' g24 32 [(.slice A11 x0.vars.length c12), (.slice A14 x0.init.length c15), (.slice A17 x0.goal.length c18), (.slice A20 x0.ops.length c21)] ∧ Vb w' (Fr 0 w' O') (.slice A11 x0.vars.length c12) x0.vars ∧ Vb w' (Fr 0 w' O') (.slice A14 x0.init.length c15) x0.init ∧ Vb w' (Fr 0 w' O') (.slice A17 x0.goal.length c18) x0.goal ∧ Vb w' (Fr 0 w' O') (.slice A20 x0.ops.length c21) x0.ops ∧ Lc 3 w' O' g29 37 [(.int .i64 0), (.slice none 0 0), (.int .i64 0), (.int .i64 0)] ∧ Vb w' (Fr 0 w' O') (.slice A64 q34.2.1.length c65) q34.2.1 ∧ Lc 5 w' O' g97 37 [(.int .i64 q77.1.verdict), (.slice A91 q77.1.plan.length c92), (.int .i64 q77.1.cost), (.int .i64 q77.1.expanded)] ∧ Vb w' (Fr 0 w' O') (.slice A91 q77.1.plan.length c92) q77.1.plan ∧ Rw 7 w' O' 3 (.slice x115.1.1 s114.1.length x115.1.2) s114.1 ∧ Rw 9 w' O' 9 (.slice x115.2.1 s114.2.length x115.2.2) s114.2) _ ((none, 0), (none, 0)) ⟨O99, hB, hx1, h28, h10, h13, h16, h19, h33, h45, h101, h90, (Rw.nil 7 (by decide)), (Rw.nil 9 (by decide))⟩ ⟨rfl, rfl, rfl, rfl, rfl, rfl, rfl, rfl, rfl, rfl, trivial⟩ (fun _ _ => ⟨rfl, rfl⟩) (fun _ _ => ⟨rfl, rfl, rfl, rfl, rfl, trivial⟩) (fun _ _ _ ⟨O', hB, hx1, h28, h10, h13, h16, h19, h33, h45, h101, h90, h131, h133⟩ => ⟨O', hB, hx1, h33, h101, h90, h131, h133⟩) ⟨rfl, rfl, rfl⟩ ⟨rfl, rfl⟩ ?_
     rintro k116 a117 s114 x115 w118 cc120 hx121 ⟨O119, hB, hx1, h28, h10, h13, h16, h19, h33, h45, h101, h90, h131, h133⟩ hf122 hret123 hbrk124
     have rk116 : inI64 (k116 : Int) := rngK hx121 l111
     refine ewp_seq (ewp_region ?_)
     obtain ⟨b135, o136, ce137, hA138, hl139, hd140, rfl, r142⟩ := h90.elem' hx121
     refine o_iaE (hA := hA138) (hj := rfl) (hlt := hl139) rfl rfl rfl ?_
     refine o_ld (hc := cat0 hd140) rfl rfl ?_
     refine o_as rfl rfl (o_z ?_)
     refine ewp_seq (ewp_region (o_mv rfl rfl (o_mv rfl rfl ?_)))
     obtain ⟨a143, e144, hf122⟩ := bs hf122
     obtain ⟨p146, x145⟩ := atI_some' e144
     obtain ⟨b147, o148, ce149, hA150, hl151, hd152, rfl, r154⟩ := h45.elem' x145
     refine o_iaE (hA := hA150) (hj := (Int.toNat_of_nonneg p146).symm) (hlt := hl151) rfl rfl rfl ?_
     refine o_fa rfl rfl (o_ld (hc := cat0 hd152) rfl rfl ?_)
     refine o_as rfl rfl (o_z ?_)
     refine ewp_seq (ewp_region (o_mv rfl rfl (o_geS rfl rfl rfl (fun c155 => ?_) fun c155 => ?_)))
     ·
      replace hf122 := ip hf122 c155
      refine o_z ?_
      refine ewp_true rfl ?_
      obtain ⟨a156, e157, hf122⟩ := bs hf122
      obtain ⟨u158, e159, hf122⟩ := bs hf122
      obtain ⟨u160, e161, hf122⟩ := bs hf122
      refine ewp_drawX [(3, [7]), (12, [9])] O119 ?_
      refine x_pre (fuel := 13) [] [(0, true), (1, true)] (by kernel_rfl) rfl ?_
      refine h_mv rfl rfl rfl (h_mv rfl rfl rfl (hwp_nilT ?_))
      refine x_pre (fuel := 6) [7] [(4, true), (5, true), (6, true), (7, true), (8, true), (9, true), (10, true)] (by kernel_rfl) rfl ?_
      refine h_mv rfl rfl rfl (h_fa rfl rfl rfl (h_ldC (hc := fun w' ⟨O', hq⟩ => Blk.cell (i := 3) ((h28.st hq (by decide)).1) rfl) rfl rfl rfl ?_))
      refine h_mv rfl rfl rfl ?_
      obtain ⟨p163, x162⟩ := atI_some' e157
      obtain ⟨b164, o165, ce166, hA167, hF170, hl168, hd169, v171, v172, rfl, h173, h176, r179, z180⟩ := h19.elem x162
      obtain ⟨A174, c175, rfl⟩ := h173.form
      obtain ⟨A177, c178, rfl⟩ := h176.form
      refine h_iaE (hA := hA167) (hj := (Int.toNat_of_nonneg p163).symm) (hlt := hl168) rfl rfl rfl rfl ?_
      refine h_fa rfl rfl rfl (h_ldC (hc := fun w' ⟨O', hq⟩ => cat0 (cellsAt_agree (hq.agree (i := 0) (by decide)) hF170 hd169)) rfl rfl rfl ?_)
      refine hwp_nilT ?_
      refine x_two (i := 2) (j := 11) (by kernel_rfl) rfl rfl ?_ ?_
      ·
       refine l_bslice 6 (by decide) O119 (xs := (([a143.op] : List Int) : List Int)) rfl rfl rfl rfl ⟨(vInt r154), trivial⟩ (by decide) (by decide) rfl fun g181 w182 O183 S184 h185 => ?_
       have hZ := S184.lst [] (fun _ h => h.elim)
       refine x_go [(3, [7]), (12, [9])] hZ (by kernel_rfl) ?_
       refine x_two (i := 3) (j := 11) (by kernel_rfl) rfl rfl ?_ ?_
       ·
        obtain ⟨e159, e187, e188⟩ := appI_some e159
        replace h131 := h131.st S184
        refine l_append rfl h131 (h185.rd) rfl rfl (by decide) e187 e188 rfl fun A189 c190 w191 O192 S193 h194 => ?_
        rw [← e159] at h194 ⊢
        have hZ := S193.lst [7] (fun _ h => by cases h; decide)
        refine x_go [(12, [9])] hZ (by kernel_rfl) ?_
        refine x_one (i := 11) (by kernel_rfl) rfl ?_
        refine l_bslice 8 (by decide) O192 (xs := ([a156.name] : List ByteArray)) rfl rfl rfl rfl ⟨(vStr z180), trivial⟩ (by decide) (by decide) rfl fun g196 w197 O198 S199 h200 => ?_
        have hZ := S199.lst [] (fun _ h => h.elim)
        refine x_go [(12, [9])] hZ (by kernel_rfl) ?_
        refine x_one (i := 12) (by kernel_rfl) rfl ?_
        obtain ⟨e161, e202, e203⟩ := appI_some e161
        replace h133 := ((h133.st S184).st S193).st S199
        refine l_append rfl h133 (h200.rd) rfl rfl (by decide) e202 e203 rfl fun A204 c205 w206 O207 S208 h209 => ?_
        rw [← e161] at h209 ⊢
        have hZ := S208.lst [9] (fun _ h => by cases h; decide)
        refine x_go [] hZ (by kernel_rfl) ?_
        refine x_pre (fuel := 0) [] [(13, true), (14, true)] (by kernel_rfl) rfl ?_
        refine h_as rfl rfl rfl (h_as rfl rfl rfl (hwp_nilT ?_))
        refine x_nil (by kernel_rfl) ?_
        obtain rfl := sm hf122
        refine (?_ : Exists _)
        replace hB := (((hB.st S184).st S193).st S199).st S208
        replace hx1 := (((hx1.st S184).st S193).st S199).st S208
        replace h10 := (((h10.st S184).st S193).st S199).st S208
        replace h13 := (((h13.st S184).st S193).st S199).st S208
        replace h16 := (((h16.st S184).st S193).st S199).st S208
        replace h19 := (((h19.st S184).st S193).st S199).st S208
        replace h28 := (((h28.st S184).st S193).st S199).st S208
        replace h33 := (((h33.st S184).st S193).st S199).st S208
        replace h45 := (((h45.st S184).st S193).st S199).st S208
        replace h90 := (((h90.st S184).st S193).st S199).st S208
        replace h101 := (((h101.st S184).st S193).st S199).st S208
        replace h194 := (h194.st S199).st S208
        exact ⟨_, ((A189, c190), (A204, c205)), rfl, ⟨rfl, rfl, rfl, rfl, rfl, rfl, rfl, rfl, rfl, rfl, trivial⟩, _, hB, hx1, h28, h10, h13, h16, h19, h33, h45, h101, h90, h194, h209⟩
       ·
        refine l_bslice 8 (by decide) O183 (xs := ([a156.name] : List ByteArray)) rfl rfl rfl rfl ⟨(vStr z180), trivial⟩ (by decide) (by decide) rfl fun g211 w212 O213 S214 h215 => ?_
        have hZ := S214.lst [] (fun _ h => h.elim)
        refine x_go [(3, [7]), (12, [9])] hZ (by kernel_rfl) ?_
        refine x_one (i := 3) (by kernel_rfl) rfl ?_
        obtain ⟨e159, e217, e218⟩ := appI_some e159
        replace h131 := (h131.st S184).st S214
        replace h185 := h185.st S214
        refine l_append rfl h131 (h185.rd) rfl rfl (by decide) e217 e218 rfl fun A219 c220 w221 O222 S223 h224 => ?_
        rw [← e159] at h224 ⊢
        have hZ := S223.lst [7] (fun _ h => by cases h; decide)
        refine x_go [(12, [9])] hZ (by kernel_rfl) ?_
        refine x_one (i := 12) (by kernel_rfl) rfl ?_
        obtain ⟨e161, e226, e227⟩ := appI_some e161
        replace h133 := ((h133.st S184).st S214).st S223
        replace h215 := h215.st S223
        refine l_append rfl h133 (h215.rd) rfl rfl (by decide) e226 e227 rfl fun A228 c229 w230 O231 S232 h233 => ?_
        rw [← e161] at h233 ⊢
        have hZ := S232.lst [9] (fun _ h => by cases h; decide)
        refine x_go [] hZ (by kernel_rfl) ?_
        refine x_pre (fuel := 0) [] [(13, true), (14, true)] (by kernel_rfl) rfl ?_
        refine h_as rfl rfl rfl (h_as rfl rfl rfl (hwp_nilT ?_))
        refine x_nil (by kernel_rfl) ?_
        obtain rfl := sm hf122
        refine (?_ : Exists _)
        replace hB := (((hB.st S184).st S214).st S223).st S232
        replace hx1 := (((hx1.st S184).st S214).st S223).st S232
        replace h10 := (((h10.st S184).st S214).st S223).st S232
        replace h13 := (((h13.st S184).st S214).st S223).st S232
        replace h16 := (((h16.st S184).st S214).st S223).st S232
        replace h19 := (((h19.st S184).st S214).st S223).st S232
        replace h28 := (((h28.st S184).st S214).st S223).st S232
        replace h33 := (((h33.st S184).st S214).st S223).st S232
        replace h45 := (((h45.st S184).st S214).st S223).st S232
        replace h90 := (((h90.st S184).st S214).st S223).st S232
        replace h101 := (((h101.st S184).st S214).st S223).st S232
        replace h224 := h224.st S232
        exact ⟨_, ((A219, c220), (A228, c229)), rfl, ⟨rfl, rfl, rfl, rfl, rfl, rfl, rfl, rfl, rfl, rfl, trivial⟩, _, hB, hx1, h28, h10, h13, h16, h19, h33, h45, h101, h90, h224, h233⟩
      ·
       refine l_bslice 8 (by decide) O119 (xs := ([a156.name] : List ByteArray)) rfl rfl rfl rfl ⟨(vStr z180), trivial⟩ (by decide) (by decide) rfl fun g235 w236 O237 S238 h239 => ?_
       have hZ := S238.lst [] (fun _ h => h.elim)
       refine x_go [(3, [7]), (12, [9])] hZ (by kernel_rfl) ?_
       refine x_one (i := 2) (by kernel_rfl) rfl ?_
       refine l_bslice 6 (by decide) O237 (xs := (([a143.op] : List Int) : List Int)) rfl rfl rfl rfl ⟨(vInt r154), trivial⟩ (by decide) (by decide) rfl fun g241 w242 O243 S244 h245 => ?_
       have hZ := S244.lst [] (fun _ h => h.elim)
       refine x_go [(3, [7]), (12, [9])] hZ (by kernel_rfl) ?_
       refine x_one (i := 3) (by kernel_rfl) rfl ?_
       obtain ⟨e159, e247, e248⟩ := appI_some e159
       replace h131 := (h131.st S238).st S244
       refine l_append rfl h131 (h245.rd) rfl rfl (by decide) e247 e248 rfl fun A249 c250 w251 O252 S253 h254 => ?_
       rw [← e159] at h254 ⊢
       have hZ := S253.lst [7] (fun _ h => by cases h; decide)
       refine x_go [(12, [9])] hZ (by kernel_rfl) ?_
       refine x_one (i := 12) (by kernel_rfl) rfl ?_
       obtain ⟨e161, e256, e257⟩ := appI_some e161
       replace h133 := ((h133.st S238).st S244).st S253
       replace h239 := (h239.st S244).st S253
       refine l_append rfl h133 (h239.rd) rfl rfl (by decide) e256 e257 rfl fun A258 c259 w260 O261 S262 h263 => ?_
       rw [← e161] at h263 ⊢
       have hZ := S262.lst [9] (fun _ h => by cases h; decide)
       refine x_go [] hZ (by kernel_rfl) ?_
       refine x_pre (fuel := 0) [] [(13, true), (14, true)] (by kernel_rfl) rfl ?_
       refine h_as rfl rfl rfl (h_as rfl rfl rfl (hwp_nilT ?_))
       refine x_nil (by kernel_rfl) ?_
       obtain rfl := sm hf122
       refine (?_ : Exists _)
       replace hB := (((hB.st S238).st S244).st S253).st S262
       replace hx1 := (((hx1.st S238).st S244).st S253).st S262
       replace h10 := (((h10.st S238).st S244).st S253).st S262
       replace h13 := (((h13.st S238).st S244).st S253).st S262
       replace h16 := (((h16.st S238).st S244).st S253).st S262
       replace h19 := (((h19.st S238).st S244).st S253).st S262
       replace h28 := (((h28.st S238).st S244).st S253).st S262
       replace h33 := (((h33.st S238).st S244).st S253).st S262
       replace h45 := (((h45.st S238).st S244).st S253).st S262
       replace h90 := (((h90.st S238).st S244).st S253).st S262
       replace h101 := (((h101.st S238).st S244).st S253).st S262
       replace h254 := h254.st S262
       exact ⟨_, ((A249, c250), (A258, c259)), rfl, ⟨rfl, rfl, rfl, rfl, rfl, rfl, rfl, rfl, rfl, rfl, trivial⟩, _, hB, hx1, h28, h10, h13, h16, h19, h33, h45, h101, h90, h254, h263⟩
     ·
      replace hf122 := im hf122 c155
      refine o_z ?_
      refine ewp_false rfl (ewp_skip ?_)
      obtain rfl := sm hf122
      refine (?_ : Exists _)
      exact ⟨_, ((x115.1.1, x115.1.2), (x115.2.1, x115.2.2)), rfl, ⟨rfl, rfl, rfl, rfl, rfl, rfl, rfl, rfl, rfl, rfl, trivial⟩, _, hB, hx1, h28, h10, h13, h16, h19, h33, h45, h101, h90, h131, h133⟩
    replace hB := (((((((hB.st S27).st S32).st S38).st S70).st S73).st S81).st S100).st S103
    replace hx1 := (((((hx1.st S38).st S70).st S73).st S81).st S100).st S103
    replace h33 := (((((h33.st S38).st S70).st S73).st S81).st S100).st S103
    rintro l265 w266 ⟨s269, x270, rfl, hs268, O267, hB, hx1, h33, h101, h90, h131, h133⟩
    replace hm := fin_done hm
    refine ewp_sub _ hs268 ?_
    refine ewp_seq (ewp_region (o_mv rfl rfl (o_fa rfl rfl (l_store h101 rfl rfl rfl (Nat.le_of_ble_eq_true rfl) (by first | exact allOne rfl | simp [Value.cells, Value.oneCell', errV_one]) fun w271 S272 h101 => ?_))))
    replace h101 : Lc 5 w271 O267 g97 37 [(.int .i64 q77.1.verdict), (.slice x270.1.1 s269.1.length x270.1.2), (.int .i64 q77.1.cost), (.int .i64 q77.1.expanded)] := h101
    refine o_z ?_
    refine ewp_seq (ewp_drawX [(4, [3])] O267 ?_)
    refine x_pre (fuel := 4) [] [(0, true), (1, true), (2, true)] (by kernel_rfl) rfl ?_
    refine h_laB (hl := rfl) (hb := fun w' ⟨O', hq⟩ => ((h101.st hq (by decide)).1).cellsAt) rfl rfl rfl ?_
    refine h_mv rfl rfl rfl (h_mv rfl rfl rfl (hwp_nilT ?_))
    refine x_one (i := 3) (by kernel_rfl) rfl ?_
    obtain ⟨q273, e274, hm⟩ := bs hm
    replace hx1 := hx1.st S272
    replace h133 := h133.st S272
    refine l_callA (O := O267) (A := All w271) (R := fun w' F v => Vb w' F v q273) (c_repair_Distance (fun _ h => h) (h133).all (Vb.mono (F := Fr 0 w271 O267) hx1 Fr.lt) e274) rfl rfl fun v279 w275 O276 S277 h278 => ?_
    obtain ⟨rfl, r280⟩ := h278.int
    have hZ := S277.lst [] (fun _ h => h.elim)
    refine x_go [(4, [3])] hZ (by kernel_rfl) ?_
    refine x_one (i := 4) (by kernel_rfl) rfl ?_
    replace h33 := (h33.st S272).st S277
    refine l_store h33 rfl rfl rfl (Nat.le_of_ble_eq_true rfl) (by first | exact allOne rfl | simp [Value.cells, Value.oneCell', errV_one]) fun w281 S282 h33 => ?_
    replace h33 : Lc 3 w281 O276 g29 37 [(.int .i64 q77.1.verdict), (.slice x270.1.1 s269.1.length x270.1.2), (.int .i64 q77.1.cost), (.int .i64 q77.1.expanded)] := h33
    have hZ := S282.lst [3] (fun _ h => by cases h; decide)
    refine x_go [] hZ (by kernel_rfl) ?_
    refine x_pre (fuel := 0) [] [(5, true), (6, true)] (by kernel_rfl) rfl ?_
    refine h_as rfl rfl rfl (h_as rfl rfl rfl (hwp_nilT ?_))
    refine x_nil (by kernel_rfl) ?_
    refine ewp_ret ?_
    replace h131 := ((h131.st S272).st S277).st S282
    obtain ⟨O283, S284, h131⟩ := h131.freeze
    obtain rfl := sm hm
    replace hB := (((hB.st S272).st S277).st S282).st S284
    replace h33 := h33.st S284
    exact ret3 rfl (res_cell (cs := [(.int .i64 q77.1.verdict), (.slice x270.1.1 s269.1.length x270.1.2), (.int .i64 q77.1.cost), (.int .i64 q77.1.expanded)]) rfl rfl h33.1.cellsAt) (res_tmp rfl) (res_tmp rfl) ⟨hB.ext, _, _, _, rfl, (Vb.mono (F := Fr 0 w281 O283) (Vb.ofAgg (cs := [(.int .i64 q77.1.verdict), (.slice x270.1.1 s269.1.length x270.1.2), (.int .i64 q77.1.cost), (.int .i64 q77.1.expanded)]) (x := (⟨q77.1.verdict, s269.1, q77.1.cost, q77.1.expanded⟩ : Rsl)) rfl ⟨_, rfl, h131, r93, r94, r95⟩) hB.out), (vInt r280), (vErr (show inI64 0 from by decide))⟩
noncomputable def m_law60_awake  : Option Bool :=
  bnd (m_repair_Repair (⟨([2] : List Int), ([0] : List Int), [(⟨0, 1⟩ : Fct)], [(⟨(⟨#[97]⟩ : ByteArray), 3, ([] : List Fct), [(⟨([] : List Fct), 0, 1⟩ : Eff)]⟩ : Opr)]⟩ : Tsk) [(⟨#[97]⟩ : ByteArray)] 5 100) fun q56 => bnd (if q56.2.2.n = 0 then (if q56.2.1 = 0 then (if q56.1.verdict = 1 then (if q56.1.cost = 3 then (bnd (m_base_Ints q56.1.plan ([0] : List Int)) fun q100 => if q100 = true then some true else some false) else (some false)) else (some false)) else (some false)) else (some false) : Option Bool) fun y86 => some y86
theorem c_law60_awake {w : World} {A : Nat → Prop} (hA : ∀ k, A k → k < w.heap.size)  {r : Bool} (hm : m_law60_awake  = some r) :
    Fn Try.prog 8 [] w fun v w' => Ext w w' ∧ Vb w' (upA A w w') v r := by
 obtain ⟨O, hB, hA0⟩ := enter hA
 refine fn_enter Try.func8 rfl Try.ntmps8 rfl ?_
 unfold m_law60_awake at hm
 refine ewp_seq (ewp_region (o_as rfl rfl (o_z ?_)))
 refine ewp_seq (ewp_region (l_bslice 2 (by decide) O (xs := (([2] : List Int) : List Int)) rfl rfl rfl rfl ⟨(vInt (show inI64 (2) from by decide)), trivial⟩ (by decide) (by decide) rfl fun g1 w2 O3 S4 h5 => ?_))
 refine l_bslice 3 (by decide) O3 (xs := (([0] : List Int) : List Int)) rfl rfl rfl rfl ⟨(vInt (show inI64 (0) from by decide)), trivial⟩ (by decide) (by decide) rfl fun g7 w8 O9 S10 h11 => ?_
 refine o_bd rfl rfl rfl ?_
 refine l_bslice 4 (by decide) O9 (xs := ([(⟨0, 1⟩ : Fct)] : List Fct)) rfl rfl rfl rfl ⟨(Vb.ofAgg (cs := [(.int .i64 0), (.int .i64 1)]) (x := (⟨0, 1⟩ : Fct)) rfl ⟨rfl, (show inI64 (0) from by decide), (show inI64 (1) from by decide)⟩), trivial⟩ (by decide) (by decide) rfl fun g13 w14 O15 S16 h17 => ?_
 refine o_bd rfl rfl rfl ?_
 refine l_bslice 5 (by decide) O15 (xs := ([(⟨([] : List Fct), 0, 1⟩ : Eff)] : List Eff)) rfl rfl rfl rfl ⟨(Vb.ofAgg (cs := [(.slice none 0 0), (.int .i64 0), (.int .i64 1)]) (x := (⟨([] : List Fct), 0, 1⟩ : Eff)) rfl ⟨_, rfl, (Vb.nil _ _), (show inI64 (0) from by decide), (show inI64 (1) from by decide)⟩), trivial⟩ (by decide) (by decide) rfl fun g19 w20 O21 S22 h23 => ?_
 refine o_bd rfl rfl rfl ?_
 obtain ⟨O25, S26, h23⟩ := h23.freeze
 refine l_bslice 6 (by decide) O25 (xs := ([(⟨(⟨#[97]⟩ : ByteArray), 3, ([] : List Fct), [(⟨([] : List Fct), 0, 1⟩ : Eff)]⟩ : Opr)] : List Opr)) rfl rfl rfl rfl ⟨(Vb.ofAgg (cs := [(.string (⟨#[97]⟩ : ByteArray)), (.int .i64 3), (.slice none 0 0), (.slice (some ⟨g19, 0, none⟩) [(⟨([] : List Fct), 0, 1⟩ : Eff)].length 1)]) (x := (⟨(⟨#[97]⟩ : ByteArray), 3, ([] : List Fct), [(⟨([] : List Fct), 0, 1⟩ : Eff)]⟩ : Opr)) rfl ⟨_, _, rfl, (Vb.nil _ _), h23, (show inI64 (3) from by decide), (show (⟨#[97]⟩ : ByteArray).size ≤ 9223372036854775807 from by decide)⟩), trivial⟩ (by decide) (by decide) rfl fun g27 w28 O29 S30 h31 => ?_
 refine o_bd rfl rfl rfl ?_
 refine l_alloc 7 O29 rfl fun g33 w34 O35 S36 h37 => ?_
 refine l_store h37 rfl rfl rfl (Nat.le_of_ble_eq_true rfl) (by first | exact allOne rfl | simp [Value.cells, Value.oneCell', errV_one]) fun w38 S39 h37 => ?_
 replace h37 : Lc 7 w38 O35 g33 32 [(.slice (some ⟨g1, 0, none⟩) ([2] : List Int).length 1), (.slice (some ⟨g7, 0, none⟩) ([0] : List Int).length 1), (.slice (some ⟨g13, 0, none⟩) [(⟨0, 1⟩ : Fct)].length 1), (.slice (some ⟨g27, 0, none⟩) [(⟨(⟨#[97]⟩ : ByteArray), 3, ([] : List Fct), [(⟨([] : List Fct), 0, 1⟩ : Eff)]⟩ : Opr)].length 1)] := h37
 refine o_z ?_
 refine ewp_seq (ewp_region (o_la (hl := rfl) (hc := (h37.1).cellsAt) rfl rfl ?_))
 refine l_bslice 8 (by decide) O35 (xs := ([(⟨#[97]⟩ : ByteArray)] : List ByteArray)) rfl rfl rfl rfl ⟨(vStr (show (⟨#[97]⟩ : ByteArray).size ≤ 9223372036854775807 from by decide)), trivial⟩ (by decide) (by decide) rfl fun g40 w41 O42 S43 h44 => ?_
 replace h5 := (((((((h5.st S10).st S16).st S22).st S26).st S30).st S36).st S39).st S43
 obtain ⟨O46, S47, h5⟩ := h5.freeze
 replace h11 := (((((((h11.st S16).st S22).st S26).st S30).st S36).st S39).st S43).st S47
 obtain ⟨O48, S49, h11⟩ := h11.freeze
 replace h17 := (((((((h17.st S22).st S26).st S30).st S36).st S39).st S43).st S47).st S49
 obtain ⟨O50, S51, h17⟩ := h17.freeze
 replace h31 := (((((h31.st S36).st S39).st S43).st S47).st S49).st S51
 obtain ⟨O52, S53, h31⟩ := h31.freeze
 replace h44 := (((h44.st S47).st S49).st S51).st S53
 obtain ⟨O54, S55, h44⟩ := h44.freeze
 obtain ⟨q56, e57, hm⟩ := bs hm
 replace h5 := (((h5.st S49).st S51).st S53).st S55
 replace h11 := ((h11.st S51).st S53).st S55
 replace h17 := (h17.st S53).st S55
 replace h31 := h31.st S55
 refine l_call (O := O54) (R := fun w' F v => T3 w' F v q56) (c_repair_Repair Fr.lt (Vb.ofAgg (cs := [(.slice (some ⟨g1, 0, none⟩) ([2] : List Int).length 1), (.slice (some ⟨g7, 0, none⟩) ([0] : List Int).length 1), (.slice (some ⟨g13, 0, none⟩) [(⟨0, 1⟩ : Fct)].length 1), (.slice (some ⟨g27, 0, none⟩) [(⟨(⟨#[97]⟩ : ByteArray), 3, ([] : List Fct), [(⟨([] : List Fct), 0, 1⟩ : Eff)]⟩ : Opr)].length 1)]) (x := (⟨([2] : List Int), ([0] : List Int), [(⟨0, 1⟩ : Fct)], [(⟨(⟨#[97]⟩ : ByteArray), 3, ([] : List Fct), [(⟨([] : List Fct), 0, 1⟩ : Eff)]⟩ : Opr)]⟩ : Tsk)) rfl ⟨_, _, _, _, rfl, h5, h11, h17, h31⟩) h44 (show inI64 (5) from by decide) (show inI64 (100) from by decide) e57) rfl rfl fun v62 w58 O59 S60 h61 => ?_
 obtain ⟨v63, v64, v65, rfl, h66, h67, h68⟩ := h61
 obtain ⟨cs69, rfl, v70, rfl, h71, r74, r75, r76⟩ := h66
 obtain ⟨A72, c73, rfl⟩ := h71.form
 obtain ⟨rfl, r77⟩ := h67.int
 obtain ⟨rfl, r78⟩ := h68.err
 refine o_mv rfl rfl (o_ex rfl rfl rfl (o_ex rfl rfl rfl (o_ex rfl rfl rfl (l_alloc 9 O59 rfl fun g79 w80 O81 S82 h83 => ?_))))
 refine l_store h83 rfl rfl rfl (Nat.le_of_ble_eq_true rfl) (by first | exact allOne rfl | simp [Value.cells, Value.oneCell', errV_one]) fun w84 S85 h83 => ?_
 replace h83 : Lc 9 w84 O81 g79 37 [(.int .i64 q56.1.verdict), (.slice A72 q56.1.plan.length c73), (.int .i64 q56.1.cost), (.int .i64 q56.1.expanded)] := h83
 refine o_as rfl rfl (o_as rfl rfl (o_z ?_))
 refine ewp_seq ?_
 obtain ⟨y86, hy87, hm⟩ := bs hm
 refine ewp_join (fun l' w' => ∃ (x89 : Unit) (O' : Lab), subs l' [(0, (.bool y86))] ∧ Bs w A w' O') ?_ ?_
 ·
  refine ewp_region (o_mv rfl rfl (o_erS rfl rfl (fun c90 => ?_) fun c90 => ?_))
  ·
   replace hy87 := ip hy87 c90
   refine o_mv rfl rfl (owp_yes rfl rfl (o_mv rfl rfl (owp_yes rfl rfl (o_eeS rfl rfl rfl (fun c91 => ?_) fun c91 => ?_))))
   ·
    replace hy87 := ip hy87 c91
    refine o_pt rfl rfl rfl (o_mv rfl rfl (owp_yes rfl rfl (o_fa rfl rfl (owp_yes rfl rfl (o_ld (hc := Blk.cell (i := 0) (h83.1) rfl) rfl rfl ?_)))))
    refine owp_yes rfl rfl (o_eeS rfl rfl rfl (fun c92 => ?_) fun c92 => ?_)
    ·
     replace hy87 := ip hy87 c92
     refine o_pt rfl rfl rfl (o_mv rfl rfl (owp_yes rfl rfl (o_fa rfl rfl (owp_yes rfl rfl (o_ld (hc := Blk.cell (i := 2) (h83.1) rfl) rfl rfl ?_)))))
     refine owp_yes rfl rfl (o_eeS rfl rfl rfl (fun c93 => ?_) fun c93 => ?_)
     ·
      replace hy87 := ip hy87 c93
      refine o_pt rfl rfl rfl (o_mv rfl rfl (owp_yes rfl rfl (o_fa rfl rfl (owp_yes rfl rfl (o_ld (hc := Blk.cell (i := 1) (h83.1) rfl) rfl rfl ?_)))))
      refine owp_yes rfl rfl (l_bslice 10 (by decide) O81 (xs := (([0] : List Int) : List Int)) rfl rfl rfl rfl ⟨(vInt (show inI64 (0) from by decide)), trivial⟩ (by decide) (by decide) rfl fun g94 w95 O96 S97 h98 => ?_)
      refine owp_yes rfl rfl ?_
      obtain ⟨q100, e101, hy87⟩ := bs hy87
      replace h71 := ((h71.st S82).st S85).st S97
      refine l_callA (O := O96) (A := All w95) (R := fun w' F v => Vb w' F v q100) (c_base_Ints (fun _ h => h) (Vb.mono (F := Fr 0 w95 O96) h71 Fr.lt) (h98).all e101) rfl rfl fun v106 w102 O103 S104 h105 => ?_
      obtain rfl := h105.bool
      cases q100
      case false =>
       replace hy87 := iF hy87
       refine o_pt rfl rfl rfl (o_as rfl rfl (o_z ?_))
       obtain rfl := sm hy87
       replace hB := ((((((((((((((((((hB.st S4).st S10).st S16).st S22).st S26).st S30).st S36).st S39).st S43).st S47).st S49).st S51).st S53).st S55).st S60).st S82).st S85).st S97).st S104
       exact ⟨(), _, ⟨rfl, trivial⟩, hB⟩
      replace hy87 := iT hy87
      refine o_pt rfl rfl rfl (o_as rfl rfl (o_z ?_))
      obtain rfl := sm hy87
      replace hB := ((((((((((((((((((hB.st S4).st S10).st S16).st S22).st S26).st S30).st S36).st S39).st S43).st S47).st S49).st S51).st S53).st S55).st S60).st S82).st S85).st S97).st S104
      exact ⟨(), _, ⟨rfl, trivial⟩, hB⟩
     ·
      replace hy87 := im hy87 c93
      refine o_pt rfl rfl rfl (o_mv rfl rfl (owp_no rfl rfl rfl rfl (owp_no rfl rfl rfl rfl (owp_no rfl rfl rfl rfl (owp_no rfl rfl rfl rfl (o_pf rfl rfl rfl (o_as rfl rfl (o_z ?_))))))))
      obtain rfl := sm hy87
      replace hB := ((((((((((((((((hB.st S4).st S10).st S16).st S22).st S26).st S30).st S36).st S39).st S43).st S47).st S49).st S51).st S53).st S55).st S60).st S82).st S85
      exact ⟨(), _, ⟨rfl, trivial⟩, hB⟩
    ·
     replace hy87 := im hy87 c92
     refine o_pt rfl rfl rfl (o_mv rfl rfl (owp_no rfl rfl rfl rfl (owp_no rfl rfl rfl rfl (owp_no rfl rfl rfl rfl (o_pf rfl rfl rfl (o_mv rfl rfl (owp_no rfl rfl rfl rfl (owp_no rfl rfl rfl rfl (owp_no rfl rfl rfl rfl (owp_no rfl rfl rfl rfl (o_pf rfl rfl rfl (o_as rfl rfl (o_z ?_)))))))))))))
     obtain rfl := sm hy87
     replace hB := ((((((((((((((((hB.st S4).st S10).st S16).st S22).st S26).st S30).st S36).st S39).st S43).st S47).st S49).st S51).st S53).st S55).st S60).st S82).st S85
     exact ⟨(), _, ⟨rfl, trivial⟩, hB⟩
   ·
    replace hy87 := im hy87 c91
    refine o_pt rfl rfl rfl (o_mv rfl rfl (owp_no rfl rfl rfl rfl (owp_no rfl rfl rfl rfl (owp_no rfl rfl rfl rfl (o_pf rfl rfl rfl (o_mv rfl rfl (owp_no rfl rfl rfl rfl (owp_no rfl rfl rfl rfl (owp_no rfl rfl rfl rfl (o_pf rfl rfl rfl (o_mv rfl rfl (owp_no rfl rfl rfl rfl (owp_no rfl rfl rfl rfl (owp_no rfl rfl rfl rfl ?_))))))))))))))
    refine owp_no rfl rfl rfl rfl (o_pf rfl rfl rfl (o_as rfl rfl (o_z ?_)))
    obtain rfl := sm hy87
    replace hB := ((((((((((((((((hB.st S4).st S10).st S16).st S22).st S26).st S30).st S36).st S39).st S43).st S47).st S49).st S51).st S53).st S55).st S60).st S82).st S85
    exact ⟨(), _, ⟨rfl, trivial⟩, hB⟩
  ·
   replace hy87 := im hy87 c90
   refine o_mv rfl rfl (owp_no rfl rfl rfl rfl (owp_no rfl rfl rfl rfl (o_pf rfl rfl rfl (o_mv rfl rfl (owp_no rfl rfl rfl rfl (owp_no rfl rfl rfl rfl (owp_no rfl rfl rfl rfl (o_pf rfl rfl rfl (o_mv rfl rfl (owp_no rfl rfl rfl rfl (owp_no rfl rfl rfl rfl (owp_no rfl rfl rfl rfl (o_pf rfl rfl rfl (o_mv rfl rfl ?_))))))))))))))
   refine owp_no rfl rfl rfl rfl (owp_no rfl rfl rfl rfl (owp_no rfl rfl rfl rfl (owp_no rfl rfl rfl rfl (o_pf rfl rfl rfl (o_as rfl rfl (o_z ?_))))))
   obtain rfl := sm hy87
   replace hB := ((((((((((((((((hB.st S4).st S10).st S16).st S22).st S26).st S30).st S36).st S39).st S43).st S47).st S49).st S51).st S53).st S55).st S60).st S82).st S85
   exact ⟨(), _, ⟨rfl, trivial⟩, hB⟩
 replace hB := ((((((((((((((((hB.st S4).st S10).st S16).st S22).st S26).st S30).st S36).st S39).st S43).st S47).st S49).st S51).st S53).st S55).st S60).st S82).st S85
 rintro l107 w108 ⟨x89, O109, hs110, hB⟩
 refine ewp_sub _ hs110 ?_
 refine ewp_ret ?_
 obtain rfl := sm hm
 exact ret1v rfl (res_tmp rfl) ⟨hB.ext, vBool⟩
end
section
open Go Go.RowKit
attribute [local irreducible] ewp owp hwp hwq hws Ev Evg Fn retPost loud loudS Res1
attribute [local irreducible] hwx loudX hwz zNext
noncomputable def m_law60_RepairMetric (x0 : List ByteArray) (x1 : List ByteArray) (x2 : List ByteArray) : Option Bool :=
  bnd (bnd (m_law60_long x0) fun q14 => if q14 = true then some true else bnd (m_law60_long x1) fun q21 => if q21 = true then some true else bnd (m_law60_long x2) fun q28 => if q28 = true then some true else bnd (m_law60_awake) fun q35 => if q35 = true then some false else some true : Option Bool) fun y10 => if y10 = true then (bnd (bnd (m_law60_awake) fun q51 => if q51 = true then some true else some false : Option Bool) fun y47 => some y47) else (bnd (m_repair_Distance x0 x1) fun q62 => bnd (bnd (m_repair_Distance x1 x0) fun q74 => if q62 ≠ q74 then (some true) else (if q62 = 0 then (bnd (m_base_Texts x0 x1) fun q84 => if q84 = true then bnd (m_repair_Distance x0 x2) fun q91 => bnd (m_repair_Distance x2 x1) fun q99 => bnd (chkI (q91 + q99)) fun n107 => if n107 < q62 then (some true) else (some false) else some true) else (bnd (m_base_Texts x0 x1) fun q111 => if q111 = true then some true else bnd (m_repair_Distance x0 x2) fun q118 => bnd (m_repair_Distance x2 x1) fun q126 => bnd (chkI (q118 + q126)) fun n134 => if n134 < q62 then (some true) else (some false))) : Option Bool) fun y70 => if y70 = true then (some false) else (bnd (bnd (chkI ((x0.length : Int) + (x1.length : Int))) fun n151 => if q62 ≤ n151 then (bnd (chkI ((max (x0.length : Int) (x1.length : Int)) - (min (x0.length : Int) (x1.length : Int)))) fun n163 => if n163 ≤ q62 then (bnd (chkI ((x0.length : Int) + (x1.length : Int))) fun n171 => bnd (chkI (n171 - q62)) fun n174 => bnd (remI n174 2) fun n177 => if n177 = 0 then (some true) else (some false)) else (some false)) else (some false) : Option Bool) fun y143 => some y143))
theorem c_law60_RepairMetric {w : World} {A : Nat → Prop} (hA : ∀ k, A k → k < w.heap.size) {vx0 : Value} {x0 : List ByteArray} (hx0 : Vb w A vx0 x0) {vx1 : Value} {x1 : List ByteArray} (hx1 : Vb w A vx1 x1) {vx2 : Value} {x2 : List ByteArray} (hx2 : Vb w A vx2 x2) {r : Bool} (hm : m_law60_RepairMetric x0 x1 x2 = some r) :
    Fn Try.prog 4 [vx0, vx1, vx2] w fun v w' => Ext w w' ∧ Vb w' (upA A w w') v r := by
 obtain ⟨O, hB, hA0⟩ := enter hA
 replace hx0 := hx0.mono hA0
 obtain ⟨A4, c5, rfl⟩ := hx0.form
 replace hx1 := hx1.mono hA0
 obtain ⟨A6, c7, rfl⟩ := hx1.form
 replace hx2 := hx2.mono hA0
 obtain ⟨A8, c9, rfl⟩ := hx2.form
 refine fn_enter Try.func4 rfl Try.ntmps4 rfl ?_
 unfold m_law60_RepairMetric at hm
 refine ewp_seq (ewp_region (o_as rfl rfl (o_z ?_)))
 refine ewp_seq (ewp_seq ?_)
 obtain ⟨y10, hy11, hm⟩ := bs hm
 refine ewp_join (fun l' w' => ∃ (x13 : Unit) (O' : Lab), subs l' [(0, (.slice A4 x0.length c5)), (1, (.slice A6 x1.length c7)), (2, (.slice A8 x2.length c9)), (21, (.bool y10))] ∧ Bs w A w' O' ∧ Vb w' (Fr 0 w' O') (.slice A4 x0.length c5) x0 ∧ Vb w' (Fr 0 w' O') (.slice A6 x1.length c7) x1 ∧ Vb w' (Fr 0 w' O') (.slice A8 x2.length c9) x2) ?_ ?_
 ·
  refine ewp_region (o_mv rfl rfl ?_)
  obtain ⟨q14, e15, hy11⟩ := bs hy11
  refine l_callA (O := O) (A := All w) (R := fun w' F v => Vb w' F v q14) (c_law60_long (fun _ h => h) (Vb.mono (F := Fr 0 w O) hx0 Fr.lt) e15) rfl rfl fun v20 w16 O17 S18 h19 => ?_
  obtain rfl := h19.bool
  cases q14
  case false =>
   replace hy11 := iF hy11
   refine o_mv rfl rfl (owp_yes rfl rfl (o_mv rfl rfl (owp_yes rfl rfl ?_)))
   obtain ⟨q21, e22, hy11⟩ := bs hy11
   replace hx1 := hx1.st S18
   refine l_callA (O := O17) (A := All w16) (R := fun w' F v => Vb w' F v q21) (c_law60_long (fun _ h => h) (Vb.mono (F := Fr 0 w16 O17) hx1 Fr.lt) e22) rfl rfl fun v27 w23 O24 S25 h26 => ?_
   obtain rfl := h26.bool
   cases q21
   case false =>
    replace hy11 := iF hy11
    refine o_pf rfl rfl rfl (o_mv rfl rfl (owp_yes rfl rfl (o_mv rfl rfl (owp_yes rfl rfl ?_))))
    obtain ⟨q28, e29, hy11⟩ := bs hy11
    replace hx2 := (hx2.st S18).st S25
    refine l_callA (O := O24) (A := All w23) (R := fun w' F v => Vb w' F v q28) (c_law60_long (fun _ h => h) (Vb.mono (F := Fr 0 w23 O24) hx2 Fr.lt) e29) rfl rfl fun v34 w30 O31 S32 h33 => ?_
    obtain rfl := h33.bool
    cases q28
    case false =>
     replace hy11 := iF hy11
     refine o_pf rfl rfl rfl (o_mv rfl rfl (owp_yes rfl rfl ?_))
     obtain ⟨q35, e36, hy11⟩ := bs hy11
     refine l_callA (O := O31) (A := All w30) (R := fun w' F v => Vb w' F v q35) (c_law60_awake (fun _ h => h)  e36) rfl rfl fun v41 w37 O38 S39 h40 => ?_
     obtain rfl := h40.bool
     cases q35
     case false =>
      replace hy11 := iF hy11
      refine owp_yes rfl rfl (o_nf rfl rfl (o_pf rfl rfl rfl (o_z ?_)))
      obtain rfl := sm hy11
      replace hx0 := (((hx0.st S18).st S25).st S32).st S39
      replace hB := (((hB.st S18).st S25).st S32).st S39
      replace hx1 := ((hx1.st S25).st S32).st S39
      replace hx2 := (hx2.st S32).st S39
      exact ⟨(), _, ⟨rfl, rfl, rfl, rfl, trivial⟩, hB, hx0, hx1, hx2⟩
     replace hy11 := iT hy11
     refine owp_yes rfl rfl (o_nt rfl rfl (o_pf rfl rfl rfl (o_z ?_)))
     obtain rfl := sm hy11
     replace hx0 := (((hx0.st S18).st S25).st S32).st S39
     replace hB := (((hB.st S18).st S25).st S32).st S39
     replace hx1 := ((hx1.st S25).st S32).st S39
     replace hx2 := (hx2.st S32).st S39
     exact ⟨(), _, ⟨rfl, rfl, rfl, rfl, trivial⟩, hB, hx0, hx1, hx2⟩
    replace hy11 := iT hy11
    refine o_pf rfl rfl rfl (o_mv rfl rfl (owp_no rfl rfl rfl rfl (owp_no rfl rfl rfl rfl (o_pt rfl rfl rfl (o_z ?_)))))
    obtain rfl := sm hy11
    replace hx0 := ((hx0.st S18).st S25).st S32
    replace hB := ((hB.st S18).st S25).st S32
    replace hx1 := (hx1.st S25).st S32
    replace hx2 := hx2.st S32
    exact ⟨(), _, ⟨rfl, rfl, rfl, rfl, trivial⟩, hB, hx0, hx1, hx2⟩
   replace hy11 := iT hy11
   refine o_pf rfl rfl rfl (o_mv rfl rfl (owp_no rfl rfl rfl rfl (owp_no rfl rfl rfl rfl (o_pt rfl rfl rfl (o_mv rfl rfl (owp_no rfl rfl rfl rfl (owp_no rfl rfl rfl rfl (o_pt rfl rfl rfl (o_z ?_)))))))))
   obtain rfl := sm hy11
   replace hx0 := (hx0.st S18).st S25
   replace hB := (hB.st S18).st S25
   replace hx1 := hx1.st S25
   replace hx2 := (hx2.st S18).st S25
   exact ⟨(), _, ⟨rfl, rfl, rfl, rfl, trivial⟩, hB, hx0, hx1, hx2⟩
  replace hy11 := iT hy11
  refine o_mv rfl rfl (owp_no rfl rfl rfl rfl (owp_no rfl rfl rfl rfl (o_pt rfl rfl rfl (o_mv rfl rfl (owp_no rfl rfl rfl rfl (owp_no rfl rfl rfl rfl (o_pt rfl rfl rfl (o_mv rfl rfl (owp_no rfl rfl rfl rfl (owp_no rfl rfl rfl rfl (o_pt rfl rfl rfl (o_z ?_))))))))))))
  obtain rfl := sm hy11
  replace hx0 := hx0.st S18
  replace hB := hB.st S18
  replace hx1 := hx1.st S18
  replace hx2 := hx2.st S18
  exact ⟨(), _, ⟨rfl, rfl, rfl, rfl, trivial⟩, hB, hx0, hx1, hx2⟩
 rintro l42 w43 ⟨x13, O44, hs45, hB, hx0, hx1, hx2⟩
 refine ewp_sub _ hs45 ?_
 refine ewp_cond rfl (fun c46 => ?_) (fun c46 => ?_)
 ·
  replace hm := ip hm c46
  refine ewp_seq ?_
  obtain ⟨y47, hy48, hm⟩ := bs hm
  refine ewp_join (fun l' w' => ∃ (x50 : Unit) (O' : Lab), subs l' [(6, (.bool y47))] ∧ Bs w A w' O') ?_ ?_
  ·
   refine ewp_region ?_
   obtain ⟨q51, e52, hy48⟩ := bs hy48
   refine l_callA (O := O44) (A := All w43) (R := fun w' F v => Vb w' F v q51) (c_law60_awake (fun _ h => h)  e52) rfl rfl fun v57 w53 O54 S55 h56 => ?_
   obtain rfl := h56.bool
   cases q51
   case false =>
    replace hy48 := iF hy48
    refine o_as rfl rfl (o_z ?_)
    obtain rfl := sm hy48
    replace hB := hB.st S55
    exact ⟨(), _, ⟨rfl, trivial⟩, hB⟩
   replace hy48 := iT hy48
   refine o_as rfl rfl (o_z ?_)
   obtain rfl := sm hy48
   replace hB := hB.st S55
   exact ⟨(), _, ⟨rfl, trivial⟩, hB⟩
  rintro l58 w59 ⟨x50, O60, hs61, hB⟩
  refine ewp_sub _ hs61 ?_
  refine ewp_ret ?_
  obtain rfl := sm hm
  exact ret1v rfl (res_tmp rfl) ⟨hB.ext, vBool⟩
 ·
  replace hm := im' hm c46
  refine ewp_skip (ewp_seq (ewp_region (o_mv rfl rfl (o_mv rfl rfl ?_))))
  obtain ⟨q62, e63, hm⟩ := bs hm
  refine l_callA (O := O44) (A := All w43) (R := fun w' F v => Vb w' F v q62) (c_repair_Distance (fun _ h => h) (Vb.mono (F := Fr 0 w43 O44) hx0 Fr.lt) (Vb.mono (F := Fr 0 w43 O44) hx1 Fr.lt) e63) rfl rfl fun v68 w64 O65 S66 h67 => ?_
  obtain ⟨rfl, r69⟩ := h67.int
  refine o_as rfl rfl (o_z ?_)
  refine ewp_seq (ewp_seq ?_)
  obtain ⟨y70, hy71, hm⟩ := bs hm
  refine ewp_join (fun l' w' => ∃ (x73 : Unit) (O' : Lab), subs l' [(0, (.slice A4 x0.length c5)), (1, (.slice A6 x1.length c7)), (7, (.int .i64 q62)), (49, (.bool y70))] ∧ Bs w A w' O' ∧ Vb w' (Fr 0 w' O') (.slice A4 x0.length c5) x0 ∧ Vb w' (Fr 0 w' O') (.slice A6 x1.length c7) x1) ?_ ?_
  ·
   refine ewp_region (o_mv rfl rfl (o_mv rfl rfl (o_mv rfl rfl ?_)))
   obtain ⟨q74, e75, hy71⟩ := bs hy71
   replace hx0 := hx0.st S66
   replace hx1 := hx1.st S66
   refine l_callA (O := O65) (A := All w64) (R := fun w' F v => Vb w' F v q74) (c_repair_Distance (fun _ h => h) (Vb.mono (F := Fr 0 w64 O65) hx1 Fr.lt) (Vb.mono (F := Fr 0 w64 O65) hx0 Fr.lt) e75) rfl rfl fun v80 w76 O77 S78 h79 => ?_
   obtain ⟨rfl, r81⟩ := h79.int
   refine o_neS rfl rfl rfl (fun c82 => ?_) fun c82 => ?_
   ·
    replace hy71 := ip hy71 c82
    refine o_mv rfl rfl (owp_no rfl rfl rfl rfl (owp_no rfl rfl rfl rfl (owp_no rfl rfl rfl rfl (owp_no rfl rfl rfl rfl (owp_no rfl rfl rfl rfl (owp_no rfl rfl rfl rfl (o_pt rfl rfl rfl (o_mv rfl rfl (owp_no rfl rfl rfl rfl (owp_no rfl rfl rfl rfl (owp_no rfl rfl rfl rfl (owp_no rfl rfl rfl rfl (owp_no rfl rfl rfl rfl (owp_no rfl rfl rfl rfl ?_))))))))))))))
    refine owp_no rfl rfl rfl rfl (owp_no rfl rfl rfl rfl (owp_no rfl rfl rfl rfl (o_pt rfl rfl rfl (o_z ?_))))
    obtain rfl := sm hy71
    replace hx0 := hx0.st S78
    replace hB := (hB.st S66).st S78
    replace hx1 := hx1.st S78
    exact ⟨(), _, ⟨rfl, rfl, rfl, rfl, trivial⟩, hB, hx0, hx1⟩
   ·
    replace hy71 := im hy71 c82
    refine o_mv rfl rfl (owp_yes rfl rfl (o_mv rfl rfl (owp_yes rfl rfl (o_eeS rfl rfl rfl (fun c83 => ?_) fun c83 => ?_))))
    ·
     replace hy71 := ip hy71 c83
     refine owp_yes rfl rfl (o_mv rfl rfl (owp_yes rfl rfl (o_mv rfl rfl (owp_yes rfl rfl ?_))))
     obtain ⟨q84, e85, hy71⟩ := bs hy71
     replace hx0 := hx0.st S78
     replace hx1 := hx1.st S78
     refine l_callA (O := O77) (A := All w76) (R := fun w' F v => Vb w' F v q84) (c_base_Texts (fun _ h => h) (Vb.mono (F := Fr 0 w76 O77) hx0 Fr.lt) (Vb.mono (F := Fr 0 w76 O77) hx1 Fr.lt) e85) rfl rfl fun v90 w86 O87 S88 h89 => ?_
     obtain rfl := h89.bool
     cases q84
     case false =>
      replace hy71 := iF hy71
      refine owp_yes rfl rfl (o_bn rfl rfl rfl (o_pf rfl rfl rfl (o_mv rfl rfl (owp_no rfl rfl rfl rfl (owp_no rfl rfl rfl rfl (owp_no rfl rfl rfl rfl (owp_no rfl rfl rfl rfl (owp_no rfl rfl rfl rfl (owp_no rfl rfl rfl rfl (owp_no rfl rfl rfl rfl (owp_no rfl rfl rfl rfl (owp_no rfl rfl rfl rfl (o_pt rfl rfl rfl (o_z ?_))))))))))))))
      obtain rfl := sm hy71
      replace hx0 := hx0.st S88
      replace hB := ((hB.st S66).st S78).st S88
      replace hx1 := hx1.st S88
      exact ⟨(), _, ⟨rfl, rfl, rfl, rfl, trivial⟩, hB, hx0, hx1⟩
     replace hy71 := iT hy71
     refine owp_yes rfl rfl (o_bn rfl rfl rfl (o_pf rfl rfl rfl (o_mv rfl rfl (owp_yes rfl rfl (o_mv rfl rfl (owp_yes rfl rfl (o_mv rfl rfl (owp_yes rfl rfl (o_mv rfl rfl (owp_yes rfl rfl ?_))))))))))
     obtain ⟨q91, e92, hy71⟩ := bs hy71
     replace hx0 := hx0.st S88
     replace hx2 := ((hx2.st S66).st S78).st S88
     refine l_callA (O := O87) (A := All w86) (R := fun w' F v => Vb w' F v q91) (c_repair_Distance (fun _ h => h) (Vb.mono (F := Fr 0 w86 O87) hx0 Fr.lt) (Vb.mono (F := Fr 0 w86 O87) hx2 Fr.lt) e92) rfl rfl fun v97 w93 O94 S95 h96 => ?_
     obtain ⟨rfl, r98⟩ := h96.int
     refine owp_yes rfl rfl (o_mv rfl rfl (owp_yes rfl rfl (o_mv rfl rfl (owp_yes rfl rfl ?_))))
     obtain ⟨q99, e100, hy71⟩ := bs hy71
     replace hx1 := (hx1.st S88).st S95
     replace hx2 := hx2.st S95
     refine l_callA (O := O94) (A := All w93) (R := fun w' F v => Vb w' F v q99) (c_repair_Distance (fun _ h => h) (Vb.mono (F := Fr 0 w93 O94) hx2 Fr.lt) (Vb.mono (F := Fr 0 w93 O94) hx1 Fr.lt) e100) rfl rfl fun v105 w101 O102 S103 h104 => ?_
     obtain ⟨rfl, r106⟩ := h104.int
     refine owp_yes rfl rfl ?_
     obtain ⟨n107, e108, hy71⟩ := bs hy71
     have r109 := (chkI_rng e108)
     refine o_adE (he := e108) rfl rfl rfl ?_
     refine owp_yes rfl rfl (o_gtS rfl rfl rfl (fun c110 => ?_) fun c110 => ?_)
     ·
      replace hy71 := ip hy71 c110
      refine o_pf rfl rfl rfl (o_z ?_)
      obtain rfl := sm hy71
      replace hx0 := (hx0.st S95).st S103
      replace hB := ((((hB.st S66).st S78).st S88).st S95).st S103
      replace hx1 := hx1.st S103
      exact ⟨(), _, ⟨rfl, rfl, rfl, rfl, trivial⟩, hB, hx0, hx1⟩
     ·
      replace hy71 := im hy71 c110
      refine o_pf rfl rfl rfl (o_z ?_)
      obtain rfl := sm hy71
      replace hx0 := (hx0.st S95).st S103
      replace hB := ((((hB.st S66).st S78).st S88).st S95).st S103
      replace hx1 := hx1.st S103
      exact ⟨(), _, ⟨rfl, rfl, rfl, rfl, trivial⟩, hB, hx0, hx1⟩
    ·
     replace hy71 := im hy71 c83
     refine owp_yes rfl rfl (o_mv rfl rfl (owp_yes rfl rfl (o_mv rfl rfl (owp_yes rfl rfl ?_))))
     obtain ⟨q111, e112, hy71⟩ := bs hy71
     replace hx0 := hx0.st S78
     replace hx1 := hx1.st S78
     refine l_callA (O := O77) (A := All w76) (R := fun w' F v => Vb w' F v q111) (c_base_Texts (fun _ h => h) (Vb.mono (F := Fr 0 w76 O77) hx0 Fr.lt) (Vb.mono (F := Fr 0 w76 O77) hx1 Fr.lt) e112) rfl rfl fun v117 w113 O114 S115 h116 => ?_
     obtain rfl := h116.bool
     cases q111
     case false =>
      replace hy71 := iF hy71
      refine owp_yes rfl rfl (o_bn rfl rfl rfl (o_pf rfl rfl rfl (o_mv rfl rfl (owp_yes rfl rfl (o_mv rfl rfl (owp_yes rfl rfl (o_mv rfl rfl (owp_yes rfl rfl (o_mv rfl rfl (owp_yes rfl rfl ?_))))))))))
      obtain ⟨q118, e119, hy71⟩ := bs hy71
      replace hx0 := hx0.st S115
      replace hx2 := ((hx2.st S66).st S78).st S115
      refine l_callA (O := O114) (A := All w113) (R := fun w' F v => Vb w' F v q118) (c_repair_Distance (fun _ h => h) (Vb.mono (F := Fr 0 w113 O114) hx0 Fr.lt) (Vb.mono (F := Fr 0 w113 O114) hx2 Fr.lt) e119) rfl rfl fun v124 w120 O121 S122 h123 => ?_
      obtain ⟨rfl, r125⟩ := h123.int
      refine owp_yes rfl rfl (o_mv rfl rfl (owp_yes rfl rfl (o_mv rfl rfl (owp_yes rfl rfl ?_))))
      obtain ⟨q126, e127, hy71⟩ := bs hy71
      replace hx1 := (hx1.st S115).st S122
      replace hx2 := hx2.st S122
      refine l_callA (O := O121) (A := All w120) (R := fun w' F v => Vb w' F v q126) (c_repair_Distance (fun _ h => h) (Vb.mono (F := Fr 0 w120 O121) hx2 Fr.lt) (Vb.mono (F := Fr 0 w120 O121) hx1 Fr.lt) e127) rfl rfl fun v132 w128 O129 S130 h131 => ?_
      obtain ⟨rfl, r133⟩ := h131.int
      refine owp_yes rfl rfl ?_
      obtain ⟨n134, e135, hy71⟩ := bs hy71
      have r136 := (chkI_rng e135)
      refine o_adE (he := e135) rfl rfl rfl ?_
      refine owp_yes rfl rfl (o_gtS rfl rfl rfl (fun c137 => ?_) fun c137 => ?_)
      ·
       replace hy71 := ip hy71 c137
       refine o_pf rfl rfl rfl (o_z ?_)
       obtain rfl := sm hy71
       replace hx0 := (hx0.st S122).st S130
       replace hB := ((((hB.st S66).st S78).st S115).st S122).st S130
       replace hx1 := hx1.st S130
       exact ⟨(), _, ⟨rfl, rfl, rfl, rfl, trivial⟩, hB, hx0, hx1⟩
      ·
       replace hy71 := im hy71 c137
       refine o_pf rfl rfl rfl (o_z ?_)
       obtain rfl := sm hy71
       replace hx0 := (hx0.st S122).st S130
       replace hB := ((((hB.st S66).st S78).st S115).st S122).st S130
       replace hx1 := hx1.st S130
       exact ⟨(), _, ⟨rfl, rfl, rfl, rfl, trivial⟩, hB, hx0, hx1⟩
     replace hy71 := iT hy71
     refine owp_yes rfl rfl (o_bn rfl rfl rfl (o_pf rfl rfl rfl (o_mv rfl rfl (owp_no rfl rfl rfl rfl (owp_no rfl rfl rfl rfl (owp_no rfl rfl rfl rfl (owp_no rfl rfl rfl rfl (owp_no rfl rfl rfl rfl (owp_no rfl rfl rfl rfl (owp_no rfl rfl rfl rfl (owp_no rfl rfl rfl rfl (owp_no rfl rfl rfl rfl (o_pt rfl rfl rfl (o_z ?_))))))))))))))
     obtain rfl := sm hy71
     replace hx0 := hx0.st S115
     replace hB := ((hB.st S66).st S78).st S115
     replace hx1 := hx1.st S115
     exact ⟨(), _, ⟨rfl, rfl, rfl, rfl, trivial⟩, hB, hx0, hx1⟩
  replace hx0 := hx0.st S66
  replace hB := hB.st S66
  replace hx1 := hx1.st S66
  rintro l138 w139 ⟨x73, O140, hs141, hB, hx0, hx1⟩
  refine ewp_sub _ hs141 ?_
  refine ewp_cond rfl (fun c142 => ?_) (fun c142 => ?_)
  ·
   replace hm := ip hm c142
   refine ewp_seq (ewp_region (o_as rfl rfl (o_z ?_)))
   refine ewp_ret ?_
   obtain rfl := sm hm
   exact ret1v rfl (res_tmp rfl) ⟨hB.ext, vBool⟩
  ·
   replace hm := im' hm c142
   refine ewp_skip (ewp_seq ?_)
   obtain ⟨y143, hy144, hm⟩ := bs hm
   refine ewp_join (fun l' w' => ∃ (x146 : Unit) (O' : Lab), subs l' [(6, (.bool y143))] ∧ Bs w A w' O') ?_ ?_
   ·
    refine ewp_region (o_mv rfl rfl (o_mv rfl rfl (o_ln rfl rfl ?_)))
    have l148 : x0.length ≤ 9223372036854775807 := Nat.le_trans hx0.len.2.1 hx0.len.2.2
    have r147 : inI64 (x0.length : Int) := rngNat l148
    refine o_mv rfl rfl (o_ln rfl rfl ?_)
    have l150 : x1.length ≤ 9223372036854775807 := Nat.le_trans hx1.len.2.1 hx1.len.2.2
    have r149 : inI64 (x1.length : Int) := rngNat l150
    obtain ⟨n151, e152, hy144⟩ := bs hy144
    have r153 := (chkI_rng e152)
    refine o_adE (he := e152) rfl rfl rfl ?_
    refine o_leS rfl rfl rfl (fun c154 => ?_) fun c154 => ?_
    ·
     replace hy144 := ip hy144 c154
     refine o_mv rfl rfl (owp_yes rfl rfl (o_mv rfl rfl (owp_yes rfl rfl (o_mv rfl rfl (owp_yes rfl rfl (o_ln rfl rfl ?_))))))
     have l156 : x0.length ≤ 9223372036854775807 := Nat.le_trans hx0.len.2.1 hx0.len.2.2
     have r155 : inI64 (x0.length : Int) := rngNat l156
     refine owp_yes rfl rfl (o_mv rfl rfl (owp_yes rfl rfl (o_ln rfl rfl ?_)))
     have l158 : x1.length ≤ 9223372036854775807 := Nat.le_trans hx1.len.2.1 hx1.len.2.2
     have r157 : inI64 (x1.length : Int) := rngNat l158
     refine owp_yes rfl rfl (o_max rfl rfl rfl ?_)
     refine owp_yes rfl rfl (o_mv rfl rfl (owp_yes rfl rfl (o_ln rfl rfl ?_)))
     have l160 : x0.length ≤ 9223372036854775807 := Nat.le_trans hx0.len.2.1 hx0.len.2.2
     have r159 : inI64 (x0.length : Int) := rngNat l160
     refine owp_yes rfl rfl (o_mv rfl rfl (owp_yes rfl rfl (o_ln rfl rfl ?_)))
     have l162 : x1.length ≤ 9223372036854775807 := Nat.le_trans hx1.len.2.1 hx1.len.2.2
     have r161 : inI64 (x1.length : Int) := rngNat l162
     refine owp_yes rfl rfl (o_min rfl rfl rfl ?_)
     refine owp_yes rfl rfl ?_
     obtain ⟨n163, e164, hy144⟩ := bs hy144
     have r165 := (chkI_rng e164)
     refine o_sbE (he := e164) rfl rfl rfl ?_
     refine owp_yes rfl rfl (o_geS rfl rfl rfl (fun c166 => ?_) fun c166 => ?_)
     ·
      replace hy144 := ip hy144 c166
      refine o_pt rfl rfl rfl (o_mv rfl rfl (owp_yes rfl rfl (o_mv rfl rfl (owp_yes rfl rfl (o_ln rfl rfl ?_)))))
      have l168 : x0.length ≤ 9223372036854775807 := Nat.le_trans hx0.len.2.1 hx0.len.2.2
      have r167 : inI64 (x0.length : Int) := rngNat l168
      refine owp_yes rfl rfl (o_mv rfl rfl (owp_yes rfl rfl (o_ln rfl rfl ?_)))
      have l170 : x1.length ≤ 9223372036854775807 := Nat.le_trans hx1.len.2.1 hx1.len.2.2
      have r169 : inI64 (x1.length : Int) := rngNat l170
      refine owp_yes rfl rfl ?_
      obtain ⟨n171, e172, hy144⟩ := bs hy144
      have r173 := (chkI_rng e172)
      refine o_adE (he := e172) rfl rfl rfl ?_
      refine owp_yes rfl rfl (o_mv rfl rfl (owp_yes rfl rfl ?_))
      obtain ⟨n174, e175, hy144⟩ := bs hy144
      have r176 := (chkI_rng e175)
      refine o_sbE (he := e175) rfl rfl rfl ?_
      refine owp_yes rfl rfl ?_
      obtain ⟨n177, e178, hy144⟩ := bs hy144
      have r179 := remI_in e178 r176
      refine o_rmE (he := e178) rfl rfl rfl ?_
      refine owp_yes rfl rfl (o_eeS rfl rfl rfl (fun c180 => ?_) fun c180 => ?_)
      ·
       replace hy144 := ip hy144 c180
       refine o_pt rfl rfl rfl (o_as rfl rfl (o_z ?_))
       obtain rfl := sm hy144
       exact ⟨(), _, ⟨rfl, trivial⟩, hB⟩
      ·
       replace hy144 := im hy144 c180
       refine o_pt rfl rfl rfl (o_as rfl rfl (o_z ?_))
       obtain rfl := sm hy144
       exact ⟨(), _, ⟨rfl, trivial⟩, hB⟩
     ·
      replace hy144 := im hy144 c166
      refine o_pt rfl rfl rfl (o_mv rfl rfl (owp_no rfl rfl rfl rfl (owp_no rfl rfl rfl rfl (owp_no rfl rfl rfl rfl (owp_no rfl rfl rfl rfl (owp_no rfl rfl rfl rfl (owp_no rfl rfl rfl rfl (owp_no rfl rfl rfl rfl (owp_no rfl rfl rfl rfl (owp_no rfl rfl rfl rfl (o_pf rfl rfl rfl (o_as rfl rfl (o_z ?_)))))))))))))
      obtain rfl := sm hy144
      exact ⟨(), _, ⟨rfl, trivial⟩, hB⟩
    ·
     replace hy144 := im hy144 c154
     refine o_mv rfl rfl (owp_no rfl rfl rfl rfl (owp_no rfl rfl rfl rfl (owp_no rfl rfl rfl rfl (owp_no rfl rfl rfl rfl (owp_no rfl rfl rfl rfl (owp_no rfl rfl rfl rfl (owp_no rfl rfl rfl rfl (owp_no rfl rfl rfl rfl (owp_no rfl rfl rfl rfl (owp_no rfl rfl rfl rfl (owp_no rfl rfl rfl rfl (owp_no rfl rfl rfl rfl (owp_no rfl rfl rfl rfl (o_pf rfl rfl rfl ?_))))))))))))))
     refine o_mv rfl rfl (owp_no rfl rfl rfl rfl (owp_no rfl rfl rfl rfl (owp_no rfl rfl rfl rfl (owp_no rfl rfl rfl rfl (owp_no rfl rfl rfl rfl (owp_no rfl rfl rfl rfl (owp_no rfl rfl rfl rfl (owp_no rfl rfl rfl rfl (owp_no rfl rfl rfl rfl (o_pf rfl rfl rfl (o_as rfl rfl (o_z ?_))))))))))))
     obtain rfl := sm hy144
     exact ⟨(), _, ⟨rfl, trivial⟩, hB⟩
   rintro l181 w182 ⟨x146, O183, hs184, hB⟩
   refine ewp_sub _ hs184 ?_
   refine ewp_ret ?_
   obtain rfl := sm hm
   exact ret1v rfl (res_tmp rfl) ⟨hB.ext, vBool⟩
end
section
section
variable {α : Type}
/-- n insertions and deletions turn a list into another one. -/
inductive Scr : List α → List α → Nat → Prop
  | nil : Scr [] [] 0
  | del {x xs ys n} : Scr xs ys n → Scr (x :: xs) ys (n + 1)
  | ins {y xs ys n} : Scr xs ys n → Scr xs (y :: ys) (n + 1)
  | keep {x xs ys n} : Scr xs ys n → Scr (x :: xs) (x :: ys) n
theorem Scr.symm {xs ys : List α} {n : Nat} (h : Scr xs ys n) : Scr ys xs n := by
  induction h with
  | nil => exact .nil
  | del _ ih => exact .ins ih
  | ins _ ih => exact .del ih
  | keep _ ih => exact .keep ih
theorem Scr.refl : ∀ xs : List α, Scr xs xs 0
  | [] => .nil
  | _ :: xs => .keep (Scr.refl xs)
theorem Scr.zero {xs ys : List α} {n : Nat} (h : Scr xs ys n) : n = 0 → xs = ys := by
  induction h with
  | nil => intro _; rfl
  | del _ _ => intro h; omega
  | ins _ _ => intro h; omega
  | keep _ ih => intro h; rw [ih h]
theorem Scr.bound {xs ys : List α} {n : Nat} (h : Scr xs ys n) : n ≤ xs.length + ys.length ∧ xs.length ≤ ys.length + n ∧ ys.length ≤ xs.length + n ∧ (xs.length + ys.length - n) % 2 = 0 := by
  induction h with
  | nil => simp
  | del _ ih => simp only [List.length_cons]; omega
  | ins _ ih => simp only [List.length_cons]; omega
  | keep _ ih => simp only [List.length_cons]; omega
theorem Scr.all : ∀ xs ys : List α, Scr xs ys (xs.length + ys.length)
  | [], [] => .nil
  | [], y :: ys => .ins (Scr.all [] ys)
  | x :: xs, ys => by
    have := Scr.del (x := x) (Scr.all xs ys)
    rwa [show xs.length + ys.length + 1 = (x :: xs).length + ys.length from by simp only [List.length_cons]; omega] at this
theorem Scr.comp {xs ys : List α} {n : Nat} (h : Scr xs ys n) : ∀ {zs : List α} {m : Nat}, Scr ys zs m → ∃ k, k ≤ n + m ∧ Scr xs zs k := by
  induction h with
  | nil => intro zs m h2; exact ⟨m, by omega, h2⟩
  | del _ ih =>
    intro zs m h2
    obtain ⟨k, hk, hs⟩ := ih h2
    exact ⟨k + 1, by omega, .del hs⟩
  | @ins y xs ys n h1 ih =>
    intro zs m h2
    generalize hy : y :: ys = l at h2
    induction h2 with
    | nil => cases hy
    | @del x' xs' zs' m' h3 _ =>
      injection hy with e1 e2
      subst e1 e2
      obtain ⟨k, hk, hs⟩ := ih h3
      exact ⟨k, by omega, hs⟩
    | @ins z xs' zs' m' h3 ih3 =>
      obtain ⟨k, hk, hs⟩ := ih3 hy
      exact ⟨k + 1, by omega, .ins hs⟩
    | @keep x' xs' zs' m' h3 _ =>
      injection hy with e1 e2
      subst e1 e2
      obtain ⟨k, hk, hs⟩ := ih h3
      exact ⟨k + 1, by omega, .ins hs⟩
  | @keep y xs ys n h1 ih =>
    intro zs m h2
    generalize hy : y :: ys = l at h2
    induction h2 with
    | nil => cases hy
    | @del x' xs' zs' m' h3 _ =>
      injection hy with e1 e2
      subst e1 e2
      obtain ⟨k, hk, hs⟩ := ih h3
      exact ⟨k + 1, by omega, .del hs⟩
    | @ins z xs' zs' m' h3 ih3 =>
      obtain ⟨k, hk, hs⟩ := ih3 hy
      exact ⟨k + 1, by omega, .ins hs⟩
    | @keep x' xs' zs' m' h3 _ =>
      injection hy with e1 e2
      subst e1 e2
      obtain ⟨k, hk, hs⟩ := ih h3
      exact ⟨k, by omega, .keep hs⟩
end
section
variable {α : Type} [DecidableEq α]
/-- The least number, by recursion. -/
def ed : List α → List α → Nat
  | [], ys => ys.length
  | xs, [] => xs.length
  | x :: xs, y :: ys => if x = y then min (min (ed (x :: xs) ys) (ed xs (y :: ys)) + 1) (ed xs ys) else min (ed (x :: xs) ys) (ed xs (y :: ys)) + 1
termination_by xs ys => xs.length + ys.length
theorem ed_nil (ys : List α) : ed [] ys = ys.length := by cases ys <;> simp [ed]
theorem ed_nil' (xs : List α) : ed xs [] = xs.length := by cases xs <;> simp [ed]
theorem ed_cons (x : α) (xs : List α) (y : α) (ys : List α) : ed (x :: xs) (y :: ys) = if x = y then min (min (ed (x :: xs) ys) (ed xs (y :: ys)) + 1) (ed xs ys) else min (ed (x :: xs) ys) (ed xs (y :: ys)) + 1 := by rw [ed]
theorem ed_scr (n : Nat) : ∀ xs ys : List α, xs.length + ys.length ≤ n → Scr xs ys (ed xs ys) := by
  induction n with
  | zero =>
    intro xs ys h
    have h1 : xs = [] := List.eq_nil_of_length_eq_zero (by omega)
    have h2 : ys = [] := List.eq_nil_of_length_eq_zero (by omega)
    subst h1 h2
    rw [ed_nil]; exact .nil
  | succ n ih =>
    intro xs ys h
    match xs, ys, h with
    | [], ys, _ => rw [ed_nil]; simpa using Scr.all [] ys
    | x :: xs, [], _ => rw [ed_nil']; simpa using Scr.all (x :: xs) []
    | x :: xs, y :: ys, h =>
      simp only [List.length_cons] at h
      have h1 := ih (x :: xs) ys (by simp only [List.length_cons]; omega)
      have h2 := ih xs (y :: ys) (by simp only [List.length_cons]; omega)
      have h3 := ih xs ys (by omega)
      have hm : Scr (x :: xs) (y :: ys) (min (ed (x :: xs) ys) (ed xs (y :: ys)) + 1) := by
        rcases Nat.le_total (ed (x :: xs) ys) (ed xs (y :: ys)) with q | q
        · rw [Nat.min_eq_left q]; exact .ins h1
        · rw [Nat.min_eq_right q]; exact .del h2
      rw [ed_cons]
      by_cases e : x = y
      · rw [if_pos e]
        subst e
        rcases Nat.le_total (min (ed (x :: xs) ys) (ed xs (x :: ys)) + 1) (ed xs ys) with q | q
        · rw [Nat.min_eq_left q]; exact hm
        · rw [Nat.min_eq_right q]; exact .keep h3
      · rw [if_neg e]; exact hm
theorem ed_le {xs ys : List α} {n : Nat} (h : Scr xs ys n) : ed xs ys ≤ n := by
  induction h with
  | nil => rw [ed_nil]; simp
  | @del x xs ys n _ ih =>
    cases ys with
    | nil => rw [ed_nil'] at ih ⊢; simp only [List.length_cons]; omega
    | cons y ys => rw [ed_cons]; split <;> omega
  | @ins y xs ys n _ ih =>
    cases xs with
    | nil => rw [ed_nil] at ih ⊢; simp only [List.length_cons]; omega
    | cons x xs => rw [ed_cons]; split <;> omega
  | @keep x xs ys n _ ih => rw [ed_cons, if_pos rfl]; omega
theorem ed_is (xs ys : List α) : Scr xs ys (ed xs ys) := ed_scr _ xs ys (Nat.le_refl _)
theorem ed_symm (xs ys : List α) : ed xs ys = ed ys xs := Nat.le_antisymm (ed_le (ed_is ys xs).symm) (ed_le (ed_is xs ys).symm)
theorem ed_zero (xs ys : List α) : ed xs ys = 0 ↔ xs = ys :=
  ⟨fun h => (ed_is xs ys).zero h, fun h => by subst h; exact Nat.le_zero.1 (ed_le (Scr.refl xs))⟩
theorem ed_tri (xs ys zs : List α) : ed xs zs ≤ ed xs ys + ed ys zs := by
  obtain ⟨k, hk, hs⟩ := (ed_is xs ys).comp (ed_is ys zs)
  exact Nat.le_trans (ed_le hs) hk
end
end
section
section
variable {α σ ρ β : Type}
theorem rng_bnd {f : Nat → α → σ → Option (Ctl σ ρ)} {xs : List α} {s₀ : σ} {k : Fin σ ρ → Option β} {r : Option β} (I : Nat → σ → Prop) (h0 : I 0 s₀)
    (h : ∀ i x s, xs[i]? = some x → I i s → ∃ s', f i x s = some (.next s') ∧ I (i + 1) s') (hb : ∀ s, I xs.length s → k (.done s) = r) : bnd (rng f xs 0 s₀) k = r := by
  obtain ⟨s, h1, h2⟩ := rng_all I h0 h
  rw [h1, bnd_some]
  exact hb s h2
end
end
section
open Go Go.RowKit
/-- An entry of a row of the table. -/
def dE (ar b : List ByteArray) (j : Nat) : Int := ((ed ar (b.take j).reverse : Nat) : Int)
theorem dE_bd (ar b : List ByteArray) (j : Nat) : 0 ≤ dE ar b j ∧ dE ar b j ≤ (ar.length : Int) + b.length := by
  have h := (ed_is ar (b.take j).reverse).bound.1
  rw [List.length_reverse, List.length_take] at h
  unfold dE
  omega
theorem dE_nil (b : List ByteArray) {j : Nat} (h : j ≤ b.length) : dE [] b j = (j : Int) := by
  unfold dE
  rw [ed_nil, List.length_reverse, List.length_take]
  omega
theorem dE_zero (ar b : List ByteArray) : dE ar b 0 = (ar.length : Int) := by unfold dE; simp [ed_nil']
theorem take_rev {α : Type} {b : List α} {k : Nat} {y : α} (h : b[k]? = some y) : (b.take (k + 1)).reverse = y :: (b.take k).reverse := by
  rw [List.take_add_one, h]; simp
theorem dE_yes {x : ByteArray} {ar b : List ByteArray} {k : Nat} (h : b[k]? = some x) : dE (x :: ar) b (k + 1) = min (min (dE (x :: ar) b k) (dE ar b (k + 1)) + 1) (dE ar b k) := by
  unfold dE
  rw [take_rev h, ed_cons, if_pos rfl]
  omega
theorem dE_no {x y : ByteArray} {ar b : List ByteArray} {k : Nat} (h : b[k]? = some y) (hn : ¬ x = y) : dE (x :: ar) b (k + 1) = min (dE (x :: ar) b k) (dE ar b (k + 1)) + 1 := by
  unfold dE
  rw [take_rev h, ed_cons, if_neg hn]
  omega
/-- A row of the table, as far as it is known. -/
def RowK (ar b : List ByteArray) (k : Nat) (s : List Int) : Prop := s.length = b.length + 1 ∧ ∀ j, j ≤ k → s[j]? = some (dE ar b j)
theorem RowK.set {ar b : List ByteArray} {k : Nat} {s : List Int} (h : RowK ar b k s) (hk : k < b.length) {v : Int} (hv : v = dE ar b (k + 1)) : RowK ar b (k + 1) (s.set (k + 1) v) := by
  refine ⟨by rw [List.length_set]; exact h.1, fun j hj => ?_⟩
  rcases Nat.lt_or_ge j (k + 1) with hl | hl
  · rw [List.getElem?_set_ne (by omega)]; exact h.2 j (by omega)
  · have : j = k + 1 := by omega
    subst this
    rw [List.getElem?_set_self (by rw [h.1]; omega), hv]
theorem first_row {b : List ByteArray} {f : Nat → List Int → Option (Ctl (List Int) Int)} (hf : ∀ (k : Nat) (s : List Int), f k s = bnd (s[k]?) fun _ => some (.next (s.set k (k : Int)))) :
    ∃ s, rngN (ρ := Int) f (List.replicate (b.length + 1) (0 : Int)).length (List.replicate (b.length + 1) (0 : Int)) = some (.done s) ∧ RowK [] b b.length s := by
  obtain ⟨s, h1, h2, h3⟩ := rngN_all (f := f) (N := (List.replicate (b.length + 1) (0 : Int)).length) (s₀ := List.replicate (b.length + 1) (0 : Int)) (fun k s => s.length = b.length + 1 ∧ ∀ j, j < k → s[j]? = some (j : Int))
    ⟨by simp, fun j hj => by omega⟩ (fun k s hk ⟨hl, hs⟩ => by
      rw [List.length_replicate] at hk
      have hg : s[k]? = some (s[k]'(by omega)) := List.getElem?_eq_getElem _
      refine ⟨s.set k (k : Int), by rw [hf, hg, bnd_some], by rw [List.length_set]; exact hl, fun j hj => ?_⟩
      rcases Nat.lt_or_ge j k with hl' | hl'
      · rw [List.getElem?_set_ne (by omega)]; exact hs j hl'
      · have : j = k := by omega
        subst this
        rw [List.getElem?_set_self (by omega)])
  refine ⟨s, h1, h2, fun j hj => ?_⟩
  rw [h3 j (by rw [List.length_replicate]; omega), dE_nil b hj]
theorem start_row {ar b : List ByteArray} : RowK ar b 0 ((List.replicate (b.length + 1) (0 : Int)).set (0 : Int).toNat (ar.length : Int)) := by
  refine ⟨by simp, fun j hj => ?_⟩
  have : j = 0 := by omega
  subst this
  rw [dE_zero]
  exact List.getElem?_set_self (by simp)
theorem chk1 {k : Nat} (h : k ≤ 8796093022208) : chkI ((k : Int) + 1) = some ((k + 1 : Nat) : Int) := by rw [chkI_eq (by unfold inI64; omega)]; simp
theorem dst_eq {a b : List ByteArray} (ha : a.length ≤ 8796093022208) (hb : b.length ≤ 8796093022208) : m_repair_Distance a b = some ((ed a.reverse b.reverse : Nat) : Int) := by
  unfold m_repair_Distance
  rw [chk1 hb, bnd_some, mkI_eq (by omega) (by omega), bnd_some]
  obtain ⟨s0, h1, h2⟩ := first_row (b := b) (f := fun k s => bnd (s[k]?) fun _ => some (.next (s.set k (k : Int)))) (fun _ _ => rfl)
  rw [h1, bnd_some, fin_d]
  refine rng_bnd (fun i s => RowK (a.take i).reverse b b.length s) (by simpa using h2) ?_ ?_
  · intro i x s hx hI
    have hi := lt_of_get hx
    rw [bnd_some, mkI_eq (by omega) (by omega), bnd_some, chk1 (k := i) (by omega), bnd_some]
    rw [show atI (List.replicate (b.length + 1) (0 : Int)) 0 = some 0 from by rw [show (0 : Int) = ((0 : Nat) : Int) from rfl, atI_eq]; simp, bnd_some]
    have hst : RowK (x :: (a.take i).reverse) b 0 ((List.replicate (b.length + 1) (0 : Int)).set (0 : Int).toNat ((i + 1 : Nat) : Int)) := by
      have := start_row (ar := x :: (a.take i).reverse) (b := b)
      rwa [List.length_cons, List.length_reverse, List.length_take, Nat.min_eq_left (by omega)] at this
    have hlen : ((a.take i).reverse).length = i := by rw [List.length_reverse, List.length_take]; omega
    obtain ⟨s', h3, h4⟩ := rng_all (f := fun (k138 : Nat) (a139 : ByteArray) (s136 : List Int) => bnd (chkI ((k138 : Int) + 1)) fun n161 => bnd (s136[k138]?) fun a164 => bnd (chkI ((k138 : Int) + 1)) fun n174 => bnd (atI s n174) fun a177 => bnd (chkI ((min a164 a177) + 1)) fun n189 => bnd (atI s136 n161) fun _ => if x = a139 then (bnd (chkI ((k138 : Int) + 1)) fun n207 => bnd (chkI ((k138 : Int) + 1)) fun n210 => bnd (atI (s136.set (n161 : Int).toNat n189) n210) fun a213 => bnd (s[k138]?) fun a225 => bnd (atI (s136.set (n161 : Int).toNat n189) n207) fun _ => some (.next ((s136.set (n161 : Int).toNat n189).set (n207 : Int).toNat (min a213 a225)))) else (some (.next (s136.set (n161 : Int).toNat n189) : Ctl (List Int) (Ctl (List Int) Int)))) (xs := b) (RowK (x :: (a.take i).reverse) b) hst (fun k y u hy hu => by
        have hk := lt_of_get hy
        have b1 := dE_bd (x :: (a.take i).reverse) b k
        have b2 := dE_bd (a.take i).reverse b (k + 1)
        rw [List.length_cons, hlen] at b1
        rw [hlen] at b2
        rw [chk1 (by omega), bnd_some, hu.2 k (Nat.le_refl _), bnd_some, bnd_some, atI_eq, hI.2 (k + 1) (by omega), bnd_some, chkI_eq (by unfold inI64; omega), bnd_some]
        rw [atI_eq, List.getElem?_eq_getElem (by rw [hu.1]; omega), bnd_some, Int.toNat_natCast]
        by_cases e : x = y
        · subst e
          rw [if_pos rfl, bnd_some, bnd_some, atI_eq, List.getElem?_set_self (by rw [hu.1]; omega), bnd_some, hI.2 k (by omega), bnd_some, bnd_some, Int.toNat_natCast, List.set_set]
          exact ⟨_, rfl, hu.set hk (dE_yes hy).symm⟩
        · rw [if_neg e]
          exact ⟨_, rfl, hu.set hk (dE_no hy e).symm⟩)
    rw [h3, bnd_some, fin_d]
    refine ⟨s', rfl, ?_⟩
    rw [take_rev hx]
    exact h4
  · intro s hI
    rw [fin_d, hI.2 b.length (Nat.le_refl _), bnd_some]
    unfold dE
    rw [List.take_length, List.take_length]
theorem texts_eq (a b : List ByteArray) : m_base_Texts a b = some (decide (a = b)) := by
  unfold m_base_Texts
  by_cases hl : (a.length : Int) ≠ (b.length : Int)
  · rw [if_pos hl, decide_eq_false (fun e => hl (by rw [e]))]
  · rw [if_neg hl]
    have hl' : a.length = b.length := by omega
    rcases rng_inv (f := fun (k18 : Nat) (a19 : ByteArray) (_ : Unit) => bnd (b[k18]?) fun a37 => if a19 ≠ a37 then (some (.ret false)) else (some (.next () : Ctl Unit Bool))) (xs := a) (s₀ := ()) (fun k _ => ∀ j, j < k → a[j]? = b[j]?) (fun r => r = false ∧ a ≠ b) (fun j hj => by omega) (fun k x u hx hI => by
      have hk := lt_of_get hx
      have hg : b[k]? = some (b[k]'(by omega)) := List.getElem?_eq_getElem _
      rw [hg, bnd_some]
      by_cases e : x = b[k]'(by omega)
      · left
        refine ⟨(), by rw [if_neg (not_not_intro e)], fun j hj => ?_⟩
        rcases Nat.lt_or_ge j k with q | q
        · exact hI j q
        · have : j = k := by omega
          subst this
          rw [hx, hg, e]
      · right
        refine ⟨false, by rw [if_pos e], rfl, fun h => e ?_⟩
        subst h
        rw [hx] at hg
        exact Option.some.inj hg) with ⟨s, h1, h2⟩ | ⟨r, h1, h2, h3⟩
    · rw [h1, bnd_some, fin_d]
      have : a = b := by
        refine List.ext_getElem? fun j => ?_
        rcases Nat.lt_or_ge j a.length with q | q
        · exact h2 j q
        · rw [List.getElem?_eq_none q, List.getElem?_eq_none (by omega)]
      rw [decide_eq_true this]
    · rw [h1, bnd_some, decide_eq_false h3, h2]; rfl
theorem long_some (a : List ByteArray) : ∃ b, m_law60_long a = some b := by
  have key : ∀ (xs : List ByteArray) (k : Nat) (s : Int), ∃ s', rng (ρ := Bool) (fun (_ : Nat) (x : ByteArray) (s : Int) => some (.next (wr (s + (x.size : Int))))) xs k s = some (.done s') := by
    intro xs
    induction xs with
    | nil => intro k s; exact ⟨s, rfl⟩
    | cons x xs ih => intro k s; exact ih (k + 1) _
  obtain ⟨s, hs⟩ := key a 0 (a.length : Int)
  unfold m_law60_long
  rw [hs, bnd_some, fin_d]
  by_cases h : 600 < s
  · exact ⟨true, by rw [if_pos h, bnd_some]⟩
  · exact ⟨false, by rw [if_neg h, bnd_some]⟩
end
section
open Go Go.RowKit
def Le {α : Type} (x y : Option α) : Prop := ∀ r, x = some r → y = some r
theorem Le.rf {α : Type} {x : Option α} : Le x x := fun _ h => h
theorem Le.bnd {α β : Type} {x x' : Option α} {f f' : α → Option β} (h : Le x x') (hf : ∀ a, Le (f a) (f' a)) : Le (bnd x f) (bnd x' f') := fun r hr => by
  obtain ⟨a, ha, hb⟩ := bs hr
  rw [h a ha, bnd_some]
  exact hf a r hb
theorem Le.ite {α : Type} {p : Prop} [Decidable p] {x x' y y' : Option α} (h : Le x x') (k : Le y y') : Le (if p then x else y) (if p then x' else y') := by
  by_cases hp : p
  · rw [if_pos hp, if_pos hp]; exact h
  · rw [if_neg hp, if_neg hp]; exact k
theorem Le.fin {σ κ : Type} {y : Fin σ κ} {f f' : σ → Option κ} (hf : ∀ a, Le (f a) (f' a)) : Le (fin y f) (fin y f') := by
  cases y with
  | done s => exact hf s
  | ret c => exact Le.rf
theorem Le.rng {α σ ρ : Type} {f f' : Nat → α → σ → Option (Ctl σ ρ)} (hf : ∀ k a s, Le (f k a s) (f' k a s)) : ∀ {xs : List α} {k : Nat} {s : σ}, Le (rng f xs k s) (rng f' xs k s)
  | [], _, _ => Le.rf
  | x :: xs, k, s => fun r hr => by
    simp only [Proofs.Ytafdmfhdjfkooaa.rng] at hr ⊢
    cases hc : f k x s with
    | none => rw [hc] at hr; cases hr
    | some c =>
      rw [hc] at hr
      rw [hf k x s c hc]
      cases c with
      | next s' => exact Le.rng hf r hr
      | brk s' => exact hr
      | ret q => exact hr
theorem Le.rngN {σ ρ : Type} {f f' : Nat → σ → Option (Ctl σ ρ)} {n : Nat} {s : σ} (hf : ∀ k s, Le (f k s) (f' k s)) : Le (rngN f n s) (rngN f' n s) := Le.rng fun _ k s => hf k s
theorem Le.itr {σ ρ : Type} {f f' : σ → Option (Ctl σ ρ)} (hf : ∀ s, Le (f s) (f' s)) : ∀ (n : Nat) (s : σ), Le (itr f n s) (itr f' n s)
  | 0, _ => Le.rf
  | n + 1, s => fun r hr => by
    simp only [Proofs.Ytafdmfhdjfkooaa.itr] at hr ⊢
    cases hc : f s with
    | none => rw [hc] at hr; cases hr
    | some c =>
      rw [hc] at hr
      rw [hf s c hc]
      cases c with
      | next s' => exact Le.itr hf n s' r hr
      | brk s' => exact hr
      | ret q => exact hr
def lopE {σ ρ : Type} (f : σ → Option (Ctl σ ρ)) (s : σ) : Option (Fin σ ρ) := itr f 600 s
theorem Le.lop {σ ρ : Type} {f f' : σ → Option (Ctl σ ρ)} {s : σ} (hf : ∀ s, Le (f s) (f' s)) : Le (lopE f s) (lop f' s) := fun r hr => lop_some.2 ⟨600, Le.itr hf 600 s r hr⟩
end
section
open Go Go.RowKit
def factB (vars : List Int) (x : Fct) : Bool := decide (0 ≤ x.var) && (decide (0 ≤ x.val) && (match vars[x.var.toNat]? with | some y => decide (x.val < y) | none => false))
theorem factB_ok {vars : List Int} {x : Fct} (h : factB vars x = true) : FactOk vars x := by
  unfold factB at h
  simp only [Bool.and_eq_true, decide_eq_true_eq] at h
  obtain ⟨h1, h2, h3⟩ := h
  cases hv : vars[x.var.toNat]? with
  | none => rw [hv] at h3; cases h3
  | some y => rw [hv] at h3; exact ⟨h1, h2, y, hv, by simpa using h3⟩
def ascB : List Fct → Bool
  | x :: y :: r => decide (x.var < y.var) && ascB (y :: r)
  | _ => true
theorem ascB_ok : ∀ {f : List Fct}, ascB f = true → ∀ (i : Nat) x y, f[i]? = some x → f[i + 1]? = some y → x.var < y.var
  | [], _, i, x, y, h, _ => by simp at h
  | [_], _, i, x, y, _, h => by simp at h
  | a :: b :: r, h, i, x, y, h1, h2 => by
    simp only [ascB, Bool.and_eq_true, decide_eq_true_eq] at h
    cases i with
    | zero => simp at h1 h2; subst h1; subst h2; exact h.1
    | succ i => exact ascB_ok h.2 i x y (by simpa using h1) (by simpa using h2)
def factsB (vars : List Int) (f : List Fct) : Bool := f.all (factB vars) && ascB f
theorem factsB_ok {vars : List Int} {f : List Fct} (h : factsB vars f = true) : FactsOk vars f := by
  unfold factsB at h
  rw [Bool.and_eq_true, List.all_eq_true] at h
  exact ⟨fun i x hx => factB_ok (h.1 x (List.mem_of_getElem? hx)), ascB_ok h.2⟩
def stateB : List Int → List Int → Bool
  | [], [] => true
  | y :: vars, x :: s => decide (0 ≤ x) && (decide (x < y) && stateB vars s)
  | _, _ => false
theorem stateB_ok : ∀ {vars s : List Int}, stateB vars s = true → StateOk vars s
  | [], [], _ => ⟨rfl, fun i x y h => by simp at h⟩
  | y :: vars, x :: s, h => by
    simp only [stateB, Bool.and_eq_true, decide_eq_true_eq] at h
    obtain ⟨h1, h2⟩ := stateB_ok h.2.2
    refine ⟨by simp [h1], fun i a b ha hb => ?_⟩
    cases i with
    | zero => simp at ha hb; subst ha; subst hb; exact ⟨h.1, h.2.1⟩
    | succ i => exact h2 i a b (by simpa using ha) (by simpa using hb)
  | [], _ :: _, h => by simp [stateB] at h
  | _ :: _, [], h => by simp [stateB] at h
def nameB (s : ByteArray) : Bool := decide (s.size ≤ 256) && s.data.toList.all fun c => decide (32 ≤ c.toNat) && decide (c.toNat ≤ 126)
theorem nameB_ok {s : ByteArray} (h : nameB s = true) : NameOk s := by
  unfold nameB at h
  simp only [Bool.and_eq_true, decide_eq_true_eq, List.all_eq_true] at h
  refine ⟨h.1, fun i hi => h.2 _ ?_⟩
  show s.data[i] ∈ _
  simp
def opB (vars : List Int) (o : Opr) : Bool := decide (0 ≤ o.cost) && (decide (o.cost ≤ 1048576) && (decide (o.effs.length ≤ 64) && (nameB o.name && (factsB vars o.pre && o.effs.all fun e => factsB vars e.cond && factB vars ⟨e.var, e.val⟩))))
theorem opB_ok {vars : List Int} {o : Opr} (h : opB vars o = true) : OpOk vars o := by
  unfold opB at h
  simp only [Bool.and_eq_true, decide_eq_true_eq, List.all_eq_true] at h
  obtain ⟨h1, h2, h3, h4, h5, h6⟩ := h
  exact ⟨h1, h2, h3, nameB_ok h4, factsB_ok h5, fun i e he => ⟨factsB_ok (h6 e (List.mem_of_getElem? he)).1, factB_ok (h6 e (List.mem_of_getElem? he)).2⟩⟩
def taskB (t : Tsk) : Bool := decide (t.vars.length ≤ 64) && (decide (t.ops.length ≤ 4096) && ((t.vars.all fun n => decide (1 ≤ n) && decide (n ≤ 64)) && (stateB t.vars t.init && (factsB t.vars t.goal && t.ops.all (opB t.vars)))))
theorem taskB_ok {t : Tsk} (h : taskB t = true) : TaskOk t := by
  unfold taskB at h
  simp only [Bool.and_eq_true, decide_eq_true_eq, List.all_eq_true] at h
  obtain ⟨h1, h2, h3, h4, h5, h6⟩ := h
  exact ⟨h1, h2, fun i n hn => h3 n (List.mem_of_getElem? hn), stateB_ok h4, factsB_ok h5, fun i o ho => opB_ok (h6 o (List.mem_of_getElem? ho))⟩
def e_task_Check (t : Tsk) : Option Err := if taskB t = true then some ⟨0⟩ else none
theorem le_task_Check (t : Tsk) : Le (e_task_Check t) (m_task_Check t) := fun r h => by
  obtain ⟨h1, rfl⟩ := ite_some h
  unfold m_task_Check
  rw [check_ok.2 (taskB_ok h1)]
def e_base_Ints (x y : List Int) : Option Bool := some (decide (x = y))
theorem le_base_Ints (x y : List Int) : Le (e_base_Ints x y) (m_base_Ints x y) := fun r h => by
  unfold e_base_Ints at h
  unfold m_base_Ints
  rw [← h]
  by_cases hx : x = y
  · rw [bof_t hx]; simp [hx]
  · rw [bof_f hx]; simp [hx]
def e_task_Holds (f : List Fct) (s : List Int) : Option Bool := m_task_Holds f s
theorem le_task_Holds (f : List Fct) (s : List Int) : Le (e_task_Holds f s) (m_task_Holds f s) := Le.rf
def e_slices_Clone_Lint_int (x : List Int) : Option (List Int) := m_slices_Clone_Lint_int x
theorem le_slices_Clone_Lint_int (x : List Int) : Le (e_slices_Clone_Lint_int x) (m_slices_Clone_Lint_int x) := Le.rf
end
section
open Go Go.RowKit
set_option maxRecDepth 20000
attribute [local irreducible] bnd fin rng rngN chkI mkI appI atI quoT remI m_slices_Clone_Lapi_Fact_api_Fact m_slices_Clone_Lapi_Effect_api_Effect m_slices_Clone_Lint_int m_slices_Clone_Luint64_uint64
def e_slices_Clone_Luint64_uint64 (x : List U64) : Option (List U64) := m_slices_Clone_Luint64_uint64 x
theorem le_slices_Clone_Luint64_uint64 (x : List U64) : Le (e_slices_Clone_Luint64_uint64 x) (m_slices_Clone_Luint64_uint64 x) := Le.rf
def e_succgen_New (t : Tsk) : Option (Option Gnr × Err) := if taskB t = true then some (some ⟨t⟩, ⟨0⟩) else none
theorem le_succgen_New (t : Tsk) : Le (e_succgen_New t) (m_succgen_New t) := fun r h => by
  obtain ⟨h1, rfl⟩ := ite_some h
  exact new_ok (taskB_ok h1)
def e_succgen_Generator_Applicable (x : Option Gnr) (s : List Int) : Option (List Int) := match x with
  | some g => if stateB g.t.vars s = true then (if s.length ≤ 1000000 then some (appl g.t s) else none) else none
  | none => none
theorem le_succgen_Generator_Applicable (x : Option Gnr) (s : List Int) : Le (e_succgen_Generator_Applicable x s) (m_succgen_Generator_Applicable x s) := fun r h => by
  cases x with
  | none => cases h
  | some g =>
    unfold e_succgen_Generator_Applicable at h
    dsimp only at h
    split at h
    · rename_i h1
      obtain ⟨h3, rfl⟩ := ite_some h
      unfold m_succgen_Generator_Applicable
      rw [if_pos h3]
      show some (appS g.t s) = _
      rw [appS_ok (stateB_ok h1)]
    · cases h
noncomputable def e_breadth_queue_Len (x0 : List Itm) : Option Int :=
  some (x0.length : Int)
theorem le_breadth_queue_Len (x0 : List Itm) : Le (e_breadth_queue_Len x0) (m_breadth_queue_Len x0) := by
  unfold e_breadth_queue_Len m_breadth_queue_Len
  repeat' (first | apply Le.ite | apply Le.bnd | apply Le.fin | apply Le.rng | apply Le.rngN | apply Le.lop | exact Le.rf | intro _)
noncomputable def e_breadth_queue_Less (x0 : List Itm) (x1 : Int) (x2 : Int) : Option Bool :=
  bnd (bnd (atI x0 x1) fun a10 => bnd (atI x0 x2) fun a24 => if a10.cost < a24.cost then (some true) else (bnd (atI x0 x1) fun a39 => bnd (atI x0 x2) fun a53 => if a39.cost = a53.cost then (bnd (atI x0 x1) fun a68 => bnd (atI x0 x2) fun a82 => if a68.order < a82.order then (some true) else (some false)) else (some false)) : Option Bool) fun y6 => some y6
theorem le_breadth_queue_Less (x0 : List Itm) (x1 : Int) (x2 : Int) : Le (e_breadth_queue_Less x0 x1 x2) (m_breadth_queue_Less x0 x1 x2) := by
  unfold e_breadth_queue_Less m_breadth_queue_Less
  repeat' (first | apply Le.ite | apply Le.bnd | apply Le.fin | apply Le.rng | apply Le.rngN | apply Le.lop | exact Le.rf | intro _)
noncomputable def e_breadth_queue_Swap (x0 : List Itm) (x1 : Int) (x2 : Int) : Option (List Itm) :=
  bnd (atI x0 x2) fun a4 => bnd (atI x0 x1) fun a18 => bnd (atI x0 x1) fun a32 => bnd (atI (x0.set (x1 : Int).toNat a4) x2) fun a48 => some ((x0.set (x1 : Int).toNat a4).set (x2 : Int).toNat a18)
theorem le_breadth_queue_Swap (x0 : List Itm) (x1 : Int) (x2 : Int) : Le (e_breadth_queue_Swap x0 x1 x2) (m_breadth_queue_Swap x0 x1 x2) := by
  unfold e_breadth_queue_Swap m_breadth_queue_Swap
  repeat' (first | apply Le.ite | apply Le.bnd | apply Le.fin | apply Le.rng | apply Le.rngN | apply Le.lop | exact Le.rf | intro _)
noncomputable def e_breadth_queue_Push (x0 : BxR 77 75 Itm) (x1 : An 75 Itm) : Option (BxR 77 75 Itm) :=
  bnd (appI 24 x0.l [x1.x]) fun u31 => some (⟨u31⟩ : BxR 77 75 Itm)
theorem le_breadth_queue_Push (x0 : BxR 77 75 Itm) (x1 : An 75 Itm) : Le (e_breadth_queue_Push x0 x1) (m_breadth_queue_Push x0 x1) := by
  unfold e_breadth_queue_Push m_breadth_queue_Push
  repeat' (first | apply Le.ite | apply Le.bnd | apply Le.fin | apply Le.rng | apply Le.rngN | apply Le.lop | exact Le.rf | intro _)
noncomputable def e_breadth_queue_Pop (x0 : BxR 77 75 Itm) : Option ((An 75 Itm) × (BxR 77 75 Itm)) :=
  bnd (chkI ((x0.l.length : Int) - 1)) fun n13 => bnd (atI x0.l n13) fun a16 => bnd (cutI x0.l 0 n13) fun u37 => some ((⟨a16⟩ : An 75 Itm), (⟨u37⟩ : BxR 77 75 Itm))
theorem le_breadth_queue_Pop (x0 : BxR 77 75 Itm) : Le (e_breadth_queue_Pop x0) (m_breadth_queue_Pop x0) := by
  unfold e_breadth_queue_Pop m_breadth_queue_Pop
  repeat' (first | apply Le.ite | apply Le.bnd | apply Le.fin | apply Le.rng | apply Le.rngN | apply Le.lop | exact Le.rf | intro _)
noncomputable def e_container_heap_up (x0 : BxR 77 75 Itm) (x1 : Int) : Option (BxR 77 75 Itm) :=
  bnd (lopE (ρ := (BxR 77 75 Itm)) (fun (s5 : Int × (BxR 77 75 Itm)) => bnd (chkI (s5.1 - 1)) fun n22 => bnd (quoT n22 2) fun n25 => bnd (if n25 = s5.1 then (some true) else (bnd (e_breadth_queue_Less s5.2.l s5.1 n25) fun q42 => if q42 = true then some false else some true) : Option Bool) fun y28 => if y28 = true then (some (.brk (s5.1, s5.2))) else (bnd (e_breadth_queue_Swap s5.2.l n25 s5.1) fun q73 => some (.next (n25, (⟨q73⟩ : BxR 77 75 Itm))))) (x1, x0)) fun res3 => fin res3 fun (s90 : Int × (BxR 77 75 Itm)) => some s90.2
theorem le_container_heap_up (x0 : BxR 77 75 Itm) (x1 : Int) : Le (e_container_heap_up x0 x1) (m_container_heap_up x0 x1) := by
  unfold e_container_heap_up m_container_heap_up
  repeat' (first | apply le_breadth_queue_Less | apply le_breadth_queue_Swap | apply Le.ite | apply Le.bnd | apply Le.fin | apply Le.rng | apply Le.rngN | apply Le.lop | exact Le.rf | intro _)
noncomputable def e_container_heap_down (x0 : BxR 77 75 Itm) (x1 : Int) (x2 : Int) : Option (Bool × (BxR 77 75 Itm)) :=
  bnd (lopE (ρ := Bool × (BxR 77 75 Itm)) (fun (s6 : Int × (BxR 77 75 Itm)) => bnd (chkI (2 * s6.1)) fun n23 => bnd (chkI (n23 + 1)) fun n26 => bnd (if x2 ≤ n26 then (some true) else (if n26 < 0 then (some true) else (some false)) : Option Bool) fun y29 => if y29 = true then (some (.brk (s6.1, s6.2))) else (bnd (bnd (chkI (n26 + 1)) fun n45 => bnd (if n45 < x2 then (bnd (e_breadth_queue_Less s6.2.l n45 n26) fun q62 => if q62 = true then some true else some false) else (some false) : Option Bool) fun y48 => if y48 = true then (some n45) else (some n26) : Option Int) fun y40 => bnd (e_breadth_queue_Less s6.2.l y40 s6.1) fun q97 => if q97 = true then bnd (e_breadth_queue_Swap s6.2.l s6.1 y40) fun q109 => some (.next (y40, (⟨q109⟩ : BxR 77 75 Itm))) else some (.brk (s6.1, s6.2)))) (x1, x0)) fun res4 => fin res4 fun (s126 : Int × (BxR 77 75 Itm)) => bnd (if x1 < s126.1 then (some true) else (some false) : Option Bool) fun y128 => some (y128, s126.2)
theorem le_container_heap_down (x0 : BxR 77 75 Itm) (x1 : Int) (x2 : Int) : Le (e_container_heap_down x0 x1 x2) (m_container_heap_down x0 x1 x2) := by
  unfold e_container_heap_down m_container_heap_down
  repeat' (first | apply le_breadth_queue_Less | apply le_breadth_queue_Swap | apply Le.ite | apply Le.bnd | apply Le.fin | apply Le.rng | apply Le.rngN | apply Le.lop | exact Le.rf | intro _)
noncomputable def e_container_heap_Push (x0 : BxR 77 75 Itm) (x1 : An 75 Itm) : Option (BxR 77 75 Itm) :=
  bnd (e_breadth_queue_Push x0 (⟨x1.x⟩ : An 75 Itm)) fun q9 => bnd (e_breadth_queue_Len q9.l) fun q26 => bnd (chkI (q26 - 1)) fun n34 => bnd (e_container_heap_up q9 n34) fun q42 => some q42
theorem le_container_heap_Push (x0 : BxR 77 75 Itm) (x1 : An 75 Itm) : Le (e_container_heap_Push x0 x1) (m_container_heap_Push x0 x1) := by
  unfold e_container_heap_Push m_container_heap_Push
  repeat' (first | apply le_breadth_queue_Len | apply le_breadth_queue_Push | apply le_container_heap_up | apply Le.ite | apply Le.bnd | apply Le.fin | apply Le.rng | apply Le.rngN | apply Le.lop | exact Le.rf | intro _)
noncomputable def e_container_heap_Pop (x0 : BxR 77 75 Itm) : Option ((An 75 Itm) × (BxR 77 75 Itm)) :=
  bnd (e_breadth_queue_Len x0.l) fun q11 => bnd (chkI (q11 - 1)) fun n19 => bnd (e_breadth_queue_Swap x0.l 0 n19) fun q22 => bnd (e_container_heap_down (⟨q22⟩ : BxR 77 75 Itm) 0 n19) fun q35 => bnd (e_breadth_queue_Pop q35.2) fun q44 => some ((⟨q44.1.x⟩ : An 75 Itm), q44.2)
theorem le_container_heap_Pop (x0 : BxR 77 75 Itm) : Le (e_container_heap_Pop x0) (m_container_heap_Pop x0) := by
  unfold e_container_heap_Pop m_container_heap_Pop
  repeat' (first | apply le_breadth_queue_Len | apply le_breadth_queue_Pop | apply le_breadth_queue_Swap | apply le_container_heap_down | apply Le.ite | apply Le.bnd | apply Le.fin | apply Le.rng | apply Le.rngN | apply Le.lop | exact Le.rf | intro _)
noncomputable def e_pack_New (x0 : List Int) : Option ((Option Pkr) × Err) :=
  if 64 < (x0.length : Int) then (some (none, (⟨5⟩ : Err))) else (bnd (rng (ρ := (Option Pkr) × Err) (fun (k25 : Nat) (a26 : Int) (s23 : Int × Pkr) => bnd (if a26 < 1 then (some true) else (if 64 < a26 then (some true) else (some false)) : Option Bool) fun y48 => if y48 = true then (some (.ret (none, (⟨1⟩ : Err)))) else (bnd (lopE (ρ := Ctl (Int × Pkr) ((Option Pkr) × Err)) (fun (s61 : Int) => bnd (shlI 1 s61) fun n76 => if n76 < a26 then (bnd (chkI (s61 + 1)) fun n80 => some (.next n80)) else (some (.brk s61))) 0) fun res59 => fin res59 fun (s87 : Int) => bnd (bnd (chkI (s23.1 + s87)) fun n95 => if 64 < n95 then (bnd (chkI (s23.2.words + 1)) fun n109 => some (0, (⟨s23.2.fields, n109⟩ : Pkr))) else (some (s23.1, s23.2)) : Option (Int × Pkr)) fun y89 => bnd (chkI (y89.2.words - 1)) fun n133 => bnd (appI 32 y89.2.fields [(⟨n133, y89.1, s87, a26⟩ : PFd)]) fun u142 => bnd (chkI (y89.1 + s87)) fun n155 => some (.next (n155, (⟨u142, y89.2.words⟩ : Pkr))))) x0 0 (0, (⟨([] : List PFd), 1⟩ : Pkr))) fun res21 => fin res21 fun (s167 : Int × Pkr) => some ((some s167.2), (⟨0⟩ : Err)))
theorem le_pack_New (x0 : List Int) : Le (e_pack_New x0) (m_pack_New x0) := by
  unfold e_pack_New m_pack_New
  repeat' (first | apply Le.ite | apply Le.bnd | apply Le.fin | apply Le.rng | apply Le.rngN | apply Le.lop | exact Le.rf | intro _)
noncomputable def e_pack_field_mask (x0 : PFd) : Option U64 :=
  bnd (shlU (1 : U64) x0.width) fun n12 => bnd (shlU (n12 - (1 : U64)) x0.bit) fun n14 => some n14
theorem le_pack_field_mask (x0 : PFd) : Le (e_pack_field_mask x0) (m_pack_field_mask x0) := by
  unfold e_pack_field_mask m_pack_field_mask
  repeat' (first | apply Le.ite | apply Le.bnd | apply Le.fin | apply Le.rng | apply Le.rngN | apply Le.lop | exact Le.rf | intro _)
noncomputable def e_pack_field_get (x0 : PFd) (x1 : List U64) : Option Int :=
  bnd (atI x1 x0.word) fun a15 => bnd (e_pack_field_mask x0) fun q26 => bnd (shrU (a15 &&& q26) x0.bit) fun n33 => some n33.toInt
theorem le_pack_field_get (x0 : PFd) (x1 : List U64) : Le (e_pack_field_get x0 x1) (m_pack_field_get x0 x1) := by
  unfold e_pack_field_get m_pack_field_get
  repeat' (first | apply le_pack_field_mask | apply Le.ite | apply Le.bnd | apply Le.fin | apply Le.rng | apply Le.rngN | apply Le.lop | exact Le.rf | intro _)
noncomputable def e_pack_Packer_Pack (x0 : Pkr) (x1 : List Int) : Option ((List U64) × Err) :=
  if (x1.length : Int) ≠ (x0.fields.length : Int) then (some (([] : List U64), (⟨2⟩ : Err))) else (bnd (mkI 8 ((0 : U64) : U64) x0.words) fun u25 => bnd (rng (ρ := (List U64) × Err) (fun (k50 : Nat) (a51 : PFd) (s48 : (List U64)) => bnd (bnd (x1[k50]?) fun a87 => if a87 < 0 then (some true) else (bnd (x1[k50]?) fun a98 => if a51.size ≤ a98 then (some true) else (some false)) : Option Bool) fun y83 => if y83 = true then (some (.ret (([] : List U64), (⟨2⟩ : Err)))) else (bnd (atI s48 a51.word) fun a114 => bnd (x1[k50]?) fun a125 => bnd (shlU (BitVec.ofInt 64 a125) a51.bit) fun n135 => bnd (atI s48 a51.word) fun a137 => some (.next (s48.set (a51.word : Int).toNat (a114 ||| n135))))) x0.fields 0 u25) fun res46 => fin res46 fun (s154 : (List U64)) => some (s154, (⟨0⟩ : Err)))
theorem le_pack_Packer_Pack (x0 : Pkr) (x1 : List Int) : Le (e_pack_Packer_Pack x0 x1) (m_pack_Packer_Pack x0 x1) := by
  unfold e_pack_Packer_Pack m_pack_Packer_Pack
  repeat' (first | apply Le.ite | apply Le.bnd | apply Le.fin | apply Le.rng | apply Le.rngN | apply Le.lop | exact Le.rf | intro _)
noncomputable def e_pack_Packer_Unpack (x0 : Pkr) (x1 : List U64) : Option ((List Int) × Err) :=
  if (x1.length : Int) ≠ x0.words then (some (([] : List Int), (⟨2⟩ : Err))) else (bnd (mkI 8 (0 : Int) (x0.fields.length : Int)) fun u25 => bnd (e_slices_Clone_Luint64_uint64 x1) fun q38 => bnd (rng (ρ := (List Int) × Err) (fun (k60 : Nat) (a61 : PFd) (s58 : (List Int) × (List U64)) => bnd (e_pack_field_get a61 x1) fun q97 => bnd (s58.1[k60]?) fun a105 => bnd ((s58.1.set k60 q97)[k60]?) fun a117 => if a61.size ≤ a117 then (some (.ret (([] : List Int), (⟨2⟩ : Err)))) else (bnd (atI s58.2 a61.word) fun a128 => bnd (e_pack_field_mask a61) fun q139 => bnd (atI s58.2 a61.word) fun a146 => some (.next ((s58.1.set k60 q97), (s58.2.set (a61.word : Int).toNat (a128 &&& ~~~q139)))))) x0.fields 0 (u25, q38)) fun res56 => fin res56 fun (s163 : (List Int) × (List U64)) => bnd (rng (ρ := (List Int) × Err) (fun (k171 : Nat) (a172 : U64) (s169 : Unit) => bnd (s163.2[k171]?) fun a182 => if (a182.toNat : Int) ≠ ((0 : U64).toNat : Int) then (some (.ret (([] : List Int), (⟨2⟩ : Err)))) else (some (.next ()))) q38 0 ()) fun res167 => fin res167 fun (s196 : Unit) => some (s163.1, (⟨0⟩ : Err)))
theorem le_pack_Packer_Unpack (x0 : Pkr) (x1 : List U64) : Le (e_pack_Packer_Unpack x0 x1) (m_pack_Packer_Unpack x0 x1) := by
  unfold e_pack_Packer_Unpack m_pack_Packer_Unpack
  repeat' (first | apply le_pack_field_get | apply le_pack_field_mask | apply le_slices_Clone_Luint64_uint64 | apply Le.ite | apply Le.bnd | apply Le.fin | apply Le.rng | apply Le.rngN | apply Le.lop | exact Le.rf | intro _)
noncomputable def e_pack_Packer_Hash (x0 : Pkr) (x1 : List U64) : Option Int :=
  bnd (rng (ρ := Int) (fun (k13 : Nat) (a14 : U64) (s11 : U64) => bnd (shrU ((s11 ^^^ a14) * (13787848793156543929 : U64)) 29) fun n31 => some (.next (((s11 ^^^ a14) * (13787848793156543929 : U64)) ^^^ n31))) x1 0 ((BitVec.ofInt 64 (x1.length : Int)) + (11400714819323198485 : U64))) fun res9 => fin res9 fun (s37 : U64) => bnd (shrU s37 2) fun n39 => some n39.toInt
theorem le_pack_Packer_Hash (x0 : Pkr) (x1 : List U64) : Le (e_pack_Packer_Hash x0 x1) (m_pack_Packer_Hash x0 x1) := by
  unfold e_pack_Packer_Hash m_pack_Packer_Hash
  repeat' (first | apply Le.ite | apply Le.bnd | apply Le.fin | apply Le.rng | apply Le.rngN | apply Le.lop | exact Le.rf | intro _)
noncomputable def e_slices_Equal_Luint64_uint64 (x0 : List U64) (x1 : List U64) : Option Bool :=
  if (x0.length : Int) ≠ (x1.length : Int) then (some false) else (bnd (rng (ρ := Bool) (fun (k18 : Nat) (a19 : U64) (s16 : Unit) => bnd (x1[k18]?) fun a36 => if (a19.toNat : Int) ≠ (a36.toNat : Int) then (some (.ret false)) else (some (.next ()))) x0 0 ()) fun res14 => fin res14 fun (s50 : Unit) => some true)
theorem le_slices_Equal_Luint64_uint64 (x0 : List U64) (x1 : List U64) : Le (e_slices_Equal_Luint64_uint64 x0 x1) (m_slices_Equal_Luint64_uint64 x0 x1) := by
  unfold e_slices_Equal_Luint64_uint64 m_slices_Equal_Luint64_uint64
  repeat' (first | apply Le.ite | apply Le.bnd | apply Le.fin | apply Le.rng | apply Le.rngN | apply Le.lop | exact Le.rf | intro _)
noncomputable def e_registry_New (x0 : List Int) : Option ((Option Reg) × Err) :=
  bnd (e_pack_New x0) fun q4 => if q4.2.n ≠ 0 then (some (none, (⟨q4.2.n⟩ : Err))) else (bnd q4.1 fun o22 => some ((some (⟨o22, ([] : List REn), (⟨[]⟩ : MapR 3 Int Int)⟩ : Reg)), (⟨0⟩ : Err)))
theorem le_registry_New (x0 : List Int) : Le (e_registry_New x0) (m_registry_New x0) := by
  unfold e_registry_New m_registry_New
  repeat' (first | apply le_pack_New | apply Le.ite | apply Le.bnd | apply Le.fin | apply Le.rng | apply Le.rngN | apply Le.lop | exact Le.rf | intro _)
noncomputable def e_registry_Registry_find (x0 : Reg) (x1 : List Int) : Option ((List U64) × Int × Int × Err) :=
  bnd (e_pack_Packer_Pack x0.packer x1) fun q20 => if q20.2.n ≠ 0 then (some (([] : List U64), 0, (-1), (⟨2⟩ : Err))) else (bnd (e_pack_Packer_Hash x0.packer q20.1) fun q41 => bnd (rng (ρ := (List U64) × Int × Int × Err) (fun (k66 : Nat) (a67 : Int) (s64 : Unit) => bnd (atI x0.entries a67) fun a100 => bnd (e_slices_Equal_Luint64_uint64 a100.words q20.1) fun q118 => if q118 = true then some (.ret (q20.1, q41, a67, (⟨0⟩ : Err))) else some (.next ())) (mget ([] : List Int) x0.table.l q41) 0 ()) fun res62 => fin res62 fun (s139 : Unit) => some (q20.1, q41, (-1), (⟨0⟩ : Err)))
theorem le_registry_Registry_find (x0 : Reg) (x1 : List Int) : Le (e_registry_Registry_find x0 x1) (m_registry_Registry_find x0 x1) := by
  unfold e_registry_Registry_find m_registry_Registry_find
  repeat' (first | apply le_pack_Packer_Hash | apply le_pack_Packer_Pack | apply le_slices_Equal_Luint64_uint64 | apply Le.ite | apply Le.bnd | apply Le.fin | apply Le.rng | apply Le.rngN | apply Le.lop | exact Le.rf | intro _)
noncomputable def e_registry_Registry_Add (x0 : Reg) (x1 : List Int) : Option (Int × Bool × Err × Reg) :=
  bnd (e_registry_Registry_find x0 x1) fun q5 => if q5.2.2.2.n ≠ 0 then (some (0, false, (⟨q5.2.2.2.n⟩ : Err), x0)) else (if 0 ≤ q5.2.2.1 then (some (q5.2.2.1, false, (⟨0⟩ : Err), x0)) else (if 65536 ≤ (x0.entries.length : Int) then (some (0, false, (⟨10⟩ : Err), x0)) else (bnd (appI 48 x0.entries [(⟨q5.1, (⟨(-1), (-1), 0⟩ : RLk)⟩ : REn)]) fun u53 => bnd (appI 8 (mget ([] : List Int) x0.table.l q5.2.1) ([(x0.entries.length : Int)] : List Int)) fun u82 => some ((x0.entries.length : Int), true, (⟨0⟩ : Err), (⟨x0.packer, u53, (⟨mput x0.table.l q5.2.1 u82⟩ : MapR 3 Int Int)⟩ : Reg)))))
theorem le_registry_Registry_Add (x0 : Reg) (x1 : List Int) : Le (e_registry_Registry_Add x0 x1) (m_registry_Registry_Add x0 x1) := by
  unfold e_registry_Registry_Add m_registry_Registry_Add
  repeat' (first | apply le_registry_Registry_find | apply Le.ite | apply Le.bnd | apply Le.fin | apply Le.rng | apply Le.rngN | apply Le.lop | exact Le.rf | intro _)
noncomputable def e_registry_Registry_has (x0 : Reg) (x1 : Int) : Option Bool :=
  bnd (if 0 ≤ x1 then (if x1 < (x0.entries.length : Int) then (some true) else (some false)) else (some false) : Option Bool) fun y3 => some y3
theorem le_registry_Registry_has (x0 : Reg) (x1 : Int) : Le (e_registry_Registry_has x0 x1) (m_registry_Registry_has x0 x1) := by
  unfold e_registry_Registry_has m_registry_Registry_has
  repeat' (first | apply Le.ite | apply Le.bnd | apply Le.fin | apply Le.rng | apply Le.rngN | apply Le.lop | exact Le.rf | intro _)
noncomputable def e_registry_Registry_State (x0 : Reg) (x1 : Int) : Option ((List Int) × Err) :=
  bnd (e_registry_Registry_has x0 x1) fun q3 => if q3 = true then bnd (atI x0.entries x1) fun a27 => bnd (e_pack_Packer_Unpack x0.packer a27.words) fun q45 => some (q45.1, (⟨q45.2.n⟩ : Err)) else some (([] : List Int), (⟨1⟩ : Err))
theorem le_registry_Registry_State (x0 : Reg) (x1 : Int) : Le (e_registry_Registry_State x0 x1) (m_registry_Registry_State x0 x1) := by
  unfold e_registry_Registry_State m_registry_Registry_State
  repeat' (first | apply le_pack_Packer_Unpack | apply le_registry_Registry_has | apply Le.ite | apply Le.bnd | apply Le.fin | apply Le.rng | apply Le.rngN | apply Le.lop | exact Le.rf | intro _)
noncomputable def e_registry_Registry_SetLink (x0 : Reg) (x1 : Int) (x2 : Int) (x3 : Int) (x4 : Int) : Option (Err × Reg) :=
  bnd (bnd (e_registry_Registry_has x0 x1) fun q10 => if q10 = true then if x2 ≠ (-1) then (bnd (e_registry_Registry_has x0 x2) fun q20 => if q20 = true then some false else some true) else (some false) else some true : Option Bool) fun y6 => if y6 = true then (some ((⟨1⟩ : Err), x0)) else (bnd (atI x0.entries x1) fun a49 => some ((⟨0⟩ : Err), (⟨x0.packer, (x0.entries.set (x1 : Int).toNat ({ a49 with link := (⟨x2, x3, x4⟩ : RLk) } : REn)), x0.table⟩ : Reg)))
theorem le_registry_Registry_SetLink (x0 : Reg) (x1 : Int) (x2 : Int) (x3 : Int) (x4 : Int) : Le (e_registry_Registry_SetLink x0 x1 x2 x3 x4) (m_registry_Registry_SetLink x0 x1 x2 x3 x4) := by
  unfold e_registry_Registry_SetLink m_registry_Registry_SetLink
  repeat' (first | apply le_registry_Registry_has | apply Le.ite | apply Le.bnd | apply Le.fin | apply Le.rng | apply Le.rngN | apply Le.lop | exact Le.rf | intro _)
noncomputable def e_slices_Reverse_Lint_int (x0 : List Int) : Option (List Int) :=
  bnd (chkI ((x0.length : Int) - 1)) fun n4 => bnd (lopE (ρ := (List Int)) (fun (s9 : (List Int) × Int × Int) => if s9.2.1 < s9.2.2 then (bnd (atI s9.1 s9.2.2) fun a31 => bnd (atI s9.1 s9.2.1) fun a43 => bnd (atI s9.1 s9.2.1) fun a55 => bnd (atI (s9.1.set (s9.2.1 : Int).toNat a31) s9.2.2) fun a69 => bnd (chkI (s9.2.1 + 1)) fun n83 => bnd (chkI (s9.2.2 - 1)) fun n86 => some (.next (((s9.1.set (s9.2.1 : Int).toNat a31).set (s9.2.2 : Int).toNat a43), n83, n86))) else (some (.brk (s9.1, s9.2.1, s9.2.2)))) (x0, 0, n4)) fun res7 => fin res7 fun (s93 : (List Int) × Int × Int) => some s93.1
theorem le_slices_Reverse_Lint_int (x0 : List Int) : Le (e_slices_Reverse_Lint_int x0) (m_slices_Reverse_Lint_int x0) := by
  unfold e_slices_Reverse_Lint_int m_slices_Reverse_Lint_int
  repeat' (first | apply Le.ite | apply Le.bnd | apply Le.fin | apply Le.rng | apply Le.rngN | apply Le.lop | exact Le.rf | intro _)
noncomputable def e_registry_Registry_Path (x0 : Reg) (x1 : Int) : Option ((List Int) × Err) :=
  bnd (e_registry_Registry_has x0 x1) fun q3 => if q3 = true then bnd (lopE (ρ := (List Int) × Err) (fun (s14 : Int × (List Int)) => bnd (atI x0.entries s14.1) fun a48 => if a48.link.parent < 0 then (bnd (e_slices_Reverse_Lint_int s14.2) fun q74 => some (.ret (q74, (⟨0⟩ : Err)))) else (bnd (appI 8 s14.2 [a48.link.op]) fun u89 => if (x0.entries.length : Int) < (u89.length : Int) then (some (.ret (([] : List Int), (⟨21⟩ : Err)))) else (some (.next (a48.link.parent, u89))))) (x1, ([] : List Int))) fun res12 => fin res12 fun (_ : Int × (List Int)) => none else some (([] : List Int), (⟨1⟩ : Err))
theorem le_registry_Registry_Path (x0 : Reg) (x1 : Int) : Le (e_registry_Registry_Path x0 x1) (m_registry_Registry_Path x0 x1) := by
  unfold e_registry_Registry_Path m_registry_Registry_Path
  repeat' (first | apply le_registry_Registry_has | apply le_slices_Reverse_Lint_int | apply Le.ite | apply Le.bnd | apply Le.fin | apply Le.rng | apply Le.rngN | apply Le.lop | exact Le.rf | intro _)
noncomputable def e_succgen_Generator_Successors (x0 : Option Gnr) (x1 : List Int) : Option (List Suc) :=
  bnd (e_succgen_Generator_Applicable x0 x1) fun q7 => bnd (rng (ρ := (List Suc)) (fun (k23 : Nat) (a24 : Int) (s21 : (List Suc)) => bnd (e_slices_Clone_Lint_int x1) fun q46 => bnd (x0) fun o56 => bnd (atI o56.t.ops a24) fun a88 => bnd (rng (ρ := Ctl (List Suc) (List Suc)) (fun (k115 : Nat) (a116 : Eff) (s113 : (List Int)) => bnd (e_task_Holds a116.cond x1) fun q150 => if q150 = true then bnd (atI s113 a116.var) fun a157 => some (.next (s113.set (a116.var : Int).toNat a116.val)) else some (.next s113)) a88.effs 0 q46) fun res111 => fin res111 fun (s175 : (List Int)) => bnd (appI 32 s21 [(⟨a24, s175⟩ : Suc)]) fun u179 => some (.next u179)) q7 0 ([] : List Suc)) fun res19 => fin res19 fun (s195 : (List Suc)) => some s195
theorem le_succgen_Generator_Successors (x0 : Option Gnr) (x1 : List Int) : Le (e_succgen_Generator_Successors x0 x1) (m_succgen_Generator_Successors x0 x1) := by
  unfold e_succgen_Generator_Successors m_succgen_Generator_Successors
  repeat' (first | apply le_slices_Clone_Lint_int | apply le_succgen_Generator_Applicable | apply le_task_Holds | apply Le.ite | apply Le.bnd | apply Le.fin | apply Le.rng | apply Le.rngN | apply Le.lop | exact Le.rf | intro _)
noncomputable def e_breadth_begin (x0 : Tsk) : Option ((Option Spc) × Err) :=
  bnd (e_succgen_New x0) fun q24 => if q24.2.n ≠ 0 then (some (none, (⟨q24.2.n⟩ : Err))) else (bnd (e_registry_New x0.vars) fun q39 => if q39.2.n ≠ 0 then (some (none, (⟨q39.2.n⟩ : Err))) else (bnd q39.1 fun o52 => bnd (e_registry_Registry_Add o52 x0.init) fun q55 => if q55.2.2.1.n ≠ 0 then (some (none, (⟨q55.2.2.1.n⟩ : Err))) else (some ((some (⟨(⟨x0.vars, x0.init, x0.goal, x0.ops⟩ : Tsk), q55.2.2.2, q24.1⟩ : Spc)), (⟨0⟩ : Err)))))
theorem le_breadth_begin (x0 : Tsk) : Le (e_breadth_begin x0) (m_breadth_begin x0) := by
  unfold e_breadth_begin m_breadth_begin
  repeat' (first | apply le_registry_New | apply le_registry_Registry_Add | apply le_succgen_New | apply Le.ite | apply Le.bnd | apply Le.fin | apply Le.rng | apply Le.rngN | apply Le.lop | exact Le.rf | intro _)
noncomputable def e_breadth_space_solved (x0 : Spc) (x1 : Int) (x2 : Int) : Option (Rsl × Err) :=
  bnd (e_registry_Registry_Path x0.reg x1) fun q36 => if q36.2.n ≠ 0 then (some ((⟨0, ([] : List Int), 0, 0⟩ : Rsl), (⟨q36.2.n⟩ : Err))) else (bnd (rng (ρ := Rsl × Err) (fun (k77 : Nat) (a78 : Int) (s75 : Int) => bnd (atI x0.t.ops a78) fun a125 => bnd (chkI (s75 + a125.cost)) fun n146 => some (.next n146)) q36.1 0 0) fun res73 => fin res73 fun (s160 : Int) => some ((⟨1, q36.1, s160, x2⟩ : Rsl), (⟨0⟩ : Err)))
theorem le_breadth_space_solved (x0 : Spc) (x1 : Int) (x2 : Int) : Le (e_breadth_space_solved x0 x1 x2) (m_breadth_space_solved x0 x1 x2) := by
  unfold e_breadth_space_solved m_breadth_space_solved
  repeat' (first | apply le_registry_Registry_Path | apply Le.ite | apply Le.bnd | apply Le.fin | apply Le.rng | apply Le.rngN | apply Le.lop | exact Le.rf | intro _)
noncomputable def e_breadth_failed (x0 : Int) (x1 : Int) : Option (Rsl × Err) :=
  some ((⟨x0, ([] : List Int), 0, x1⟩ : Rsl), (⟨0⟩ : Err))
theorem le_breadth_failed (x0 : Int) (x1 : Int) : Le (e_breadth_failed x0 x1) (m_breadth_failed x0 x1) := by
  unfold e_breadth_failed m_breadth_failed
  repeat' (first | apply Le.ite | apply Le.bnd | apply Le.fin | apply Le.rng | apply Le.rngN | apply Le.lop | exact Le.rf | intro _)
noncomputable def e_breadth_Uniform (x0 : Tsk) (x1 : Int) : Option (Rsl × Err) :=
  bnd (e_breadth_begin x0) fun q30 => if q30.2.n ≠ 0 then (some ((⟨0, ([] : List Int), 0, 0⟩ : Rsl), (⟨q30.2.n⟩ : Err))) else (bnd q30.1 fun o68 => bnd (lopE (ρ := Rsl × Err) (fun (s78 : (List Int) × (List Bool) × Int × Int × Spc × (BxR 77 75 Itm)) => bnd (e_breadth_queue_Len s78.2.2.2.2.2.l) fun q116 => if 0 < q116 then (bnd (e_container_heap_Pop s78.2.2.2.2.2) fun q130 => bnd (atI s78.2.1 q130.1.x.id) fun a152 => if a152 = true then (some (.next (s78.1, s78.2.1, s78.2.2.1, s78.2.2.2.1, s78.2.2.2.2.1, q130.2))) else (bnd (e_registry_Registry_State s78.2.2.2.2.1.reg q130.1.x.id) fun q191 => if q191.2.n ≠ 0 then (some (.ret ((⟨0, ([] : List Int), 0, 0⟩ : Rsl), (⟨q191.2.n⟩ : Err)))) else (bnd (e_task_Holds x0.goal q191.1) fun q209 => if q209 = true then bnd (e_breadth_space_solved s78.2.2.2.2.1 q130.1.x.id s78.2.2.2.1) fun q581 => some (.ret (q581.1, (⟨q581.2.n⟩ : Err))) else if x1 ≤ s78.2.2.2.1 then (bnd (e_breadth_failed 3 s78.2.2.2.1) fun q217 => some (.ret (q217.1, (⟨q217.2.n⟩ : Err)))) else (bnd (atI s78.2.1 q130.1.x.id) fun a239 => bnd (chkI (s78.2.2.2.1 + 1)) fun n252 => bnd (e_succgen_Generator_Successors s78.2.2.2.2.1.gen q191.1) fun q255 => bnd (rng (ρ := Ctl ((List Int) × (List Bool) × Int × Int × Spc × (BxR 77 75 Itm)) (Rsl × Err)) (fun (k275 : Nat) (a276 : Suc) (s273 : (List Int) × (List Bool) × Int × Spc × (BxR 77 75 Itm)) => bnd (e_registry_Registry_Add s273.2.2.2.1.reg a276.state) fun q346 => if q346.2.2.1.n ≠ 0 then (bnd (e_breadth_failed 3 n252) fun q363 => some (.ret (.ret (q363.1, (⟨q363.2.n⟩ : Err))))) else (bnd (atI x0.ops a276.op) fun a385 => bnd (chkI (q130.1.x.cost + a385.cost)) fun n406 => bnd (if q346.2.1 = true then (bnd (appI 8 s273.1 [n406]) fun u418 => bnd (appI 1 s273.2.1 [false]) fun u430 => some (.done (u418, u430))) else (bnd (bnd (atI s273.2.1 q346.1) fun a451 => if a451 = true then (some true) else (bnd (atI s273.1 q346.1) fun a468 => if a468 ≤ n406 then (some true) else (some false)) : Option Bool) fun y447 => if y447 = true then (some (.ret (.next (s273.1, s273.2.1, s273.2.2.1, (⟨(⟨s273.2.2.2.1.t.vars, s273.2.2.2.1.t.init, s273.2.2.2.1.t.goal, s273.2.2.2.1.t.ops⟩ : Tsk), q346.2.2.2, s273.2.2.2.1.gen⟩ : Spc), s273.2.2.2.2)))) else (some (.done (s273.1, s273.2.1)))) : Option (Fin ((List Int) × (List Bool)) (Ctl ((List Int) × (List Bool) × Int × Spc × (BxR 77 75 Itm)) (Ctl ((List Int) × (List Bool) × Int × Int × Spc × (BxR 77 75 Itm)) (Rsl × Err))))) fun y409 => fin y409 fun (s411 : (List Int) × (List Bool)) => bnd (atI s411.1 q346.1) fun a500 => bnd (e_registry_Registry_SetLink ((⟨(⟨s273.2.2.2.1.t.vars, s273.2.2.2.1.t.init, s273.2.2.2.1.t.goal, s273.2.2.2.1.t.ops⟩ : Tsk), q346.2.2.2, s273.2.2.2.1.gen⟩ : Spc).reg) q346.1 q130.1.x.id a276.op n406) fun q541 => if q541.1.n ≠ 0 then (some (.ret (.ret ((⟨0, ([] : List Int), 0, 0⟩ : Rsl), (⟨q541.1.n⟩ : Err))))) else (bnd (e_container_heap_Push s273.2.2.2.2 (⟨(⟨n406, s273.2.2.1, q346.1⟩ : Itm)⟩ : An 75 Itm)) fun q554 => bnd (chkI (s273.2.2.1 + 1)) fun n562 => some (.next ((s411.1.set (q346.1 : Int).toNat n406), s411.2, n562, (⟨(⟨(⟨(⟨s273.2.2.2.1.t.vars, s273.2.2.2.1.t.init, s273.2.2.2.1.t.goal, s273.2.2.2.1.t.ops⟩ : Tsk), q346.2.2.2, s273.2.2.2.1.gen⟩ : Spc).t.vars, (⟨(⟨s273.2.2.2.1.t.vars, s273.2.2.2.1.t.init, s273.2.2.2.1.t.goal, s273.2.2.2.1.t.ops⟩ : Tsk), q346.2.2.2, s273.2.2.2.1.gen⟩ : Spc).t.init, (⟨(⟨s273.2.2.2.1.t.vars, s273.2.2.2.1.t.init, s273.2.2.2.1.t.goal, s273.2.2.2.1.t.ops⟩ : Tsk), q346.2.2.2, s273.2.2.2.1.gen⟩ : Spc).t.goal, (⟨(⟨s273.2.2.2.1.t.vars, s273.2.2.2.1.t.init, s273.2.2.2.1.t.goal, s273.2.2.2.1.t.ops⟩ : Tsk), q346.2.2.2, s273.2.2.2.1.gen⟩ : Spc).t.ops⟩ : Tsk), q541.2, (⟨(⟨s273.2.2.2.1.t.vars, s273.2.2.2.1.t.init, s273.2.2.2.1.t.goal, s273.2.2.2.1.t.ops⟩ : Tsk), q346.2.2.2, s273.2.2.2.1.gen⟩ : Spc).gen⟩ : Spc), q554))))) q255 0 (s78.1, (s78.2.1.set (q130.1.x.id : Int).toNat true), s78.2.2.1, s78.2.2.2.2.1, q130.2)) fun res271 => fin res271 fun (s574 : (List Int) × (List Bool) × Int × Spc × (BxR 77 75 Itm)) => some (.next (s574.1, s574.2.1, s574.2.2.1, n252, s574.2.2.2.1, s574.2.2.2.2)))))) else (some (.brk (s78.1, s78.2.1, s78.2.2.1, s78.2.2.2.1, s78.2.2.2.2.1, s78.2.2.2.2.2)))) (([0] : List Int), [false], 1, 0, o68, (⟨[(⟨0, 0, 0⟩ : Itm)]⟩ : BxR 77 75 Itm))) fun res76 => fin res76 fun (s613 : (List Int) × (List Bool) × Int × Int × Spc × (BxR 77 75 Itm)) => bnd (e_breadth_failed 2 s613.2.2.2.1) fun q615 => some (q615.1, (⟨q615.2.n⟩ : Err)))
theorem le_breadth_Uniform (x0 : Tsk) (x1 : Int) : Le (e_breadth_Uniform x0 x1) (m_breadth_Uniform x0 x1) := by
  unfold e_breadth_Uniform m_breadth_Uniform
  repeat' (first | apply le_breadth_begin | apply le_breadth_failed | apply le_breadth_queue_Len | apply le_breadth_space_solved | apply le_container_heap_Pop | apply le_container_heap_Push | apply le_registry_Registry_Add | apply le_registry_Registry_SetLink | apply le_registry_Registry_State | apply le_succgen_Generator_Successors | apply le_task_Holds | apply Le.ite | apply Le.bnd | apply Le.fin | apply Le.rng | apply Le.rngN | apply Le.lop | exact Le.rf | intro _)
def e_slices_Clone_Lapi_Fact_api_Fact (x : List Fct) : Option (List Fct) := m_slices_Clone_Lapi_Fact_api_Fact x
theorem le_slices_Clone_Lapi_Fact_api_Fact (x : List Fct) : Le (e_slices_Clone_Lapi_Fact_api_Fact x) (m_slices_Clone_Lapi_Fact_api_Fact x) := Le.rf
def e_slices_Clone_Lapi_Effect_api_Effect (x : List Eff) : Option (List Eff) := m_slices_Clone_Lapi_Effect_api_Effect x
theorem le_slices_Clone_Lapi_Effect_api_Effect (x : List Eff) : Le (e_slices_Clone_Lapi_Effect_api_Effect x) (m_slices_Clone_Lapi_Effect_api_Effect x) := Le.rf
noncomputable def e_repair_Distance (x0 : List ByteArray) (x1 : List ByteArray) : Option Int :=
  bnd (chkI ((x1.length : Int) + 1)) fun n9 => bnd (mkI 8 (0 : Int) n9) fun u12 => bnd (rngN (ρ := Int) (fun (k31 : Nat) (s29 : (List Int)) => bnd (s29[k31]?) fun a50 => some (.next (s29.set k31 (k31 : Int)))) u12.length u12) fun res27 => fin res27 fun (s66 : (List Int)) => bnd (rng (ρ := Int) (fun (k74 : Nat) (a75 : ByteArray) (s72 : (List Int)) => bnd (chkI ((x1.length : Int) + 1)) fun n99 => bnd (mkI 8 (0 : Int) n99) fun u102 => bnd (chkI ((k74 : Int) + 1)) fun n115 => bnd (atI u102 0) fun a118 => bnd (rng (ρ := Ctl (List Int) Int) (fun (k138 : Nat) (a139 : ByteArray) (s136 : (List Int)) => bnd (chkI ((k138 : Int) + 1)) fun n161 => bnd (s136[k138]?) fun a164 => bnd (chkI ((k138 : Int) + 1)) fun n174 => bnd (atI s72 n174) fun a177 => bnd (chkI ((min a164 a177) + 1)) fun n189 => bnd (atI s136 n161) fun a192 => if a75 = a139 then (bnd (chkI ((k138 : Int) + 1)) fun n207 => bnd (chkI ((k138 : Int) + 1)) fun n210 => bnd (atI (s136.set (n161 : Int).toNat n189) n210) fun a213 => bnd (s72[k138]?) fun a225 => bnd (atI (s136.set (n161 : Int).toNat n189) n207) fun a235 => some (.next ((s136.set (n161 : Int).toNat n189).set (n207 : Int).toNat (min a213 a225)))) else (some (.next (s136.set (n161 : Int).toNat n189)))) x1 0 (u102.set (0 : Int).toNat n115)) fun res134 => fin res134 fun (s253 : (List Int)) => some (.next s253)) x0 0 s66) fun res70 => fin res70 fun (s261 : (List Int)) => bnd (s261[x1.length]?) fun a265 => some a265
theorem le_repair_Distance (x0 : List ByteArray) (x1 : List ByteArray) : Le (e_repair_Distance x0 x1) (m_repair_Distance x0 x1) := by
  unfold e_repair_Distance m_repair_Distance
  repeat' (first | apply Le.ite | apply Le.bnd | apply Le.fin | apply Le.rng | apply Le.rngN | apply Le.lop | exact Le.rf | intro _)
noncomputable def e_repair_kept (x0 : Opr) (x1 : Int) (x2 : Int) : Option Opr :=
  bnd (e_slices_Clone_Lapi_Fact_api_Fact x0.pre) fun q25 => bnd (appI 16 q25 [(⟨x1, x2⟩ : Fct)]) fun u35 => bnd (e_slices_Clone_Lapi_Effect_api_Effect x0.effs) fun q49 => bnd (chkI (x2 + 1)) fun n59 => bnd (appI 40 q49 [(⟨([] : List Fct), x1, n59⟩ : Eff)]) fun u62 => some (⟨x0.name, x0.cost, u35, u62⟩ : Opr)
theorem le_repair_kept (x0 : Opr) (x1 : Int) (x2 : Int) : Le (e_repair_kept x0 x1 x2) (m_repair_kept x0 x1 x2) := by
  unfold e_repair_kept m_repair_kept
  repeat' (first | apply le_slices_Clone_Lapi_Effect_api_Effect | apply le_slices_Clone_Lapi_Fact_api_Fact | apply Le.ite | apply Le.bnd | apply Le.fin | apply Le.rng | apply Le.rngN | apply Le.lop | exact Le.rf | intro _)
noncomputable def e_repair_conditions (x0 : List Eff) : Option (List Eff) :=
  bnd (rngN (ρ := (List Eff)) (fun (k8 : Nat) (s6 : (List Eff)) => bnd (s6[k8]?) fun a27 => bnd (e_slices_Clone_Lapi_Fact_api_Fact a27.cond) fun q42 => bnd (s6[k8]?) fun a52 => some (.next (s6.set k8 ({ a52 with cond := q42 } : Eff)))) x0.length x0) fun res4 => fin res4 fun (s81 : (List Eff)) => some s81
theorem le_repair_conditions (x0 : List Eff) : Le (e_repair_conditions x0) (m_repair_conditions x0) := by
  unfold e_repair_conditions m_repair_conditions
  repeat' (first | apply le_slices_Clone_Lapi_Fact_api_Fact | apply Le.ite | apply Le.bnd | apply Le.fin | apply Le.rng | apply Le.rngN | apply Le.lop | exact Le.rf | intro _)
noncomputable def e_repair_compile (x0 : Tsk) (x1 : List ByteArray) (x2 : Int) : Option (Tsk × (List Prt) × Err) :=
  bnd (e_task_Check x0) fun q33 => if q33.n ≠ 0 then (some ((⟨([] : List Int), ([] : List Int), ([] : List Fct), ([] : List Opr)⟩ : Tsk), ([] : List Prt), (⟨q33.n⟩ : Err))) else (bnd (if x2 < 0 then (some true) else (if 1000 < x2 then (some true) else (some false)) : Option Bool) fun y44 => if y44 = true then (some ((⟨([] : List Int), ([] : List Int), ([] : List Fct), ([] : List Opr)⟩ : Tsk), ([] : List Prt), (⟨1⟩ : Err))) else (if 63 < (x1.length : Int) then (some ((⟨([] : List Int), ([] : List Int), ([] : List Fct), ([] : List Opr)⟩ : Tsk), ([] : List Prt), (⟨5⟩ : Err))) else (bnd (chkI ((x1.length : Int) + 1)) fun n64 => bnd (e_slices_Clone_Lint_int x0.vars) fun q66 => bnd (appI 8 q66 ([n64] : List Int)) fun u68 => bnd (e_slices_Clone_Lint_int x0.init) fun q70 => bnd (appI 8 q70 ([0] : List Int)) fun u72 => bnd (e_slices_Clone_Lapi_Fact_api_Fact x0.goal) fun q74 => bnd (appI 16 q74 ([(⟨(x0.vars.length : Int), (x1.length : Int)⟩ : Fct)] : List Fct)) fun u76 => bnd (some (u68, u72, u76) : Option ((List Int) × (List Int) × (List Fct))) fun y78 => bnd (rng (ρ := Tsk × (List Prt) × Err) (fun (k214 : Nat) (a215 : Opr) (s212 : (List Prt) × (List Opr)) => bnd (chkI (a215.cost + x2)) fun n257 => bnd (e_slices_Clone_Lapi_Fact_api_Fact a215.pre) fun q262 => bnd (e_slices_Clone_Lapi_Effect_api_Effect a215.effs) fun q272 => bnd (appI 72 s212.2 [(⟨a215.name, n257, q262, q272⟩ : Opr)]) fun u288 => bnd (appI 8 s212.1 [(⟨(k214 : Int)⟩ : Prt)]) fun u300 => some (.next (u300, u288))) x0.ops 0 (([] : List Prt), ([] : List Opr))) fun res210 => fin res210 fun (s318 : (List Prt) × (List Opr)) => bnd (rng (ρ := Tsk × (List Prt) × Err) (fun (k326 : Nat) (a327 : ByteArray) (s324 : (List Prt) × (List Opr)) => bnd (rng (ρ := Ctl ((List Prt) × (List Opr)) (Tsk × (List Prt) × Err)) (fun (k359 : Nat) (a360 : Opr) (s357 : (List Prt) × (List Opr)) => if a360.name = a327 then (bnd (e_repair_kept a360 (x0.vars.length : Int) (k326 : Int)) fun q403 => bnd (appI 72 s357.2 [q403]) fun u405 => bnd (appI 8 s357.1 [(⟨(k359 : Int)⟩ : Prt)]) fun u407 => some (.next (u407, u405))) else (some (.next (s357.1, s357.2)))) x0.ops 0 (s324.1, s324.2)) fun res355 => fin res355 fun (s563 : (List Prt) × (List Opr)) => bnd (e_repair_kept (⟨(⟨#[]⟩ : ByteArray), x2, ([] : List Fct), ([] : List Eff)⟩ : Opr) (x0.vars.length : Int) (k326 : Int)) fun q565 => bnd (appI 72 s563.2 [q565]) fun u587 => bnd (appI 8 s563.1 [(⟨(-1)⟩ : Prt)]) fun u600 => if 4096 < (u587.length : Int) then (some (.brk (u600, u587))) else (some (.next (u600, u587)))) x1 0 (s318.1, s318.2)) fun res322 => fin res322 fun (s619 : (List Prt) × (List Opr)) => bnd (rngN (ρ := Tsk × (List Prt) × Err) (fun (k627 : Nat) (s625 : (List Opr)) => bnd (s625[k627]?) fun a646 => bnd (e_repair_conditions a646.effs) fun q663 => bnd (s625[k627]?) fun a671 => some (.next (s625.set k627 ({ a671 with effs := q663 } : Opr)))) s619.2.length s619.2) fun res623 => fin res623 fun (s688 : (List Opr)) => bnd (e_task_Check (⟨y78.1, y78.2.1, y78.2.2, s688⟩ : Tsk)) fun q698 => if q698.n ≠ 0 then (some ((⟨([] : List Int), ([] : List Int), ([] : List Fct), ([] : List Opr)⟩ : Tsk), ([] : List Prt), (⟨q698.n⟩ : Err))) else (some ((⟨y78.1, y78.2.1, y78.2.2, s688⟩ : Tsk), s619.1, (⟨0⟩ : Err))))))
theorem le_repair_compile (x0 : Tsk) (x1 : List ByteArray) (x2 : Int) : Le (e_repair_compile x0 x1 x2) (m_repair_compile x0 x1 x2) := by
  unfold e_repair_compile m_repair_compile
  repeat' (first | apply le_repair_conditions | apply le_repair_kept | apply le_slices_Clone_Lapi_Effect_api_Effect | apply le_slices_Clone_Lapi_Fact_api_Fact | apply le_slices_Clone_Lint_int | apply le_task_Check | apply Le.ite | apply Le.bnd | apply Le.fin | apply Le.rng | apply Le.rngN | apply Le.lop | exact Le.rf | intro _)
noncomputable def e_repair_Repair (x0 : Tsk) (x1 : List ByteArray) (x2 : Int) (x3 : Int) : Option (Rsl × Int × Err) :=
  bnd (e_repair_compile x0 x1 x2) fun q34 => if q34.2.2.n ≠ 0 then (some ((⟨0, ([] : List Int), 0, 0⟩ : Rsl), 0, (⟨q34.2.2.n⟩ : Err))) else (bnd (e_breadth_Uniform q34.1 x3) fun q77 => if q77.2.n ≠ 0 then (some ((⟨0, ([] : List Int), 0, 0⟩ : Rsl), 0, (⟨q77.2.n⟩ : Err))) else (if q77.1.verdict ≠ 1 then (some (q77.1, 0, (⟨0⟩ : Err))) else (bnd (rng (ρ := Rsl × Int × Err) (fun (k116 : Nat) (a117 : Int) (s114 : (List Int) × (List ByteArray)) => bnd (atI q34.2.1 a117) fun a143 => if 0 ≤ a143.op then (bnd (atI x0.ops a143.op) fun a156 => bnd (appI 8 s114.1 ([a143.op] : List Int)) fun u158 => bnd (appI 16 s114.2 [a156.name]) fun u160 => some (.next (u158, u160))) else (some (.next (s114.1, s114.2)))) q77.1.plan 0 (([] : List Int), ([] : List ByteArray))) fun res112 => fin res112 fun (s269 : (List Int) × (List ByteArray)) => bnd (e_repair_Distance s269.2 x1) fun q273 => some ((⟨q77.1.verdict, s269.1, q77.1.cost, q77.1.expanded⟩ : Rsl), q273, (⟨0⟩ : Err)))))
theorem le_repair_Repair (x0 : Tsk) (x1 : List ByteArray) (x2 : Int) (x3 : Int) : Le (e_repair_Repair x0 x1 x2 x3) (m_repair_Repair x0 x1 x2 x3) := by
  unfold e_repair_Repair m_repair_Repair
  repeat' (first | apply le_breadth_Uniform | apply le_repair_Distance | apply le_repair_compile | apply Le.ite | apply Le.bnd | apply Le.fin | apply Le.rng | apply Le.rngN | apply Le.lop | exact Le.rf | intro _)
noncomputable def e_law60_awake  : Option Bool :=
  bnd (e_repair_Repair (⟨([2] : List Int), ([0] : List Int), [(⟨0, 1⟩ : Fct)], [(⟨(⟨#[97]⟩ : ByteArray), 3, ([] : List Fct), [(⟨([] : List Fct), 0, 1⟩ : Eff)]⟩ : Opr)]⟩ : Tsk) [(⟨#[97]⟩ : ByteArray)] 5 100) fun q56 => bnd (if q56.2.2.n = 0 then (if q56.2.1 = 0 then (if q56.1.verdict = 1 then (if q56.1.cost = 3 then (bnd (e_base_Ints q56.1.plan ([0] : List Int)) fun q100 => if q100 = true then some true else some false) else (some false)) else (some false)) else (some false)) else (some false) : Option Bool) fun y86 => some y86
theorem le_law60_awake  : Le (e_law60_awake ) (m_law60_awake ) := by
  unfold e_law60_awake m_law60_awake
  repeat' (first | apply le_base_Ints | apply le_repair_Repair | apply Le.ite | apply Le.bnd | apply Le.fin | apply Le.rng | apply Le.rngN | apply Le.lop | exact Le.rf | intro _)
set_option maxRecDepth 100000 in
theorem awake60 : m_law60_awake = some true := le_law60_awake true (by kernel_rfl)
end
section
open Go Go.RowKit
theorem rmetric_eq {a b c : List ByteArray} (ha : a.length ≤ 8796093022208) (hb : b.length ≤ 8796093022208) (hc : c.length ≤ 8796093022208) : m_law60_RepairMetric a b c = some true := by
  unfold m_law60_RepairMetric
  obtain ⟨p, hp⟩ := long_some a
  obtain ⟨q, hq⟩ := long_some b
  obtain ⟨r, hr⟩ := long_some c
  have e2 := dst_eq hb ha
  rw [ed_symm] at e2
  have z : ed a.reverse b.reverse = 0 ↔ a = b := (ed_zero _ _).trans List.reverse_inj
  have t := ed_tri a.reverse c.reverse b.reverse
  have b1 := (ed_is a.reverse b.reverse).bound
  have b2 := (ed_is a.reverse c.reverse).bound
  have b3 := (ed_is c.reverse b.reverse).bound
  simp only [List.length_reverse] at b1 b2 b3
  rw [hp, hq, hr, awake60, dst_eq ha hb, e2, dst_eq ha hc, dst_eq hc hb, texts_eq]
  generalize ed a.reverse b.reverse = d at *
  generalize ed a.reverse c.reverse = e at *
  generalize ed c.reverse b.reverse = f at *
  have main : ((bnd (some (d : Int)) fun q62 => bnd (bnd (some (d : Int)) fun q74 => if q62 ≠ q74 then (some true) else (if q62 = 0 then (bnd (some (decide (a = b))) fun q84 => if q84 = true then bnd (some (e : Int)) fun q91 => bnd (some (f : Int)) fun q99 => bnd (chkI (q91 + q99)) fun n107 => if n107 < q62 then (some true) else (some false) else some true) else (bnd (some (decide (a = b))) fun q111 => if q111 = true then some true else bnd (some (e : Int)) fun q118 => bnd (some (f : Int)) fun q126 => bnd (chkI (q118 + q126)) fun n134 => if n134 < q62 then (some true) else (some false))) : Option Bool) fun y70 => if y70 = true then (some false) else (bnd (bnd (chkI ((a.length : Int) + (b.length : Int))) fun n151 => if q62 ≤ n151 then (bnd (chkI ((max (a.length : Int) (b.length : Int)) - (min (a.length : Int) (b.length : Int)))) fun n163 => if n163 ≤ q62 then (bnd (chkI ((a.length : Int) + (b.length : Int))) fun n171 => bnd (chkI (n171 - q62)) fun n174 => bnd (remI n174 2) fun n177 => if n177 = 0 then (some true) else (some false)) else (some false)) else (some false) : Option Bool) fun y143 => some y143)) : Option Bool) = some true := by
    have hc1 : chkI ((e : Int) + f) = some ((e : Int) + f) := chkI_eq (by unfold inI64; omega)
    simp only [bnd_some, hc1]
    rw [if_neg (by simp)]
    have hyes : (if (d : Int) = 0 then (if decide (a = b) = true then (if (e : Int) + f < (d : Int) then (some true) else (some false)) else some true) else (if decide (a = b) = true then some true else (if (e : Int) + f < (d : Int) then (some true) else (some false))) : Option Bool) = some false := by
      by_cases hd : d = 0
      · rw [if_pos (by omega), if_pos (by simpa using z.1 hd), if_neg (by omega)]
      · rw [if_neg (by omega), if_neg (by simpa using fun h => hd (z.2 h)), if_neg (by omega)]
    have hc2 : chkI ((a.length : Int) + b.length) = some ((a.length : Int) + b.length) := chkI_eq (by unfold inI64; omega)
    have hc3 : chkI (max (a.length : Int) b.length - min (a.length : Int) b.length) = some (max (a.length : Int) b.length - min (a.length : Int) b.length) := chkI_eq (by unfold inI64; omega)
    have hc4 : chkI ((a.length : Int) + b.length - d) = some ((a.length : Int) + b.length - d) := chkI_eq (by unfold inI64; omega)
    have hd1 : (d : Int) ≤ (a.length : Int) + b.length := by omega
    have hd2 : max (a.length : Int) b.length - min (a.length : Int) b.length ≤ (d : Int) := by omega
    have hm : remI ((a.length : Int) + b.length - d) 2 = some 0 := by
      have h4 := b1.2.2.2
      have h5 : ((a.length : Int) + b.length - d) % 2 = 0 := by omega
      exact (remI_eq (by omega) (by decide)).trans (congrArg some h5)
    rw [hyes, hc2, hc3]
    simp only [bnd_some, hc4, hm]
    rw [if_f, if_pos hd1, if_pos hd2]
    rfl
  cases p <;> cases q <;> cases r <;> first | rfl | exact main
end
section
open Go Go.RowKit Go.ChangeShapes Go.WideShapes Go.Deep
theorem reach16 {n : Nat} (h : n * 16 ≤ reachBytes) : n ≤ 8796093022208 := by unfold reachBytes at h; omega
theorem lawRMetric {w : World} {v0 : Value} {a0 : List ByteArray} (h0 : V w v0 a0) {v1 : Value} {a1 : List ByteArray} (h1 : V w v1 a1) {v2 : Value} {a2 : List ByteArray} (h2 : V w v2 a2) (z0 : a0.length * 16 ≤ reachBytes) (z1 : a1.length * 16 ≤ reachBytes) (z2 : a2.length * 16 ≤ reachBytes) : Fn Try.prog 4 [v0, v1, v2] w fun v w' => v = .bool true ∧ Ext w w' :=
  (c_law60_RepairMetric (fun _ h => h) h0 h1 h2 (rmetric_eq (reach16 z0) (reach16 z1) (reach16 z2))).mono fun _ _ h => ⟨h.2.bool, h.1⟩
set_option maxRecDepth 100000 in
theorem repairMetric_lifted (os : Os) (started : os.Started) (H : Type) (enc : TypeId × Value → H) :
    ReturnsInHanded {} Try.checked os 4 .any (Rows.repairMetricSpec.pre6 enc Try.prog Try.f4 Rows.repairMetricRow.domain false) (Rows.repairMetricSpec.post enc Try.prog Try.f4 false true false false) := by
  refine returnsInHanded_of_change_sized (C := Try.checked) ownTry started (by kernel_rfl) Try.func4 (ChangeSpec.witness6 (enc := enc) (C := Try.checked) false ⟨#[], #[.slice none 0 0, .slice none 0 0, .slice none 0 0], []⟩ 8 (by kernel_rfl) (by kernel_rfl) (by kernel_rfl) (by kernel_rfl)) ?_
  intro W base args ds gs before hval hW _ hz _
  have hopen : ∀ p, DataW.TrodAll enc Try.prog W 0 (fun _ => true) true Try.f4.params.toList args.toList ds p → ∃ v0 v1 v2 d0 d1 d2, args = #[v0, v1, v2] ∧ ds = [d0, d1, d2] ∧ (∃ a : List ByteArray, V W v0 a ∧ a.length * 16 ≤ reachBytes) ∧ (∃ a : List ByteArray, V W v1 a ∧ a.length * 16 ≤ reachBytes) ∧ (∃ a : List ByteArray, V W v2 a ∧ a.length * 16 ≤ reachBytes) := by
    intro p hA
    rw [Try.params4] at hA
    replace hval : ∀ (j : Nat) t v, (#[22, 22, 22] : Array TypeId)[j]? = some t → args[j]? = some v → Value.okWide Try.prog W .any base t v := by rw [← Try.params4]; exact hval
    obtain ⟨v0, vs0, d0, ds0, p0, q0, g0, e0, _, h0, r0⟩ := trodAll_cons hA
    obtain ⟨v1, vs1, d1, ds1, p1, q1, g1, e1, _, h1, r1⟩ := trodAll_cons r0
    obtain ⟨v2, vs2, d2, ds2, p2, q2, g2, e2, _, h2, r2⟩ := trodAll_cons r1
    obtain ⟨g, e, _⟩ := trodAll_nil r2
    rw [g] at g2; rw [e] at e2
    rw [g2] at g1; rw [e2] at e1
    rw [g1] at g0; rw [e1] at e0
    obtain rfl : args = #[v0, v1, v2] := by cases args; simp_all
    exact ⟨v0, v1, v2, d0, d1, d2, rfl, e0, (lenOpen (openOne rfl (hval 0 22 v0 rfl rfl) h0) Try.underlying22 h0 hz (j := 0) (by rw [Try.params4]; rfl) (by rw [e0]; rfl) (by kernel_rfl : Try.prog.bytesOf 9 = 16)), (lenOpen (openOne rfl (hval 1 22 v1 rfl rfl) h1) Try.underlying22 h1 hz (j := 1) (by rw [Try.params4]; rfl) (by rw [e0]; rfl) (by kernel_rfl : Try.prog.bytesOf 9 = 16)), (lenOpen (openOne rfl (hval 2 22 v2 rfl rfl) h2) Try.underlying22 h2 hz (j := 2) (by rw [Try.params4]; rfl) (by rw [e0]; rfl) (by kernel_rfl : Try.prog.bytesOf 9 = 16))⟩
  refine lawPost rfl (by kernel_rfl) (by rw [Try.params4]; exact of_decide_eq_true (by kernel_rfl)) hW ?_ ?_
  · intro p hA
    obtain ⟨v0, v1, v2, d0, d1, d2, _, rfl, _⟩ := hopen p hA
    rfl
  · intro p hA
    obtain ⟨v0, v1, v2, d0, d1, d2, rfl, _, ⟨a0, h0, z0⟩, ⟨a1, h1, z1⟩, ⟨a2, h2, z2⟩⟩ := hopen p hA
    exact lawRMetric h0 h1 h2 z0 z1 z2
theorem repairMetric_holds : Rows.RepairMetricSaid :=
  OpenClaim.holds_of_wide 4 Try.f4 rfl rfl rfl rfl rfl rfl rfl ⟨rfl, rfl, rfl, rfl, rfl⟩ rfl rfl rfl rfl rfl (by kernel_rfl) Try.func4 (by kernel_rfl)
    (of_decide_eq_true (by kernel_rfl)) (by unfold Func.isWrapper; first | (rw [if_pos (by decide +kernel)]; kernel_rfl) | (rw [if_neg (by decide +kernel)]; exact ⟨rfl, rfl⟩))
    (fun os started H enc _ => repairMetric_lifted os started H enc)
#print axioms repairMetric_holds
end
end Go.Proofs.Ytafdmfhdjfkooaa

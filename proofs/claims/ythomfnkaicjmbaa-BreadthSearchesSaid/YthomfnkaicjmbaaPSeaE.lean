/- Own text: what the proof of breadthSearches_holds uses, part 5: rules, models and their proofs, plain laws. -/
import Derived.Test.YthomfnkaicjmbaaPSeaD
namespace Go.Proofs.Ythomfnkaicjmbaa
open Go Go.RowKit
section
open Go Go.RowKit
attribute [local irreducible] ewp owp hwp hwq hws Ev Evg Fn retPost loud loudS Res1
attribute [local irreducible] hwx loudX
structure Spc where
  t : Tsk
  reg : Reg
  gen : Option Gnr
instance : Ow Spc where
  R w F M v x := ∃ (g : Nat) (L : Lab) (c0 c1 c2 c3 c4 c5 : Value), v = .pointer (some ⟨g, 0, none⟩) ∧ Blk w g 74 [c0, c1, c2, c3, c4, c5] ∧ M g ∧ L g = 0 ∧ Vb w F c0 x.t.vars ∧ Vb w F c1 x.t.init ∧ Vb w F c2 x.t.goal ∧ Vb w F c3 x.t.ops ∧ Ow.R w F (fun k => M k ∧ L k = 1) c4 x.reg ∧ Vb w F c5 x.gen
  agree := by rintro w w' F M v x ⟨g, L, c0, c1, c2, c3, c4, c5, rfl, hb, hM, hL, h0, h1, h2, h3, h4, h5⟩ a1 a2; exact ⟨g, L, c0, c1, c2, c3, c4, c5, rfl, hb.keep (a2 g hM), hM, hL, h0.agree a1, h1.agree a1, h2.agree a1, h3.agree a1, Ow.agree h4 a1 fun k hk => a2 k hk.1, h5.agree a1⟩
  mono := by rintro w F M F' M' v x ⟨g, L, c0, c1, c2, c3, c4, c5, rfl, hb, hM, hL, h0, h1, h2, h3, h4, h5⟩ a1 a2 a3; exact ⟨g, L, c0, c1, c2, c3, c4, c5, rfl, hb, a2 g hM, hL, h0.mono a1, h1.mono a1, h2.mono a1, h3.mono a1, Ow.mono h4 a1 (fun k hk => ⟨a2 k hk.1, hk.2⟩) fun k hf hm => a3 k hf hm.1, h5.mono a1⟩
instance : OwP Spc := ⟨by rintro w F M v x ⟨g, L, c0, c1, c2, c3, c4, c5, rfl, _⟩; exact ⟨g, rfl⟩⟩
theorem Spc.opn {i : Nat} {w : World} {O : Lab} {p : Nat} {x : Spc} (h : Ob i w O (.pointer (some ⟨p, 0, none⟩)) x) (l0 l1 : Nat) (hl : l0 ≠ 0 ∧ l1 ≠ 0) : ∃ (O' : Lab) (c0 c1 c2 c3 c4 c5 : Value), St (eT i) w O w O' ∧ (∀ k, Fr i w O k → ∃ q, q ∈ [l0, l1] ∧ Fr q w O' k) ∧ Lc l0 w O' p 74 [c0, c1, c2, c3, c4, c5] ∧ Vb w (Fr 0 w O') c0 x.t.vars ∧ Vb w (Fr 0 w O') c1 x.t.init ∧ Vb w (Fr 0 w O') c2 x.t.goal ∧ Vb w (Fr 0 w O') c3 x.t.ops ∧ Ob l1 w O' c4 x.reg ∧ Vb w (Fr 0 w O') c5 x.gen := by
  obtain ⟨⟨g, L, c0, c1, c2, c3, c4, c5, hv, hb, hM, hL, h0, h1, h2, h3, h4, h5⟩, hi⟩ := h
  obtain rfl : p = g := by injection hv with hv; injection hv with hv; injection hv
  exact ⟨part O i L [l0, l1], c0, c1, c2, c3, c4, c5, part_st hi, part_all (by simp), ⟨hb, (part_fr (j := 0) rfl p ⟨hM, hL⟩).2⟩, h0.mono (part_fr0 hi), h1.mono (part_fr0 hi), h2.mono (part_fr0 hi), h3.mono (part_fr0 hi), ⟨Ow.mono h4 (part_fr0 hi) (part_fr (j := 1) rfl) (frNe0 hl.2), hl.2⟩, h5.mono (part_fr0 hi)⟩
theorem Spc.shut {w : World} {O : Lab} {p : Nat} {x : Spc} {l0 l1 : Nat} {c0 c1 c2 c3 c4 c5 : Value} (hd : ¬ 0 ∈ [l0, l1] ∧ [l0, l1].idxOf l0 = 0 ∧ [l0, l1].idxOf l1 = 1) (hb : Lc l0 w O p 74 [c0, c1, c2, c3, c4, c5]) (h0 : Vb w (Fr 0 w O) c0 x.t.vars) (h1 : Vb w (Fr 0 w O) c1 x.t.init) (h2 : Vb w (Fr 0 w O) c2 x.t.goal) (h3 : Vb w (Fr 0 w O) c3 x.t.ops) (h4 : Ob l1 w O c4 x.reg) (h5 : Vb w (Fr 0 w O) c5 x.gen) : ∃ O', St (· ∈ [l0, l1]) w O w O' ∧ (∀ k, Fr 0 w O k → Fr 0 w O' k) ∧ (∀ q, q ∈ [l0, l1] → ∀ k, Fr q w O k → Fr l0 w O' k) ∧ Ob l0 w O' (.pointer (some ⟨p, 0, none⟩)) x := by
  have hb1 : l0 ≠ 0 := fun e => hd.1 (by simp [e])
  have hg := whole_fr (i := l0) hd.2.1 (by simp) p ⟨hb.1.lt, hb.2⟩
  exact ⟨whole O l0 [l0, l1], whole_st, whole_fr0 hd.1, whole_all, ⟨p, fun k => [l0, l1].idxOf (O k), c0, c1, c2, c3, c4, c5, rfl, hb.1, hg.1, hg.2, h0.mono (whole_fr0 hd.1), h1.mono (whole_fr0 hd.1), h2.mono (whole_fr0 hd.1), h3.mono (whole_fr0 hd.1), Ow.mono h4.1 (whole_fr0 hd.1) (whole_fr hd.2.2 (by simp)) (fun k a b => frNe0 hb1 k a b.1), h5.mono (whole_fr0 hd.1)⟩, hb1⟩
noncomputable def m_breadth_begin (x0 : Tsk) : Option ((Option Spc) × Err) :=
  bnd (m_succgen_New x0) fun q24 => if q24.2.n ≠ 0 then (some (none, (⟨q24.2.n⟩ : Err))) else (bnd (m_registry_New x0.vars) fun q39 => if q39.2.n ≠ 0 then (some (none, (⟨q39.2.n⟩ : Err))) else (bnd q39.1 fun o52 => bnd (m_registry_Registry_Add o52 x0.init) fun q55 => if q55.2.2.1.n ≠ 0 then (some (none, (⟨q55.2.2.1.n⟩ : Err))) else (some ((some (⟨(⟨x0.vars, x0.init, x0.goal, x0.ops⟩ : Tsk), q55.2.2.2, q24.1⟩ : Spc)), (⟨0⟩ : Err)))))
theorem c_breadth_begin {w : World} {O : Lab} {vx0 : Value} {x0 : Tsk} (hx0 : Vb w (Fr 0 w O) vx0 x0) (j0 : Nat) (hj0 : j0 ≠ 0) {r : (Option Spc) × Err} (hm : m_breadth_begin x0 = some r) :
    Fn Try.prog 34 [vx0] w fun v w' => ∃ O', St nT w O w' O' ∧ ∃ v0 v1 : Value, v = .tuple #[v0, v1] ∧ Obo j0 w' O' v0 r.1 ∧ Vb w' (Fr 0 w' O') v1 r.2 := by
 obtain ⟨O0, hE, hz0⟩ := ent0 (w := w) (O := O)
 have hB : Bm w O0 w O0 := Bm.refl
 replace hx0 := hx0.mono hz0
 obtain ⟨cs2, rfl, v3, v4, v5, v6, rfl, h7, h10, h13, h16⟩ := hx0
 obtain ⟨A8, c9, rfl⟩ := h7.form
 obtain ⟨A11, c12, rfl⟩ := h10.form
 obtain ⟨A14, c15, rfl⟩ := h13.form
 obtain ⟨A17, c18, rfl⟩ := h16.form
 refine fn_enter Try.func34 rfl Try.ntmps34 rfl ?_
 unfold m_breadth_begin at hm
 refine ewp_seq (ewp_region (l_box 2 O0 rfl rfl fun g19 w20 O21 S22 h23 => ?_))
 replace h23 : Lc 2 w20 O21 g19 26 [(.slice A8 x0.vars.length c9), (.slice A11 x0.init.length c12), (.slice A14 x0.goal.length c15), (.slice A17 x0.ops.length c18)] := h23
 refine o_as rfl rfl (o_as rfl rfl (o_z ?_))
 refine ewp_seq (ewp_region (o_la (hl := rfl) (hc := (h23.1).cellsAt) rfl rfl ?_))
 obtain ⟨q24, e25, hm⟩ := bs hm
 replace h7 := h7.st S22
 replace h10 := h10.st S22
 replace h13 := h13.st S22
 replace h16 := h16.st S22
 refine l_call (O := O21) (R := fun w' F v => T2 w' F v q24) (c_succgen_New Fr.lt (Vb.ofAgg (cs := [(.slice A8 x0.vars.length c9), (.slice A11 x0.init.length c12), (.slice A14 x0.goal.length c15), (.slice A17 x0.ops.length c18)]) (x := x0) rfl ⟨_, _, _, _, rfl, h7, h10, h13, h16⟩) e25) rfl rfl fun v30 w26 O27 S28 h29 => ?_
 obtain ⟨v31, v32, rfl, h33, h34⟩ := h29
 obtain ⟨p35, rfl, hq36⟩ := h33.ptr
 obtain ⟨rfl, r37⟩ := h34.err
 refine o_mv rfl rfl (o_ex rfl rfl rfl (o_ex rfl rfl rfl (o_as rfl rfl (o_as rfl rfl (o_z ?_)))))
 refine ewp_seq (ewp_seq (ewp_region (o_mv rfl rfl (o_rnS rfl rfl (fun c38 => ?_) fun c38 => ?_))))
 ·
  replace hm := ip hm c38
  refine o_z ?_
  refine ewp_true rfl (ewp_seq (ewp_region (o_mv rfl rfl (o_as rfl rfl (o_as rfl rfl (o_z ?_))))))
  refine ewp_ret ?_
  obtain rfl := sm hm
  replace hB := (hB.st S22).st S28
  obtain ⟨O', hS', hz, hl⟩ := hE.leave (fun _ => 0) rfl hB
  exact ret2 rfl (res_tmp rfl) (res_tmp rfl) ⟨O', hS', _, _, rfl, rfl, (vErr r37)⟩
 ·
  replace hm := im hm c38
  refine o_z ?_
  refine ewp_false rfl (ewp_skip (ewp_seq (ewp_region (o_fa rfl rfl ?_))))
  replace h23 := h23.st S28
  refine o_ld (hc := Blk.cell (i := 0) (h23.1) rfl) rfl rfl ?_
  obtain ⟨q39, e40, hm⟩ := bs hm
  replace h7 := h7.st S28
  refine l_callM (O := O27) (c_registry_New h7 3 (by decide) e40) rfl rfl fun v45 w41 O42 S43 h44 => ?_
  obtain ⟨v46, v47, rfl, h48, h49⟩ := h44
  obtain ⟨rfl, r50⟩ := h49.err
  refine o_mv rfl rfl (o_ex rfl rfl rfl (o_ex rfl rfl rfl (o_as rfl rfl (o_as rfl rfl (o_z ?_)))))
  refine ewp_seq (ewp_seq (ewp_region (o_mv rfl rfl (o_rnS rfl rfl (fun c51 => ?_) fun c51 => ?_))))
  ·
   replace hm := ip hm c51
   refine o_z ?_
   refine ewp_true rfl (ewp_seq (ewp_region (o_mv rfl rfl (o_as rfl rfl (o_as rfl rfl (o_z ?_))))))
   refine ewp_ret ?_
   obtain rfl := sm hm
   replace hB := ((hB.st S22).st S28).st S43
   obtain ⟨O', hS', hz, hl⟩ := hE.leave (fun _ => 0) rfl hB
   exact ret2 rfl (res_tmp rfl) (res_tmp rfl) ⟨O', hS', _, _, rfl, rfl, (vErr r50)⟩
  ·
   replace hm := im hm c51
   refine o_z ?_
   refine ewp_false rfl (ewp_skip (ewp_seq (ewp_seq (ewp_region (o_mv rfl rfl (o_fa rfl rfl ?_))))))
   replace h23 := h23.st S43
   refine o_ld (hc := Blk.cell (i := 1) (h23.1) rfl) rfl rfl ?_
   obtain ⟨o52, e53, hm⟩ := bs hm
   rw [e53] at h48
   obtain ⟨p54, rfl⟩ := Ob.ptr h48
   obtain ⟨q55, e56, hm⟩ := bs hm
   replace h10 := (h10.st S28).st S43
   refine l_callM (O := O42) (c_registry_Registry_Add h48 h10 e56) rfl rfl fun v61 w57 O58 S59 h60 => ?_
   obtain ⟨v63, v64, v65, h62, rfl, h66, h67, h68⟩ := h60
   obtain ⟨rfl, r69⟩ := h66.int
   obtain rfl := h67.bool
   obtain ⟨rfl, r70⟩ := h68.err
   refine o_mv rfl rfl (o_ex rfl rfl rfl (o_ex rfl rfl rfl (o_ex rfl rfl rfl (o_as rfl rfl (o_as rfl rfl (o_as rfl rfl (o_z ?_)))))))
   refine ewp_seq (ewp_region (o_mv rfl rfl (o_rnS rfl rfl (fun c71 => ?_) fun c71 => ?_)))
   ·
    replace hm := ip hm c71
    refine o_z ?_
    refine ewp_true rfl (ewp_seq (ewp_region (o_mv rfl rfl (o_as rfl rfl (o_as rfl rfl (o_z ?_))))))
    refine ewp_ret ?_
    obtain rfl := sm hm
    replace hB := (((hB.st S22).st S28).st S43).st S59
    obtain ⟨O', hS', hz, hl⟩ := hE.leave (fun _ => 0) rfl hB
    exact ret2 rfl (res_tmp rfl) (res_tmp rfl) ⟨O', hS', _, _, rfl, rfl, (vErr r70)⟩
   ·
    replace hm := im hm c71
    refine o_z ?_
    refine ewp_false rfl (ewp_skip (ewp_seq (ewp_region ?_)))
    replace h23 := h23.st S59
    refine o_la (hl := rfl) (hc := (h23.1).cellsAt) rfl rfl ?_
    refine o_mv rfl rfl (o_mv rfl rfl (o_bd rfl rfl rfl ?_))
    refine l_box 4 O58 rfl rfl fun g72 w73 O74 S75 h76 => ?_
    replace h76 : Lc 4 w73 O74 g72 74 [(.slice A8 x0.vars.length c9), (.slice A11 x0.init.length c12), (.slice A14 x0.goal.length c15), (.slice A17 x0.ops.length c18), (.pointer (some ⟨p54, 0, none⟩)), (.pointer p35)] := h76
    refine o_as rfl rfl (o_as rfl rfl (o_z ?_))
    refine ewp_ret ?_
    replace h7 := ((h7.st S43).st S59).st S75
    replace h10 := (h10.st S59).st S75
    replace h13 := (((h13.st S28).st S43).st S59).st S75
    replace h16 := (((h16.st S28).st S43).st S59).st S75
    replace h33 := ((h33.st S43).st S59).st S75
    replace h62 := h62.st S75
    obtain ⟨O77, S78, hz80, ha81, h79⟩ := Spc.shut (x := (⟨(⟨x0.vars, x0.init, x0.goal, x0.ops⟩ : Tsk), q55.2.2.2, q24.1⟩ : Spc)) (l0 := 4) (l1 := 3) (by decide) h76 h7 h10 h13 h16 h62 h33
    obtain rfl := sm hm
    replace hB := (((((hB.st S22).st S28).st S43).st S59).st S75).st S78
    obtain ⟨O', hS', hz, hl⟩ := hE.leave (fun q => if q = 4 then j0 else 0) rfl hB
    exact ret2 rfl (res_tmp rfl) (res_tmp rfl) ⟨O', hS', _, _, rfl, (Ob.leave h79 hz (hl 4 (by decide) (by decide)) hj0), (vErr (show inI64 0 from by decide))⟩
noncomputable def m_breadth_space_solved (x0 : Spc) (x1 : Int) (x2 : Int) : Option (Rsl × Err) :=
  bnd (m_registry_Registry_Path x0.reg x1) fun q36 => if q36.2.n ≠ 0 then (some ((⟨0, ([] : List Int), 0, 0⟩ : Rsl), (⟨q36.2.n⟩ : Err))) else (bnd (rng (ρ := Rsl × Err) (fun (k77 : Nat) (a78 : Int) (s75 : Int) => bnd (atI x0.t.ops a78) fun a125 => bnd (chkI (s75 + a125.cost)) fun n146 => some (.next n146)) q36.1 0 0) fun res73 => fin res73 fun (s160 : Int) => some ((⟨1, q36.1, s160, x2⟩ : Rsl), (⟨0⟩ : Err)))
theorem c_breadth_space_solved {w : World} {O : Lab} {p0 i0 : Nat} {x0 : Spc} (hx0 : Ob i0 w O (.pointer (some ⟨p0, 0, none⟩)) x0) {x1 : Int} (rx1 : inI64 x1) {x2 : Int} (rx2 : inI64 x2) {r : Rsl × Err} (hm : m_breadth_space_solved x0 x1 x2 = some r) :
    Fn Try.prog 38 [(.pointer (some ⟨p0, 0, none⟩)), (.int .i64 x1), (.int .i64 x2)] w fun v w' => ∃ O', St (eT i0) w O w' O' ∧ ∃ v0 v1 : Value, Ob i0 w' O' (.pointer (some ⟨p0, 0, none⟩)) x0 ∧ v = .tuple #[v0, v1] ∧ Vb w' (Fr 0 w' O') v0 r.1 ∧ Vb w' (Fr 0 w' O') v1 r.2 := by
 obtain ⟨O0, hE, hz0, hl2⟩ := ent1 (w := w) (O := O) hx0.2
 have hx0' := Ob.leave hx0 hz0 hl2 (j := 2) (by decide)
 have hB : Bm w O0 w O0 := Bm.refl
 refine fn_enter Try.func38 rfl Try.ntmps38 rfl ?_
 unfold m_breadth_space_solved at hm
 refine ewp_seq (ewp_region (l_alloc 3 O0 rfl fun g4 w5 O6 S7 h8 => ?_))
 refine o_as rfl rfl (o_z ?_)
 refine ewp_seq (ewp_region (o_mv rfl rfl (o_nc rfl rfl ?_)))
 replace hx0' := hx0'.st S7
 obtain ⟨O9, v13, v17, v21, v25, v29, v32, S10, ha12, h11, h14, h18, h22, h26, h30, h33⟩ := Spc.opn hx0' 2 4 (by decide)
 obtain ⟨A15, c16, rfl⟩ := h14.form
 obtain ⟨A19, c20, rfl⟩ := h18.form
 obtain ⟨A23, c24, rfl⟩ := h22.form
 obtain ⟨A27, c28, rfl⟩ := h26.form
 obtain ⟨p31, rfl⟩ := h30.ptr
 obtain ⟨p34, rfl, hq35⟩ := h33.ptr
 refine o_fa rfl rfl (o_ld (hc := Blk.cell (i := 4) (h11.1) rfl) rfl rfl ?_)
 refine o_mv rfl rfl ?_
 obtain ⟨q36, e37, hm⟩ := bs hm
 refine l_callM (O := O9) (c_registry_Registry_Path h30 rx1 e37) rfl rfl fun v42 w38 O39 S40 h41 => ?_
 obtain ⟨v44, v45, h43, rfl, h46, h47⟩ := h41
 obtain ⟨A48, c49, rfl⟩ := h46.form
 obtain ⟨rfl, r50⟩ := h47.err
 refine o_mv rfl rfl (o_ex rfl rfl rfl (o_ex rfl rfl rfl (o_as rfl rfl (o_as rfl rfl (o_z ?_)))))
 refine ewp_seq (ewp_seq (ewp_region (o_mv rfl rfl (o_rnS rfl rfl (fun c51 => ?_) fun c51 => ?_))))
 ·
  replace hm := ip hm c51
  refine o_z ?_
  refine ewp_true rfl (ewp_seq (ewp_region (o_bd rfl rfl rfl ?_)))
  refine o_mv rfl rfl ?_
  replace h8 := (h8.st S10).st S40
  refine l_store h8 rfl rfl rfl (Nat.le_of_ble_eq_true rfl) (by first | exact allOne rfl | simp [Value.cells, Value.oneCell', errV_one]) fun w52 S53 h8 => ?_
  replace h8 : Lc 3 w52 O39 g4 30 [(.int .i64 0), (.slice none 0 0), (.int .i64 0), (.int .i64 0)] := h8
  refine o_as rfl rfl (o_z ?_)
  refine ewp_ret ?_
  replace h11 := (h11.st S40).st S53
  replace h14 := (h14.st S40).st S53
  replace h18 := (h18.st S40).st S53
  replace h22 := (h22.st S40).st S53
  replace h26 := (h26.st S40).st S53
  replace h33 := (h33.st S40).st S53
  replace h43 := h43.st S53
  obtain ⟨O54, S55, hz57, ha58, h56⟩ := Spc.shut (x := x0) (l0 := 2) (l1 := 4) (by decide) h11 h14 h18 h22 h26 h43 h33
  obtain rfl := sm hm
  replace hB := ((((hB.st S7).st S10).st S40).st S53).st S55
  obtain ⟨O', hS', hz, hl⟩ := hE.leave (fun q => if q = 2 then i0 else 0) rfl hB
  replace h8 := h8.st S55
  exact ret2 rfl (res_cell (cs := [(.int .i64 0), (.slice none 0 0), (.int .i64 0), (.int .i64 0)]) rfl rfl h8.1.cellsAt) (res_tmp rfl) ⟨O', hS', _, _, (Ob.leave h56 hz (hl 2 (by decide) (by decide)) hx0.2), rfl, (Vb.mono (Vb.ofAgg (cs := [(.int .i64 0), (.slice none 0 0), (.int .i64 0), (.int .i64 0)]) (x := (⟨0, ([] : List Int), 0, 0⟩ : Rsl)) rfl ⟨_, rfl, (Vb.nil _ _), (show inI64 0 from by decide), (show inI64 0 from by decide), (show inI64 0 from by decide)⟩) hz), (vErr r50)⟩
 ·
  replace hm := im hm c51
  refine o_z ?_
  refine ewp_false rfl (ewp_skip (ewp_seq (ewp_region (o_mv rfl rfl (o_mv rfl rfl (o_bd rfl rfl rfl ?_))))))
  refine l_alloc 5 O39 rfl fun g59 w60 O61 S62 h63 => ?_
  refine l_store h63 rfl rfl rfl (Nat.le_of_ble_eq_true rfl) (by first | exact allOne rfl | simp [Value.cells, Value.oneCell', errV_one]) fun w64 S65 h63 => ?_
  replace h63 : Lc 5 w64 O61 g59 30 [(.int .i64 1), (.slice A48 q36.1.length c49), (.int .i64 0), (.int .i64 x2)] := h63
  refine o_z ?_
  refine ewp_seq (ewp_seq (ewp_region (o_mv rfl rfl (o_ln rfl rfl ?_))))
  replace h46 := (h46.st S62).st S65
  have l67 : q36.1.length ≤ 9223372036854775807 := Nat.le_trans h46.len.2.1 h46.len.2.2
  have r66 : inI64 (q36.1.length : Int) := rngNat l67
  refine o_mv rfl rfl (o_z ?_)
  replace h11 := ((h11.st S40).st S62).st S65
  replace h14 := ((h14.st S40).st S62).st S65
  replace h18 := ((h18.st S40).st S62).st S65
  replace h22 := ((h22.st S40).st S62).st S65
  replace h26 := ((h26.st S40).st S62).st S65
  replace h33 := ((h33.st S40).st S62).st S65
  replace h43 := (h43.st S62).st S65
  obtain ⟨O68, S69, hz71, ha72, h70⟩ := Spc.shut (x := x0) (l0 := 2) (l1 := 4) (by decide) h11 h14 h18 h22 h26 h43 h33
  obtain ⟨res73, hL74, hm⟩ := bs hm
  refine ewp_join (aft res73 (fun (s75 : Int) (x76 : Unit) => [(6, (.pointer (some ⟨g4, 0, none⟩))), (10, (.pointer (some ⟨g59, 0, none⟩)))]) (fun s75 x76 w' => ∃ O' : Lab, Bm w O0 w' O' ∧ Lc 3 w' O' g4 30 [(.int .i64 0), (.slice none 0 0), (.int .i64 0), (.int .i64 0)] ∧ Lc 5 w' O' g59 30 [(.int .i64 1), (.slice A48 q36.1.length c49), (.int .i64 s75), (.int .i64 x2)] ∧ Vb w' (Fr 0 w' O') (.slice A48 q36.1.length c49) q36.1 ∧ Ob 2 w' O' (.pointer (some ⟨p0, 0, none⟩)) x0 ∧ inI64 s75)) ?_ ?_
  ·
   refine ewp_block ?_
   replace hB := (((((hB.st S7).st S10).st S40).st S62).st S65).st S69
   replace h8 := ((((h8.st S10).st S40).st S62).st S65).st S69
   replace h46 := h46.st S69
   replace h63 := h63.st S69
   refine ewp_rng (σ := Int) (X := Unit) (q36.1.length) hL74 rfl l67 (fun (s75 : Int) (x76 : Unit) => [(0, (.pointer (some ⟨p0, 0, none⟩))), (6, (.pointer (some ⟨g4, 0, none⟩))), (10, (.pointer (some ⟨g59, 0, none⟩))), (29, (.slice A48 q36.1.length c49))]) _ (fun s75 x76 w' => ∃ O' : Lab, Bm w O0 w' O' ∧ Ob 2 w' O' (.pointer (some ⟨p0, 0, none⟩)) x0 ∧ Lc 3 w' O' g4 30 [(.int .i64 0), (.slice none 0 0), (.int .i64 0), (.int .i64 0)] ∧ Lc 5 w' O' g59 30 [(.int .i64 1), (.slice A48 q36.1.length c49), (.int .i64 s75), (.int .i64 x2)] ∧ Vb w' (Fr 0 w' O') (.slice A48 q36.1.length c49) q36.1 ∧ inI64 s75) _ () ⟨O68, hB, h70, h8, h63, h46, (show inI64 0 from by decide)⟩ ⟨rfl, rfl, rfl, rfl, rfl, rfl, trivial⟩ (fun _ _ => ⟨rfl, rfl⟩) (fun _ _ => ⟨rfl, rfl, trivial⟩) (fun _ _ _ ⟨O', hB, h70, h8, h63, h46, r89⟩ => ⟨O', hB, h8, h63, h46, h70, r89⟩) ⟨rfl, rfl, rfl⟩ ⟨rfl, rfl⟩ ?_
   rintro k77 a78 s75 x76 w79 cc81 hx82 ⟨O80, hB, h70, h8, h63, h46, r89⟩ hf83 hret84 hbrk85
   have rk77 : inI64 (k77 : Int) := rngK hx82 l67
   refine ewp_seq (ewp_region ?_)
   obtain ⟨b90, o91, ce92, hA93, hl94, hd95, rfl, r97⟩ := h46.elem' hx82
   refine o_iaE (hA := hA93) (hj := rfl) (hlt := hl94) rfl rfl rfl ?_
   refine o_ld (hc := cat0 hd95) rfl rfl ?_
   refine o_as rfl rfl (o_z ?_)
   obtain ⟨O98, v102, v106, v110, v114, v118, v121, S99, ha101, h100, h103, h107, h111, h115, h119, h122⟩ := Spc.opn h70 2 4 (by decide)
   obtain ⟨A104, c105, rfl⟩ := h103.form
   obtain ⟨A108, c109, rfl⟩ := h107.form
   obtain ⟨A112, c113, rfl⟩ := h111.form
   obtain ⟨A116, c117, rfl⟩ := h115.form
   obtain ⟨p120, rfl⟩ := h119.ptr
   obtain ⟨p123, rfl, hq124⟩ := h122.ptr
   refine ewp_drawX [] O98 ?_
   refine x_pre (fuel := 1) [] [(0, true), (1, true), (2, true), (3, true), (4, true), (5, true), (6, true), (7, true), (8, true), (9, true), (10, true), (11, true), (12, true)] (by kernel_rfl) rfl ?_
   refine h_fa rfl rfl rfl ?_
   replace h63 := h63.st S99
   refine h_ldC (hc := fun w' ⟨O', hq⟩ => Blk.cell (i := 2) ((h63.st hq (by decide)).1) rfl) rfl rfl rfl ?_
   refine h_mv rfl rfl rfl (h_nc rfl rfl rfl (h_fa rfl rfl rfl (h_fa rfl rfl rfl (h_ldC (hc := fun w' ⟨O', hq⟩ => Blk.cell (i := 3) ((h100.st hq (by decide)).1) rfl) rfl rfl rfl ?_))))
   refine h_mv rfl rfl rfl ?_
   obtain ⟨a125, e126, hf83⟩ := bs hf83
   obtain ⟨p128, x127⟩ := atI_some' e126
   obtain ⟨b129, o130, ce131, hA132, hF135, hl133, hd134, v136, v137, rfl, h138, h141, r144, z145⟩ := h115.elem x127
   obtain ⟨A139, c140, rfl⟩ := h138.form
   obtain ⟨A142, c143, rfl⟩ := h141.form
   refine h_iaE (hA := hA132) (hj := (Int.toNat_of_nonneg p128).symm) (hlt := hl133) rfl rfl rfl rfl ?_
   refine h_fa rfl rfl rfl (h_ldC (hc := fun w' ⟨O', hq⟩ => cat1 (cellsAt_agree (hq.agree (i := 0) (by decide)) hF135 hd134)) rfl rfl rfl ?_)
   obtain ⟨n146, e147, hf83⟩ := bs hf83
   have r148 := (chkI_rng e147)
   refine h_adE (he := e147) rfl rfl rfl rfl ?_
   refine h_fa rfl rfl rfl (hwp_nilT ?_)
   refine x_one (i := 13) (by kernel_rfl) rfl ?_
   refine l_store h63 rfl rfl rfl (Nat.le_of_ble_eq_true rfl) (by first | exact allOne rfl | simp [Value.cells, Value.oneCell', errV_one]) fun w149 S150 h63 => ?_
   replace h63 : Lc 5 w149 O98 g59 30 [(.int .i64 1), (.slice A48 q36.1.length c49), (.int .i64 n146), (.int .i64 x2)] := h63
   refine x_end (by kernel_rfl) ?_
   refine x_nil (by kernel_rfl) ?_
   replace h100 := h100.st S150
   replace h103 := h103.st S150
   replace h107 := h107.st S150
   replace h111 := h111.st S150
   replace h115 := h115.st S150
   replace h119 := h119.st S150
   replace h122 := h122.st S150
   obtain ⟨O151, S152, hz154, ha155, h153⟩ := Spc.shut (x := x0) (l0 := 2) (l1 := 4) (by decide) h100 h103 h107 h111 h115 h119 h122
   obtain rfl := sm hf83
   refine (?_ : Exists _)
   replace hB := ((hB.st S99).st S150).st S152
   replace h8 := ((h8.st S99).st S150).st S152
   replace h46 := ((h46.st S99).st S150).st S152
   replace h63 := h63.st S152
   exact ⟨_, (), rfl, ⟨rfl, rfl, rfl, rfl, rfl, rfl, trivial⟩, _, hB, h153, h8, h63, h46, r148⟩
  replace hB := (((((hB.st S7).st S10).st S40).st S62).st S65).st S69
  replace h8 := ((((h8.st S10).st S40).st S62).st S65).st S69
  replace h46 := h46.st S69
  replace h63 := h63.st S69
  rintro l156 w157 ⟨s160, x161, rfl, hs159, O158, hB, h8, h63, h46, h70, r89⟩
  replace hm := fin_done hm
  refine ewp_sub _ hs159 ?_
  refine ewp_seq (ewp_region (o_la (hl := rfl) (hc := (h63.1).cellsAt) rfl rfl ?_))
  refine l_store h8 rfl rfl rfl (Nat.le_of_ble_eq_true rfl) (by first | exact allOne rfl | simp [Value.cells, Value.oneCell', errV_one]) fun w162 S163 h8 => ?_
  replace h8 : Lc 3 w162 O158 g4 30 [(.int .i64 1), (.slice A48 q36.1.length c49), (.int .i64 s160), (.int .i64 x2)] := h8
  refine o_as rfl rfl (o_z ?_)
  refine ewp_ret ?_
  obtain rfl := sm hm
  replace hB := hB.st S163
  obtain ⟨O', hS', hz, hl⟩ := hE.leave (fun q => if q = 2 then i0 else 0) rfl hB
  replace h46 := h46.st S163
  replace h70 := h70.st S163
  exact ret2 rfl (res_cell (cs := [(.int .i64 1), (.slice A48 q36.1.length c49), (.int .i64 s160), (.int .i64 x2)]) rfl rfl h8.1.cellsAt) (res_tmp rfl) ⟨O', hS', _, _, (Ob.leave h70 hz (hl 2 (by decide) (by decide)) hx0.2), rfl, (Vb.mono (Vb.ofAgg (cs := [(.int .i64 1), (.slice A48 q36.1.length c49), (.int .i64 s160), (.int .i64 x2)]) (x := (⟨1, q36.1, s160, x2⟩ : Rsl)) rfl ⟨_, rfl, h46, (show inI64 (1) from by decide), r89, rx2⟩) hz), (vErr (show inI64 0 from by decide))⟩
noncomputable def m_breadth_failed (x0 : Int) (x1 : Int) : Option (Rsl × Err) :=
  some ((⟨x0, ([] : List Int), 0, x1⟩ : Rsl), (⟨0⟩ : Err))
theorem c_breadth_failed {w : World} {A : Nat → Prop} (hA : ∀ k, A k → k < w.heap.size) {x0 : Int} (rx0 : inI64 x0) {x1 : Int} (rx1 : inI64 x1) {r : Rsl × Err} (hm : m_breadth_failed x0 x1 = some r) :
    Fn Try.prog 39 [(.int .i64 x0), (.int .i64 x1)] w fun v w' => Ext w w' ∧ T2 w' (upA A w w') v r := by
 obtain ⟨O, hB, hA0⟩ := enter hA
 refine fn_enter Try.func39 rfl Try.ntmps39 rfl ?_
 unfold m_breadth_failed at hm
 refine ewp_seq (ewp_region (l_alloc 2 O rfl fun g3 w4 O5 S6 h7 => ?_))
 refine o_as rfl rfl (o_z ?_)
 refine ewp_seq (ewp_region (o_mv rfl rfl (o_mv rfl rfl (o_bd rfl rfl rfl ?_))))
 refine l_store h7 rfl rfl rfl (Nat.le_of_ble_eq_true rfl) (by first | exact allOne rfl | simp [Value.cells, Value.oneCell', errV_one]) fun w8 S9 h7 => ?_
 replace h7 : Lc 2 w8 O5 g3 30 [(.int .i64 x0), (.slice none 0 0), (.int .i64 0), (.int .i64 x1)] := h7
 refine o_as rfl rfl (o_z ?_)
 refine ewp_ret ?_
 obtain rfl := sm hm
 replace hB := (hB.st S6).st S9
 exact ret2 rfl (res_cell (cs := [(.int .i64 x0), (.slice none 0 0), (.int .i64 0), (.int .i64 x1)]) rfl rfl h7.1.cellsAt) (res_tmp rfl) ⟨hB.ext, _, _, rfl, (Vb.mono (F := Fr 0 w8 O5) (Vb.ofAgg (cs := [(.int .i64 x0), (.slice none 0 0), (.int .i64 0), (.int .i64 x1)]) (x := (⟨x0, ([] : List Int), 0, x1⟩ : Rsl)) rfl ⟨_, rfl, (Vb.nil _ _), rx0, (show inI64 0 from by decide), rx1⟩) hB.out), (vErr (show inI64 0 from by decide))⟩
noncomputable def m_breadth_Search (x0 : Tsk) (x1 : Int) : Option (Rsl × Err) :=
  bnd (m_breadth_begin x0) fun q30 => if q30.2.n ≠ 0 then (some ((⟨0, ([] : List Int), 0, 0⟩ : Rsl), (⟨q30.2.n⟩ : Err))) else (bnd q30.1 fun o45 => bnd (lop (ρ := Rsl × Err) (fun (s50 : Int × Spc) => bnd (m_registry_Registry_Len s50.2.reg) fun q94 => if s50.1 < q94 then (bnd (m_registry_Registry_State s50.2.reg s50.1) fun q105 => if q105.2.n ≠ 0 then (some (.ret ((⟨0, ([] : List Int), 0, 0⟩ : Rsl), (⟨q105.2.n⟩ : Err)))) else (bnd (m_task_Holds x0.goal q105.1) fun q123 => if q123 = true then bnd (m_breadth_space_solved s50.2 s50.1 s50.1) fun q312 => some (.ret (q312.1, (⟨q312.2.n⟩ : Err))) else if x1 ≤ s50.1 then (bnd (m_breadth_failed 3 s50.1) fun q131 => some (.ret (q131.1, (⟨q131.2.n⟩ : Err)))) else (bnd (m_succgen_Generator_Successors s50.2.gen q105.1) fun q153 => bnd (rng (ρ := Ctl (Int × Spc) (Rsl × Err)) (fun (k173 : Nat) (a174 : Suc) (s171 : Spc) => bnd (m_registry_Registry_Add s171.reg a174.state) fun q232 => if q232.2.2.1.n ≠ 0 then (bnd (chkI (s50.1 + 1)) fun n249 => bnd (m_breadth_failed 3 n249) fun q252 => some (.ret (.ret (q252.1, (⟨q252.2.n⟩ : Err))))) else (if q232.2.1 = true then (bnd (m_registry_Registry_SetLink q232.2.2.2 q232.1 s50.1 a174.op 0) fun q275 => if q275.1.n ≠ 0 then (some (.ret (.ret ((⟨0, ([] : List Int), 0, 0⟩ : Rsl), (⟨q275.1.n⟩ : Err))))) else (some (.next (⟨(⟨s171.t.vars, s171.t.init, s171.t.goal, s171.t.ops⟩ : Tsk), q275.2, s171.gen⟩ : Spc)))) else (some (.next (⟨(⟨s171.t.vars, s171.t.init, s171.t.goal, s171.t.ops⟩ : Tsk), q232.2.2.2, s171.gen⟩ : Spc))))) q153 0 s50.2) fun res169 => fin res169 fun (s302 : Spc) => bnd (chkI (s50.1 + 1)) fun n304 => some (.next (n304, s302))))) else (some (.brk (s50.1, s50.2)))) (0, o45)) fun res48 => fin res48 fun (s344 : Int × Spc) => bnd (m_registry_Registry_Len s344.2.reg) fun q373 => bnd (m_breadth_failed 2 q373) fun q383 => some (q383.1, (⟨q383.2.n⟩ : Err)))
theorem c_breadth_Search {w : World} {A : Nat → Prop} (hA : ∀ k, A k → k < w.heap.size) {vx0 : Value} {x0 : Tsk} (hx0 : Vb w A vx0 x0) {x1 : Int} (rx1 : inI64 x1) {r : Rsl × Err} (hm : m_breadth_Search x0 x1 = some r) :
    Fn Try.prog 13 [vx0, (.int .i64 x1)] w fun v w' => Ext w w' ∧ T2 w' (upA A w w') v r := by
 obtain ⟨O, hB, hA0⟩ := enter hA
 replace hx0 := hx0.mono hA0
 obtain ⟨cs3, rfl, v4, v5, v6, v7, rfl, h8, h11, h14, h17⟩ := hx0
 obtain ⟨A9, c10, rfl⟩ := h8.form
 obtain ⟨A12, c13, rfl⟩ := h11.form
 obtain ⟨A15, c16, rfl⟩ := h14.form
 obtain ⟨A18, c19, rfl⟩ := h17.form
 refine fn_enter Try.func13 rfl Try.ntmps13 rfl ?_
 unfold m_breadth_Search at hm
 refine ewp_seq (ewp_region (l_box 2 O rfl rfl fun g20 w21 O22 S23 h24 => ?_))
 replace h24 : Lc 2 w21 O22 g20 26 [(.slice A9 x0.vars.length c10), (.slice A12 x0.init.length c13), (.slice A15 x0.goal.length c16), (.slice A18 x0.ops.length c19)] := h24
 refine l_alloc 3 O22 rfl fun g25 w26 O27 S28 h29 => ?_
 refine o_as rfl rfl (o_z ?_)
 refine ewp_seq (ewp_region ?_)
 replace h24 := h24.st S28
 refine o_la (hl := rfl) (hc := (h24.1).cellsAt) rfl rfl ?_
 obtain ⟨q30, e31, hm⟩ := bs hm
 replace h8 := (h8.st S23).st S28
 replace h11 := (h11.st S23).st S28
 replace h14 := (h14.st S23).st S28
 replace h17 := (h17.st S23).st S28
 refine l_callM (O := O27) (c_breadth_begin (Vb.ofAgg (cs := [(.slice A9 x0.vars.length c10), (.slice A12 x0.init.length c13), (.slice A15 x0.goal.length c16), (.slice A18 x0.ops.length c19)]) (x := x0) rfl ⟨_, _, _, _, rfl, h8, h11, h14, h17⟩) 4 (by decide) e31) rfl rfl fun v36 w32 O33 S34 h35 => ?_
 obtain ⟨v37, v38, rfl, h39, h40⟩ := h35
 obtain ⟨rfl, r41⟩ := h40.err
 refine o_mv rfl rfl (o_ex rfl rfl rfl (o_ex rfl rfl rfl (o_as rfl rfl (o_as rfl rfl (o_z ?_)))))
 refine ewp_seq (ewp_seq (ewp_region (o_mv rfl rfl (o_rnS rfl rfl (fun c42 => ?_) fun c42 => ?_))))
 ·
  replace hm := ip hm c42
  refine o_z ?_
  refine ewp_true rfl (ewp_seq (ewp_region (o_bd rfl rfl rfl ?_)))
  refine o_mv rfl rfl ?_
  replace h29 := h29.st S34
  refine l_store h29 rfl rfl rfl (Nat.le_of_ble_eq_true rfl) (by first | exact allOne rfl | simp [Value.cells, Value.oneCell', errV_one]) fun w43 S44 h29 => ?_
  replace h29 : Lc 3 w43 O33 g25 30 [(.int .i64 0), (.slice none 0 0), (.int .i64 0), (.int .i64 0)] := h29
  refine o_as rfl rfl (o_z ?_)
  refine ewp_ret ?_
  obtain rfl := sm hm
  replace hB := (((hB.st S23).st S28).st S34).st S44
  exact ret2 rfl (res_cell (cs := [(.int .i64 0), (.slice none 0 0), (.int .i64 0), (.int .i64 0)]) rfl rfl h29.1.cellsAt) (res_tmp rfl) ⟨hB.ext, _, _, rfl, (Vb.mono (F := Fr 0 w43 O33) (Vb.ofAgg (cs := [(.int .i64 0), (.slice none 0 0), (.int .i64 0), (.int .i64 0)]) (x := (⟨0, ([] : List Int), 0, 0⟩ : Rsl)) rfl ⟨_, rfl, (Vb.nil _ _), (show inI64 0 from by decide), (show inI64 0 from by decide), (show inI64 0 from by decide)⟩) hB.out), (vErr r41)⟩
 ·
  replace hm := im hm c42
  refine o_z ?_
  refine ewp_false rfl (ewp_skip (ewp_seq (ewp_seq (ewp_region (o_as rfl rfl (o_z ?_))))))
  obtain ⟨o45, e46, hm⟩ := bs hm
  rw [e46] at h39
  obtain ⟨p47, rfl⟩ := Ob.ptr h39
  obtain ⟨res48, hL49, hm⟩ := bs hm
  refine ewp_join (aft res48 (fun (s50 : Int × Spc) (x51 : Unit) => [(4, (.pointer (some ⟨g25, 0, none⟩))), (6, (.pointer (some ⟨p47, 0, none⟩)))]) (fun s50 x51 w' => ∃ O' : Lab, Bs w A w' O' ∧ Lc 3 w' O' g25 30 [(.int .i64 0), (.slice none 0 0), (.int .i64 0), (.int .i64 0)] ∧ Ob 4 w' O' (.pointer (some ⟨p47, 0, none⟩)) s50.2 ∧ inI64 s50.1)) ?_ ?_
  ·
   refine ewp_block ?_
   replace hB := ((hB.st S23).st S28).st S34
   replace h8 := h8.st S34
   replace h11 := h11.st S34
   replace h14 := h14.st S34
   replace h17 := h17.st S34
   replace h24 := h24.st S34
   replace h29 := h29.st S34
   refine ewp_lop (σ := Int × Spc) (X := Unit) hL49 (fun (s50 : Int × Spc) (x51 : Unit) => [(1, (.int .i64 x1)), (2, (.pointer (some ⟨g20, 0, none⟩))), (4, (.pointer (some ⟨g25, 0, none⟩))), (6, (.pointer (some ⟨p47, 0, none⟩))), (8, (.int .i64 s50.1))]) _ (fun s50 x51 w' => ∃ O' : Lab, Bs w A w' O' ∧ Lc 2 w' O' g20 26 [(.slice A9 x0.vars.length c10), (.slice A12 x0.init.length c13), (.slice A15 x0.goal.length c16), (.slice A18 x0.ops.length c19)] ∧ Vb w' (Fr 0 w' O') (.slice A9 x0.vars.length c10) x0.vars ∧ Vb w' (Fr 0 w' O') (.slice A12 x0.init.length c13) x0.init ∧ Vb w' (Fr 0 w' O') (.slice A15 x0.goal.length c16) x0.goal ∧ Vb w' (Fr 0 w' O') (.slice A18 x0.ops.length c19) x0.ops ∧ Lc 3 w' O' g25 30 [(.int .i64 0), (.slice none 0 0), (.int .i64 0), (.int .i64 0)] ∧ Ob 4 w' O' (.pointer (some ⟨p47, 0, none⟩)) s50.2 ∧ inI64 s50.1) _ () ⟨O33, hB, h24, h8, h11, h14, h17, h29, h39, (show inI64 (0) from by decide)⟩ ⟨rfl, rfl, rfl, rfl, rfl, trivial⟩ ?_
   rintro s50 x51 w54 cc56 ⟨O55, hB, h24, h8, h11, h14, h17, h29, h66, r65⟩ hf58 hret59 hbrk60
   refine ewp_seq (ewp_seq (ewp_region (o_mv rfl rfl (o_mv rfl rfl (o_nc rfl rfl ?_)))))
   obtain ⟨O67, v71, v75, v79, v83, v87, v90, S68, ha70, h69, h72, h76, h80, h84, h88, h91⟩ := Spc.opn h66 4 5 (by decide)
   obtain ⟨A73, c74, rfl⟩ := h72.form
   obtain ⟨A77, c78, rfl⟩ := h76.form
   obtain ⟨A81, c82, rfl⟩ := h80.form
   obtain ⟨A85, c86, rfl⟩ := h84.form
   obtain ⟨p89, rfl⟩ := h88.ptr
   obtain ⟨p92, rfl, hq93⟩ := h91.ptr
   refine o_fa rfl rfl (o_ld (hc := Blk.cell (i := 4) (h69.1) rfl) rfl rfl ?_)
   obtain ⟨q94, e95, hf58⟩ := bs hf58
   refine l_callM (O := O67) (c_registry_Registry_Len h88 e95) rfl rfl fun v100 w96 O97 S98 h99 => ?_
   obtain ⟨h101, h102⟩ := h99
   obtain ⟨rfl, r103⟩ := h102.int
   refine o_ltS rfl rfl rfl (fun c104 => ?_) fun c104 => ?_
   ·
    replace hf58 := ip hf58 c104
    refine o_z ?_
    refine ewp_true rfl (ewp_skip (ewp_seq (ewp_block (ewp_seq (ewp_region (o_mv rfl rfl (o_nc rfl rfl (o_fa rfl rfl ?_))))))))
    replace h69 := h69.st S98
    refine o_ld (hc := Blk.cell (i := 4) (h69.1) rfl) rfl rfl ?_
    refine o_mv rfl rfl ?_
    obtain ⟨q105, e106, hf58⟩ := bs hf58
    refine l_callM (O := O97) (c_registry_Registry_State h101 r65 e106) rfl rfl fun v111 w107 O108 S109 h110 => ?_
    obtain ⟨v113, v114, h112, rfl, h115, h116⟩ := h110
    obtain ⟨A117, c118, rfl⟩ := h115.form
    obtain ⟨rfl, r119⟩ := h116.err
    refine o_mv rfl rfl (o_ex rfl rfl rfl (o_ex rfl rfl rfl (o_as rfl rfl (o_as rfl rfl (o_z ?_)))))
    refine ewp_seq (ewp_seq (ewp_region (o_mv rfl rfl (o_rnS rfl rfl (fun c120 => ?_) fun c120 => ?_))))
    ·
     replace hf58 := ip hf58 c120
     refine o_z ?_
     refine ewp_true rfl (ewp_seq (ewp_region (o_bd rfl rfl rfl ?_)))
     refine o_mv rfl rfl ?_
     replace h29 := ((h29.st S68).st S98).st S109
     refine l_store h29 rfl rfl rfl (Nat.le_of_ble_eq_true rfl) (by first | exact allOne rfl | simp [Value.cells, Value.oneCell', errV_one]) fun w121 S122 h29 => ?_
     replace h29 : Lc 3 w121 O108 g25 30 [(.int .i64 0), (.slice none 0 0), (.int .i64 0), (.int .i64 0)] := h29
     refine o_as rfl rfl (o_z ?_)
     refine ewp_ret ?_
     obtain rfl := sm hf58
     obtain rfl := hret59 _ rfl
     obtain rfl := sm (fin_ret hm)
     replace hB := (((hB.st S68).st S98).st S109).st S122
     exact ret2 rfl (res_cell (cs := [(.int .i64 0), (.slice none 0 0), (.int .i64 0), (.int .i64 0)]) rfl rfl h29.1.cellsAt) (res_tmp rfl) ⟨hB.ext, _, _, rfl, (Vb.mono (F := Fr 0 w121 O108) (Vb.ofAgg (cs := [(.int .i64 0), (.slice none 0 0), (.int .i64 0), (.int .i64 0)]) (x := (⟨0, ([] : List Int), 0, 0⟩ : Rsl)) rfl ⟨_, rfl, (Vb.nil _ _), (show inI64 0 from by decide), (show inI64 0 from by decide), (show inI64 0 from by decide)⟩) hB.out), (vErr r119)⟩
    ·
     replace hf58 := im hf58 c120
     refine o_z ?_
     refine ewp_false rfl (ewp_skip (ewp_seq (ewp_seq (ewp_region (o_fa rfl rfl ?_)))))
     replace h24 := ((h24.st S68).st S98).st S109
     refine o_ld (hc := Blk.cell (i := 2) (h24.1) rfl) rfl rfl ?_
     refine o_mv rfl rfl ?_
     obtain ⟨q123, e124, hf58⟩ := bs hf58
     replace h14 := ((h14.st S68).st S98).st S109
     refine l_callA (O := O108) (A := All w107) (R := fun w' F v => Vb w' F v q123) (c_task_Holds (fun _ h => h) (Vb.mono (F := Fr 0 w107 O108) h14 Fr.lt) (Vb.mono (F := Fr 0 w107 O108) h115 Fr.lt) e124) rfl rfl fun v129 w125 O126 S127 h128 => ?_
     obtain rfl := h128.bool
     cases q123
     case false =>
      replace hf58 := iF hf58
      refine o_z ?_
      refine ewp_false rfl (ewp_skip (ewp_seq (ewp_seq (ewp_region (o_mv rfl rfl (o_mv rfl rfl (o_geS rfl rfl rfl (fun c130 => ?_) fun c130 => ?_)))))))
      ·
       replace hf58 := ip hf58 c130
       refine o_z ?_
       refine ewp_true rfl (ewp_seq (ewp_region (o_mv rfl rfl ?_)))
       obtain ⟨q131, e132, hf58⟩ := bs hf58
       refine l_call (O := O126) (R := fun w' F v => T2 w' F v q131) (c_breadth_failed Fr.lt (show inI64 (3) from by decide) r65 e132) rfl rfl fun v137 w133 O134 S135 h136 => ?_
       obtain ⟨v138, v139, rfl, h140, h141⟩ := h136
       obtain ⟨cs142, rfl, v143, rfl, h144, r147, r148, r149⟩ := h140
       obtain ⟨A145, c146, rfl⟩ := h144.form
       obtain ⟨rfl, r150⟩ := h141.err
       refine o_ex rfl rfl rfl (o_ex rfl rfl rfl ?_)
       replace h29 := ((((h29.st S68).st S98).st S109).st S127).st S135
       refine l_store h29 rfl rfl rfl (Nat.le_of_ble_eq_true rfl) (by first | exact allOne rfl | simp [Value.cells, Value.oneCell', errV_one]) fun w151 S152 h29 => ?_
       replace h29 : Lc 3 w151 O134 g25 30 [(.int .i64 q131.1.verdict), (.slice A145 q131.1.plan.length c146), (.int .i64 q131.1.cost), (.int .i64 q131.1.expanded)] := h29
       refine o_as rfl rfl (o_z ?_)
       refine ewp_ret ?_
       obtain rfl := sm hf58
       obtain rfl := hret59 _ rfl
       obtain rfl := sm (fin_ret hm)
       replace hB := (((((hB.st S68).st S98).st S109).st S127).st S135).st S152
       replace h144 := h144.st S152
       exact ret2 rfl (res_cell (cs := [(.int .i64 q131.1.verdict), (.slice A145 q131.1.plan.length c146), (.int .i64 q131.1.cost), (.int .i64 q131.1.expanded)]) rfl rfl h29.1.cellsAt) (res_tmp rfl) ⟨hB.ext, _, _, rfl, (Vb.mono (F := Fr 0 w151 O134) (Vb.ofAgg (cs := [(.int .i64 q131.1.verdict), (.slice A145 q131.1.plan.length c146), (.int .i64 q131.1.cost), (.int .i64 q131.1.expanded)]) (x := q131.1) rfl ⟨_, rfl, h144, r147, r148, r149⟩) hB.out), (vErr r150)⟩
      ·
       replace hf58 := im hf58 c130
       refine o_z ?_
       refine ewp_false rfl (ewp_skip (ewp_seq (ewp_region (o_mv rfl rfl (o_nc rfl rfl (o_fa rfl rfl ?_))))))
       replace h69 := (h69.st S109).st S127
       refine o_ld (hc := Blk.cell (i := 5) (h69.1) rfl) rfl rfl ?_
       refine o_mv rfl rfl ?_
       obtain ⟨q153, e154, hf58⟩ := bs hf58
       replace h91 := ((h91.st S98).st S109).st S127
       replace h115 := h115.st S127
       refine l_call (O := O126) (R := fun w' F v => Vb w' F v q153) (c_succgen_Generator_Successors Fr.lt h91 h115 e154) rfl rfl fun v159 w155 O156 S157 h158 => ?_
       obtain ⟨A160, c161, rfl⟩ := h158.form
       refine o_ln rfl rfl ?_
       have l163 : q153.length ≤ 9223372036854775807 := Nat.le_trans h158.len.2.1 h158.len.2.2
       have r162 : inI64 (q153.length : Int) := rngNat l163
       refine o_mv rfl rfl (o_z ?_)
       replace h69 := h69.st S157
       replace h72 := (((h72.st S98).st S109).st S127).st S157
       replace h76 := (((h76.st S98).st S109).st S127).st S157
       replace h80 := (((h80.st S98).st S109).st S127).st S157
       replace h84 := (((h84.st S98).st S109).st S127).st S157
       replace h91 := h91.st S157
       replace h112 := (h112.st S127).st S157
       obtain ⟨O164, S165, hz167, ha168, h166⟩ := Spc.shut (x := s50.2) (l0 := 4) (l1 := 5) (by decide) h69 h72 h76 h80 h84 h112 h91
       obtain ⟨res169, hL170, hf58⟩ := bs hf58
       refine ewp_join (aft res169 (fun (s171 : Spc) (x172 : Unit) => [(1, (.int .i64 x1)), (2, (.pointer (some ⟨g20, 0, none⟩))), (4, (.pointer (some ⟨g25, 0, none⟩))), (6, (.pointer (some ⟨p47, 0, none⟩))), (8, (.int .i64 s50.1))]) (fun s171 x172 w' => ∃ O' : Lab, Bs w A w' O' ∧ Lc 2 w' O' g20 26 [(.slice A9 x0.vars.length c10), (.slice A12 x0.init.length c13), (.slice A15 x0.goal.length c16), (.slice A18 x0.ops.length c19)] ∧ Vb w' (Fr 0 w' O') (.slice A9 x0.vars.length c10) x0.vars ∧ Vb w' (Fr 0 w' O') (.slice A12 x0.init.length c13) x0.init ∧ Vb w' (Fr 0 w' O') (.slice A15 x0.goal.length c16) x0.goal ∧ Vb w' (Fr 0 w' O') (.slice A18 x0.ops.length c19) x0.ops ∧ Lc 3 w' O' g25 30 [(.int .i64 0), (.slice none 0 0), (.int .i64 0), (.int .i64 0)] ∧ Ob 4 w' O' (.pointer (some ⟨p47, 0, none⟩)) s171)) ?_ ?_
       ·
        refine ewp_block ?_
        replace hB := (((((hB.st S68).st S98).st S109).st S127).st S157).st S165
        replace h8 := (((((h8.st S68).st S98).st S109).st S127).st S157).st S165
        replace h11 := (((((h11.st S68).st S98).st S109).st S127).st S157).st S165
        replace h14 := ((h14.st S127).st S157).st S165
        replace h17 := (((((h17.st S68).st S98).st S109).st S127).st S157).st S165
        replace h24 := ((h24.st S127).st S157).st S165
        replace h29 := (((((h29.st S68).st S98).st S109).st S127).st S157).st S165
        replace h158 := h158.st S165
        refine ewp_rng (σ := Spc) (X := Unit) (q153.length) hL170 rfl l163 (fun (s171 : Spc) (x172 : Unit) => [(1, (.int .i64 x1)), (2, (.pointer (some ⟨g20, 0, none⟩))), (4, (.pointer (some ⟨g25, 0, none⟩))), (6, (.pointer (some ⟨p47, 0, none⟩))), (8, (.int .i64 s50.1)), (70, (.slice A160 q153.length c161))]) _ (fun s171 x172 w' => ∃ O' : Lab, Bs w A w' O' ∧ Lc 2 w' O' g20 26 [(.slice A9 x0.vars.length c10), (.slice A12 x0.init.length c13), (.slice A15 x0.goal.length c16), (.slice A18 x0.ops.length c19)] ∧ Vb w' (Fr 0 w' O') (.slice A9 x0.vars.length c10) x0.vars ∧ Vb w' (Fr 0 w' O') (.slice A12 x0.init.length c13) x0.init ∧ Vb w' (Fr 0 w' O') (.slice A15 x0.goal.length c16) x0.goal ∧ Vb w' (Fr 0 w' O') (.slice A18 x0.ops.length c19) x0.ops ∧ Lc 3 w' O' g25 30 [(.int .i64 0), (.slice none 0 0), (.int .i64 0), (.int .i64 0)] ∧ Ob 4 w' O' (.pointer (some ⟨p47, 0, none⟩)) s171 ∧ Vb w' (Fr 0 w' O') (.slice A160 q153.length c161) q153) _ () ⟨O164, hB, h24, h8, h11, h14, h17, h29, h166, h158⟩ ⟨rfl, rfl, rfl, rfl, rfl, rfl, rfl, rfl, trivial⟩ (fun _ _ => ⟨rfl, rfl⟩) (fun _ _ => ⟨rfl, rfl, rfl, rfl, rfl, trivial⟩) (fun _ _ _ ⟨O', hB, h24, h8, h11, h14, h17, h29, h185, h158⟩ => ⟨O', hB, h24, h8, h11, h14, h17, h29, h185⟩) ⟨rfl, rfl, rfl⟩ ⟨rfl, rfl⟩ ?_
        rintro k173 a174 s171 x172 w175 cc177 hx178 ⟨O176, hB, h24, h8, h11, h14, h17, h29, h185, h158⟩ hf179 hret180 hbrk181
        have rk173 : inI64 (k173 : Int) := rngK hx178 l163
        refine ewp_seq (ewp_region ?_)
        obtain ⟨b186, o187, ce188, hA189, hl190, hd191, v193, rfl, h194, r197⟩ := h158.elem' hx178
        obtain ⟨A195, c196, rfl⟩ := h194.form
        refine o_iaE (hA := hA189) (hj := rfl) (hlt := hl190) rfl rfl rfl ?_
        refine o_la (hl := rfl) (hc := hd191) rfl rfl ?_
        refine l_alloc 6 O176 rfl fun g198 w199 O200 S201 h202 => ?_
        refine l_store h202 rfl rfl rfl (Nat.le_of_ble_eq_true rfl) (by first | exact allOne rfl | simp [Value.cells, Value.oneCell', errV_one]) fun w203 S204 h202 => ?_
        replace h202 : Lc 6 w203 O200 g198 83 [(.int .i64 a174.op), (.slice A195 a174.state.length c196)] := h202
        refine o_z ?_
        refine ewp_seq ?_
        replace h185 := (h185.st S201).st S204
        obtain ⟨O205, v209, v213, v217, v221, v225, v228, S206, ha208, h207, h210, h214, h218, h222, h226, h229⟩ := Spc.opn h185 4 5 (by decide)
        obtain ⟨A211, c212, rfl⟩ := h210.form
        obtain ⟨A215, c216, rfl⟩ := h214.form
        obtain ⟨A219, c220, rfl⟩ := h218.form
        obtain ⟨A223, c224, rfl⟩ := h222.form
        obtain ⟨p227, rfl⟩ := h226.ptr
        obtain ⟨p230, rfl, hq231⟩ := h229.ptr
        refine ewp_drawX [(6, [5])] O205 ?_
        refine x_pre (fuel := 8) [] [(0, true), (1, true), (2, true), (3, true), (4, true), (5, true)] (by kernel_rfl) rfl ?_
        refine h_mv rfl rfl rfl (h_nc rfl rfl rfl (h_fa rfl rfl rfl (h_ldC (hc := fun w' ⟨O', hq⟩ => Blk.cell (i := 4) ((h207.st hq (by decide)).1) rfl) rfl rfl rfl ?_)))
        refine h_fa rfl rfl rfl ?_
        replace h202 := h202.st S206
        refine h_ldC (hc := fun w' ⟨O', hq⟩ => Blk.cell (i := 1) ((h202.st hq (by decide)).1) rfl) rfl rfl rfl ?_
        refine hwp_nilT ?_
        refine x_one (i := 6) (by kernel_rfl) rfl ?_
        obtain ⟨q232, e233, hf179⟩ := bs hf179
        replace h194 := ((h194.st S201).st S204).st S206
        refine l_callM (O := O205) (c_registry_Registry_Add h226 h194 e233) rfl rfl fun v238 w234 O235 S236 h237 => ?_
        obtain ⟨v240, v241, v242, h239, rfl, h243, h244, h245⟩ := h237
        obtain ⟨rfl, r246⟩ := h243.int
        obtain rfl := h244.bool
        obtain ⟨rfl, r247⟩ := h245.err
        have hZ := S236.lst [5] (fun _ h => by cases h; decide)
        refine x_go [] hZ (by kernel_rfl) ?_
        refine x_pre (fuel := 0) [] [(7, true), (8, true), (9, true), (10, true), (11, true), (12, true), (13, true)] (by kernel_rfl) rfl ?_
        refine h_mv rfl rfl rfl (h_ex rfl rfl rfl rfl (h_ex rfl rfl rfl rfl (h_ex rfl rfl rfl rfl (h_as rfl rfl rfl (h_as rfl rfl rfl (h_as rfl rfl rfl (hwp_nilT ?_)))))))
        refine x_nil (by kernel_rfl) ?_
        refine ewp_seq (ewp_seq (ewp_region (o_mv rfl rfl (o_rnS rfl rfl (fun c248 => ?_) fun c248 => ?_))))
        ·
         replace hf179 := ip hf179 c248
         refine o_z ?_
         refine ewp_true rfl (ewp_seq (ewp_region (o_mv rfl rfl ?_)))
         obtain ⟨n249, e250, hf179⟩ := bs hf179
         have r251 := (chkI_rng e250)
         refine o_adE (he := e250) rfl rfl rfl ?_
         obtain ⟨q252, e253, hf179⟩ := bs hf179
         refine l_call (O := O235) (R := fun w' F v => T2 w' F v q252) (c_breadth_failed Fr.lt (show inI64 (3) from by decide) r251 e253) rfl rfl fun v258 w254 O255 S256 h257 => ?_
         obtain ⟨v259, v260, rfl, h261, h262⟩ := h257
         obtain ⟨cs263, rfl, v264, rfl, h265, r268, r269, r270⟩ := h261
         obtain ⟨A266, c267, rfl⟩ := h265.form
         obtain ⟨rfl, r271⟩ := h262.err
         refine o_ex rfl rfl rfl (o_ex rfl rfl rfl ?_)
         replace h29 := ((((h29.st S201).st S204).st S206).st S236).st S256
         refine l_store h29 rfl rfl rfl (Nat.le_of_ble_eq_true rfl) (by first | exact allOne rfl | simp [Value.cells, Value.oneCell', errV_one]) fun w272 S273 h29 => ?_
         replace h29 : Lc 3 w272 O255 g25 30 [(.int .i64 q252.1.verdict), (.slice A266 q252.1.plan.length c267), (.int .i64 q252.1.cost), (.int .i64 q252.1.expanded)] := h29
         refine o_as rfl rfl (o_z ?_)
         refine ewp_ret ?_
         obtain rfl := sm hf179
         obtain rfl := hret180 _ rfl
         obtain rfl := sm (fin_ret hf58)
         obtain rfl := hret59 _ rfl
         obtain rfl := sm (fin_ret hm)
         replace hB := (((((hB.st S201).st S204).st S206).st S236).st S256).st S273
         replace h265 := h265.st S273
         exact ret2 rfl (res_cell (cs := [(.int .i64 q252.1.verdict), (.slice A266 q252.1.plan.length c267), (.int .i64 q252.1.cost), (.int .i64 q252.1.expanded)]) rfl rfl h29.1.cellsAt) (res_tmp rfl) ⟨hB.ext, _, _, rfl, (Vb.mono (F := Fr 0 w272 O255) (Vb.ofAgg (cs := [(.int .i64 q252.1.verdict), (.slice A266 q252.1.plan.length c267), (.int .i64 q252.1.cost), (.int .i64 q252.1.expanded)]) (x := q252.1) rfl ⟨_, rfl, h265, r268, r269, r270⟩) hB.out), (vErr r271)⟩
        ·
         replace hf179 := im hf179 c248
         refine o_z ?_
         refine ewp_false rfl (ewp_skip (ewp_seq (ewp_region (o_mv rfl rfl (o_z ?_)))))
         refine ewp_cond rfl (fun c274 => ?_) (fun c274 => ?_)
         ·
          replace hf179 := ip hf179 c274
          refine ewp_seq (ewp_drawX [(8, [5])] O235 ?_)
          refine x_pre (fuel := 2) [] [(0, true), (1, true), (2, true), (3, true), (4, true), (5, true), (6, true), (7, true)] (by kernel_rfl) rfl ?_
          refine h_mv rfl rfl rfl (h_nc rfl rfl rfl (h_fa rfl rfl rfl ?_))
          replace h207 := h207.st S236
          refine h_ldC (hc := fun w' ⟨O', hq⟩ => Blk.cell (i := 4) ((h207.st hq (by decide)).1) rfl) rfl rfl rfl ?_
          refine h_mv rfl rfl rfl (h_mv rfl rfl rfl (h_fa rfl rfl rfl ?_))
          replace h202 := h202.st S236
          refine h_ldC (hc := fun w' ⟨O', hq⟩ => Blk.cell (i := 0) ((h202.st hq (by decide)).1) rfl) rfl rfl rfl ?_
          refine hwp_nilT ?_
          refine x_one (i := 8) (by kernel_rfl) rfl ?_
          obtain ⟨q275, e276, hf179⟩ := bs hf179
          refine l_callM (O := O235) (c_registry_Registry_SetLink h239 r246 r65 r197 (show inI64 (0) from by decide) e276) rfl rfl fun v281 w277 O278 S279 h280 => ?_
          obtain ⟨h282, h283⟩ := h280
          obtain ⟨rfl, r284⟩ := h283.err
          have hZ := S279.lst [5] (fun _ h => by cases h; decide)
          refine x_go [] hZ (by kernel_rfl) ?_
          refine x_pre (fuel := 0) [] [(9, true)] (by kernel_rfl) rfl ?_
          refine h_as rfl rfl rfl (hwp_nilT ?_)
          refine x_nil (by kernel_rfl) ?_
          refine ewp_seq (ewp_region (o_mv rfl rfl (o_rnS rfl rfl (fun c285 => ?_) fun c285 => ?_)))
          ·
           replace hf179 := ip hf179 c285
           refine o_z ?_
           refine ewp_true rfl (ewp_seq (ewp_region (o_bd rfl rfl rfl ?_)))
           refine o_mv rfl rfl ?_
           replace h29 := ((((h29.st S201).st S204).st S206).st S236).st S279
           refine l_store h29 rfl rfl rfl (Nat.le_of_ble_eq_true rfl) (by first | exact allOne rfl | simp [Value.cells, Value.oneCell', errV_one]) fun w286 S287 h29 => ?_
           replace h29 : Lc 3 w286 O278 g25 30 [(.int .i64 0), (.slice none 0 0), (.int .i64 0), (.int .i64 0)] := h29
           refine o_as rfl rfl (o_z ?_)
           refine ewp_ret ?_
           obtain rfl := sm hf179
           obtain rfl := hret180 _ rfl
           obtain rfl := sm (fin_ret hf58)
           obtain rfl := hret59 _ rfl
           obtain rfl := sm (fin_ret hm)
           replace hB := (((((hB.st S201).st S204).st S206).st S236).st S279).st S287
           exact ret2 rfl (res_cell (cs := [(.int .i64 0), (.slice none 0 0), (.int .i64 0), (.int .i64 0)]) rfl rfl h29.1.cellsAt) (res_tmp rfl) ⟨hB.ext, _, _, rfl, (Vb.mono (F := Fr 0 w286 O278) (Vb.ofAgg (cs := [(.int .i64 0), (.slice none 0 0), (.int .i64 0), (.int .i64 0)]) (x := (⟨0, ([] : List Int), 0, 0⟩ : Rsl)) rfl ⟨_, rfl, (Vb.nil _ _), (show inI64 0 from by decide), (show inI64 0 from by decide), (show inI64 0 from by decide)⟩) hB.out), (vErr r284)⟩
          ·
           replace hf179 := im hf179 c285
           refine o_z ?_
           refine ewp_false rfl (ewp_skip ?_)
           replace h207 := h207.st S279
           replace h210 := (h210.st S236).st S279
           replace h214 := (h214.st S236).st S279
           replace h218 := (h218.st S236).st S279
           replace h222 := (h222.st S236).st S279
           replace h229 := (h229.st S236).st S279
           obtain ⟨O288, S289, hz291, ha292, h290⟩ := Spc.shut (x := (⟨(⟨s171.t.vars, s171.t.init, s171.t.goal, s171.t.ops⟩ : Tsk), q275.2, s171.gen⟩ : Spc)) (l0 := 4) (l1 := 5) (by decide) h207 h210 h214 h218 h222 h282 h229
           obtain rfl := sm hf179
           refine (?_ : Exists _)
           replace hB := (((((hB.st S201).st S204).st S206).st S236).st S279).st S289
           replace h8 := (((((h8.st S201).st S204).st S206).st S236).st S279).st S289
           replace h11 := (((((h11.st S201).st S204).st S206).st S236).st S279).st S289
           replace h14 := (((((h14.st S201).st S204).st S206).st S236).st S279).st S289
           replace h17 := (((((h17.st S201).st S204).st S206).st S236).st S279).st S289
           replace h24 := (((((h24.st S201).st S204).st S206).st S236).st S279).st S289
           replace h29 := (((((h29.st S201).st S204).st S206).st S236).st S279).st S289
           replace h158 := (((((h158.st S201).st S204).st S206).st S236).st S279).st S289
           exact ⟨_, (), rfl, ⟨rfl, rfl, rfl, rfl, rfl, rfl, rfl, rfl, trivial⟩, _, hB, h24, h8, h11, h14, h17, h29, h290, h158⟩
         ·
          replace hf179 := im' hf179 c274
          refine ewp_skip ?_
          replace h207 := h207.st S236
          replace h210 := h210.st S236
          replace h214 := h214.st S236
          replace h218 := h218.st S236
          replace h222 := h222.st S236
          replace h229 := h229.st S236
          obtain ⟨O293, S294, hz296, ha297, h295⟩ := Spc.shut (x := (⟨(⟨s171.t.vars, s171.t.init, s171.t.goal, s171.t.ops⟩ : Tsk), q232.2.2.2, s171.gen⟩ : Spc)) (l0 := 4) (l1 := 5) (by decide) h207 h210 h214 h218 h222 h239 h229
          obtain rfl := sm hf179
          refine (?_ : Exists _)
          replace hB := ((((hB.st S201).st S204).st S206).st S236).st S294
          replace h8 := ((((h8.st S201).st S204).st S206).st S236).st S294
          replace h11 := ((((h11.st S201).st S204).st S206).st S236).st S294
          replace h14 := ((((h14.st S201).st S204).st S206).st S236).st S294
          replace h17 := ((((h17.st S201).st S204).st S206).st S236).st S294
          replace h24 := ((((h24.st S201).st S204).st S206).st S236).st S294
          replace h29 := ((((h29.st S201).st S204).st S206).st S236).st S294
          replace h158 := ((((h158.st S201).st S204).st S206).st S236).st S294
          exact ⟨_, (), rfl, ⟨rfl, rfl, rfl, rfl, rfl, rfl, rfl, rfl, trivial⟩, _, hB, h24, h8, h11, h14, h17, h29, h295, h158⟩
       replace hB := (((((hB.st S68).st S98).st S109).st S127).st S157).st S165
       replace h8 := (((((h8.st S68).st S98).st S109).st S127).st S157).st S165
       replace h11 := (((((h11.st S68).st S98).st S109).st S127).st S157).st S165
       replace h14 := ((h14.st S127).st S157).st S165
       replace h17 := (((((h17.st S68).st S98).st S109).st S127).st S157).st S165
       replace h24 := ((h24.st S127).st S157).st S165
       replace h29 := (((((h29.st S68).st S98).st S109).st S127).st S157).st S165
       rintro l298 w299 ⟨s302, x303, rfl, hs301, O300, hB, h24, h8, h11, h14, h17, h29, h185⟩
       replace hf58 := fin_done hf58
       refine ewp_sub _ hs301 ?_
       refine ewp_region (o_mv rfl rfl ?_)
       obtain ⟨n304, e305, hf58⟩ := bs hf58
       have r306 := (chkI_rng e305)
       refine o_adE (he := e305) rfl rfl rfl ?_
       refine o_as rfl rfl (o_z ?_)
       obtain rfl := sm hf58
       refine (?_ : Exists _)
       exact ⟨_, (), rfl, ⟨rfl, rfl, rfl, rfl, rfl, trivial⟩, _, hB, h24, h8, h11, h14, h17, h29, h185, r306⟩
     replace hf58 := iT hf58
     refine o_z ?_
     refine ewp_true rfl (ewp_seq (ewp_region (o_mv rfl rfl (o_mv rfl rfl (o_mv rfl rfl ?_)))))
     replace h69 := (h69.st S109).st S127
     replace h72 := ((h72.st S98).st S109).st S127
     replace h76 := ((h76.st S98).st S109).st S127
     replace h80 := ((h80.st S98).st S109).st S127
     replace h84 := ((h84.st S98).st S109).st S127
     replace h91 := ((h91.st S98).st S109).st S127
     replace h112 := h112.st S127
     obtain ⟨O307, S308, hz310, ha311, h309⟩ := Spc.shut (x := s50.2) (l0 := 4) (l1 := 5) (by decide) h69 h72 h76 h80 h84 h112 h91
     obtain ⟨q312, e313, hf58⟩ := bs hf58
     refine l_callM (O := O307) (c_breadth_space_solved h309 r65 r65 e313) rfl rfl fun v318 w314 O315 S316 h317 => ?_
     obtain ⟨v320, v321, h319, rfl, h322, h323⟩ := h317
     obtain ⟨cs324, rfl, v325, rfl, h326, r329, r330, r331⟩ := h322
     obtain ⟨A327, c328, rfl⟩ := h326.form
     obtain ⟨rfl, r332⟩ := h323.err
     refine o_ex rfl rfl rfl (o_ex rfl rfl rfl ?_)
     replace h29 := (((((h29.st S68).st S98).st S109).st S127).st S308).st S316
     refine l_store h29 rfl rfl rfl (Nat.le_of_ble_eq_true rfl) (by first | exact allOne rfl | simp [Value.cells, Value.oneCell', errV_one]) fun w333 S334 h29 => ?_
     replace h29 : Lc 3 w333 O315 g25 30 [(.int .i64 q312.1.verdict), (.slice A327 q312.1.plan.length c328), (.int .i64 q312.1.cost), (.int .i64 q312.1.expanded)] := h29
     refine o_as rfl rfl (o_z ?_)
     refine ewp_ret ?_
     obtain rfl := sm hf58
     obtain rfl := hret59 _ rfl
     obtain rfl := sm (fin_ret hm)
     replace hB := ((((((hB.st S68).st S98).st S109).st S127).st S308).st S316).st S334
     replace h326 := h326.st S334
     exact ret2 rfl (res_cell (cs := [(.int .i64 q312.1.verdict), (.slice A327 q312.1.plan.length c328), (.int .i64 q312.1.cost), (.int .i64 q312.1.expanded)]) rfl rfl h29.1.cellsAt) (res_tmp rfl) ⟨hB.ext, _, _, rfl, (Vb.mono (F := Fr 0 w333 O315) (Vb.ofAgg (cs := [(.int .i64 q312.1.verdict), (.slice A327 q312.1.plan.length c328), (.int .i64 q312.1.cost), (.int .i64 q312.1.expanded)]) (x := q312.1) rfl ⟨_, rfl, h326, r329, r330, r331⟩) hB.out), (vErr r332)⟩
   ·
    replace hf58 := im hf58 c104
    refine o_z ?_
    refine ewp_false rfl (ewp_exit ?_)
    replace h69 := h69.st S98
    replace h72 := h72.st S98
    replace h76 := h76.st S98
    replace h80 := h80.st S98
    replace h84 := h84.st S98
    replace h91 := h91.st S98
    obtain ⟨O335, S336, hz338, ha339, h337⟩ := Spc.shut (x := s50.2) (l0 := 4) (l1 := 5) (by decide) h69 h72 h76 h80 h84 h101 h91
    obtain rfl := sm hf58
    refine (?_ : Exists _)
    replace hB := ((hB.st S68).st S98).st S336
    replace h29 := ((h29.st S68).st S98).st S336
    exact ⟨_, (), hbrk60 _ rfl, ⟨rfl, rfl, trivial⟩, _, hB, h29, h337, r65⟩
  replace hB := ((hB.st S23).st S28).st S34
  replace h29 := h29.st S34
  rintro l340 w341 ⟨s344, x345, rfl, hs343, O342, hB, h29, h66, r65⟩
  replace hm := fin_done hm
  refine ewp_sub _ hs343 ?_
  refine ewp_seq (ewp_region (o_mv rfl rfl (o_nc rfl rfl ?_)))
  obtain ⟨O346, v350, v354, v358, v362, v366, v369, S347, ha349, h348, h351, h355, h359, h363, h367, h370⟩ := Spc.opn h66 4 5 (by decide)
  obtain ⟨A352, c353, rfl⟩ := h351.form
  obtain ⟨A356, c357, rfl⟩ := h355.form
  obtain ⟨A360, c361, rfl⟩ := h359.form
  obtain ⟨A364, c365, rfl⟩ := h363.form
  obtain ⟨p368, rfl⟩ := h367.ptr
  obtain ⟨p371, rfl, hq372⟩ := h370.ptr
  refine o_fa rfl rfl (o_ld (hc := Blk.cell (i := 4) (h348.1) rfl) rfl rfl ?_)
  obtain ⟨q373, e374, hm⟩ := bs hm
  refine l_callM (O := O346) (c_registry_Registry_Len h367 e374) rfl rfl fun v379 w375 O376 S377 h378 => ?_
  obtain ⟨h380, h381⟩ := h378
  obtain ⟨rfl, r382⟩ := h381.int
  obtain ⟨q383, e384, hm⟩ := bs hm
  refine l_call (O := O376) (R := fun w' F v => T2 w' F v q383) (c_breadth_failed Fr.lt (show inI64 (2) from by decide) r382 e384) rfl rfl fun v389 w385 O386 S387 h388 => ?_
  obtain ⟨v390, v391, rfl, h392, h393⟩ := h388
  obtain ⟨cs394, rfl, v395, rfl, h396, r399, r400, r401⟩ := h392
  obtain ⟨A397, c398, rfl⟩ := h396.form
  obtain ⟨rfl, r402⟩ := h393.err
  refine o_ex rfl rfl rfl (o_ex rfl rfl rfl ?_)
  replace h29 := ((h29.st S347).st S377).st S387
  refine l_store h29 rfl rfl rfl (Nat.le_of_ble_eq_true rfl) (by first | exact allOne rfl | simp [Value.cells, Value.oneCell', errV_one]) fun w403 S404 h29 => ?_
  replace h29 : Lc 3 w403 O386 g25 30 [(.int .i64 q383.1.verdict), (.slice A397 q383.1.plan.length c398), (.int .i64 q383.1.cost), (.int .i64 q383.1.expanded)] := h29
  refine o_as rfl rfl (o_z ?_)
  refine ewp_ret ?_
  obtain rfl := sm hm
  replace hB := (((hB.st S347).st S377).st S387).st S404
  replace h396 := h396.st S404
  exact ret2 rfl (res_cell (cs := [(.int .i64 q383.1.verdict), (.slice A397 q383.1.plan.length c398), (.int .i64 q383.1.cost), (.int .i64 q383.1.expanded)]) rfl rfl h29.1.cellsAt) (res_tmp rfl) ⟨hB.ext, _, _, rfl, (Vb.mono (F := Fr 0 w403 O386) (Vb.ofAgg (cs := [(.int .i64 q383.1.verdict), (.slice A397 q383.1.plan.length c398), (.int .i64 q383.1.cost), (.int .i64 q383.1.expanded)]) (x := q383.1) rfl ⟨_, rfl, h396, r399, r400, r401⟩) hB.out), (vErr r402)⟩
noncomputable def m_breadth_Uniform (x0 : Tsk) (x1 : Int) : Option (Rsl × Err) :=
  bnd (m_breadth_begin x0) fun q30 => if q30.2.n ≠ 0 then (some ((⟨0, ([] : List Int), 0, 0⟩ : Rsl), (⟨q30.2.n⟩ : Err))) else (bnd q30.1 fun o68 => bnd (lop (ρ := Rsl × Err) (fun (s78 : (List Int) × (List Bool) × Int × Int × Spc × (BxR 98 96 Itm)) => bnd (m_breadth_queue_Len s78.2.2.2.2.2.l) fun q116 => if 0 < q116 then (bnd (m_container_heap_Pop s78.2.2.2.2.2) fun q130 => bnd (atI s78.2.1 q130.1.x.id) fun a152 => if a152 = true then (some (.next (s78.1, s78.2.1, s78.2.2.1, s78.2.2.2.1, s78.2.2.2.2.1, q130.2))) else (bnd (m_registry_Registry_State s78.2.2.2.2.1.reg q130.1.x.id) fun q191 => if q191.2.n ≠ 0 then (some (.ret ((⟨0, ([] : List Int), 0, 0⟩ : Rsl), (⟨q191.2.n⟩ : Err)))) else (bnd (m_task_Holds x0.goal q191.1) fun q209 => if q209 = true then bnd (m_breadth_space_solved s78.2.2.2.2.1 q130.1.x.id s78.2.2.2.1) fun q581 => some (.ret (q581.1, (⟨q581.2.n⟩ : Err))) else if x1 ≤ s78.2.2.2.1 then (bnd (m_breadth_failed 3 s78.2.2.2.1) fun q217 => some (.ret (q217.1, (⟨q217.2.n⟩ : Err)))) else (bnd (atI s78.2.1 q130.1.x.id) fun a239 => bnd (chkI (s78.2.2.2.1 + 1)) fun n252 => bnd (m_succgen_Generator_Successors s78.2.2.2.2.1.gen q191.1) fun q255 => bnd (rng (ρ := Ctl ((List Int) × (List Bool) × Int × Int × Spc × (BxR 98 96 Itm)) (Rsl × Err)) (fun (k275 : Nat) (a276 : Suc) (s273 : (List Int) × (List Bool) × Int × Spc × (BxR 98 96 Itm)) => bnd (m_registry_Registry_Add s273.2.2.2.1.reg a276.state) fun q346 => if q346.2.2.1.n ≠ 0 then (bnd (m_breadth_failed 3 n252) fun q363 => some (.ret (.ret (q363.1, (⟨q363.2.n⟩ : Err))))) else (bnd (atI x0.ops a276.op) fun a385 => bnd (chkI (q130.1.x.cost + a385.cost)) fun n406 => bnd (if q346.2.1 = true then (bnd (appI 8 s273.1 [n406]) fun u418 => bnd (appI 1 s273.2.1 [false]) fun u430 => some (.done (u418, u430))) else (bnd (bnd (atI s273.2.1 q346.1) fun a451 => if a451 = true then (some true) else (bnd (atI s273.1 q346.1) fun a468 => if a468 ≤ n406 then (some true) else (some false)) : Option Bool) fun y447 => if y447 = true then (some (.ret (.next (s273.1, s273.2.1, s273.2.2.1, (⟨(⟨s273.2.2.2.1.t.vars, s273.2.2.2.1.t.init, s273.2.2.2.1.t.goal, s273.2.2.2.1.t.ops⟩ : Tsk), q346.2.2.2, s273.2.2.2.1.gen⟩ : Spc), s273.2.2.2.2)))) else (some (.done (s273.1, s273.2.1)))) : Option (Fin ((List Int) × (List Bool)) (Ctl ((List Int) × (List Bool) × Int × Spc × (BxR 98 96 Itm)) (Ctl ((List Int) × (List Bool) × Int × Int × Spc × (BxR 98 96 Itm)) (Rsl × Err))))) fun y409 => fin y409 fun (s411 : (List Int) × (List Bool)) => bnd (atI s411.1 q346.1) fun a500 => bnd (m_registry_Registry_SetLink ((⟨(⟨s273.2.2.2.1.t.vars, s273.2.2.2.1.t.init, s273.2.2.2.1.t.goal, s273.2.2.2.1.t.ops⟩ : Tsk), q346.2.2.2, s273.2.2.2.1.gen⟩ : Spc).reg) q346.1 q130.1.x.id a276.op n406) fun q541 => if q541.1.n ≠ 0 then (some (.ret (.ret ((⟨0, ([] : List Int), 0, 0⟩ : Rsl), (⟨q541.1.n⟩ : Err))))) else (bnd (m_container_heap_Push s273.2.2.2.2 (⟨(⟨n406, s273.2.2.1, q346.1⟩ : Itm)⟩ : An 96 Itm)) fun q554 => bnd (chkI (s273.2.2.1 + 1)) fun n562 => some (.next ((s411.1.set (q346.1 : Int).toNat n406), s411.2, n562, (⟨(⟨(⟨(⟨s273.2.2.2.1.t.vars, s273.2.2.2.1.t.init, s273.2.2.2.1.t.goal, s273.2.2.2.1.t.ops⟩ : Tsk), q346.2.2.2, s273.2.2.2.1.gen⟩ : Spc).t.vars, (⟨(⟨s273.2.2.2.1.t.vars, s273.2.2.2.1.t.init, s273.2.2.2.1.t.goal, s273.2.2.2.1.t.ops⟩ : Tsk), q346.2.2.2, s273.2.2.2.1.gen⟩ : Spc).t.init, (⟨(⟨s273.2.2.2.1.t.vars, s273.2.2.2.1.t.init, s273.2.2.2.1.t.goal, s273.2.2.2.1.t.ops⟩ : Tsk), q346.2.2.2, s273.2.2.2.1.gen⟩ : Spc).t.goal, (⟨(⟨s273.2.2.2.1.t.vars, s273.2.2.2.1.t.init, s273.2.2.2.1.t.goal, s273.2.2.2.1.t.ops⟩ : Tsk), q346.2.2.2, s273.2.2.2.1.gen⟩ : Spc).t.ops⟩ : Tsk), q541.2, (⟨(⟨s273.2.2.2.1.t.vars, s273.2.2.2.1.t.init, s273.2.2.2.1.t.goal, s273.2.2.2.1.t.ops⟩ : Tsk), q346.2.2.2, s273.2.2.2.1.gen⟩ : Spc).gen⟩ : Spc), q554))))) q255 0 (s78.1, (s78.2.1.set (q130.1.x.id : Int).toNat true), s78.2.2.1, s78.2.2.2.2.1, q130.2)) fun res271 => fin res271 fun (s574 : (List Int) × (List Bool) × Int × Spc × (BxR 98 96 Itm)) => some (.next (s574.1, s574.2.1, s574.2.2.1, n252, s574.2.2.2.1, s574.2.2.2.2)))))) else (some (.brk (s78.1, s78.2.1, s78.2.2.1, s78.2.2.2.1, s78.2.2.2.2.1, s78.2.2.2.2.2)))) (([0] : List Int), [false], 1, 0, o68, (⟨[(⟨0, 0, 0⟩ : Itm)]⟩ : BxR 98 96 Itm))) fun res76 => fin res76 fun (s613 : (List Int) × (List Bool) × Int × Int × Spc × (BxR 98 96 Itm)) => bnd (m_breadth_failed 2 s613.2.2.2.1) fun q615 => some (q615.1, (⟨q615.2.n⟩ : Err)))
theorem c_breadth_Uniform {w : World} {A : Nat → Prop} (hA : ∀ k, A k → k < w.heap.size) {vx0 : Value} {x0 : Tsk} (hx0 : Vb w A vx0 x0) {x1 : Int} (rx1 : inI64 x1) {r : Rsl × Err} (hm : m_breadth_Uniform x0 x1 = some r) :
    Fn Try.prog 20 [vx0, (.int .i64 x1)] w fun v w' => Ext w w' ∧ T2 w' (upA A w w') v r := by
 obtain ⟨O, hB, hA0⟩ := enter hA
 replace hx0 := hx0.mono hA0
 obtain ⟨cs3, rfl, v4, v5, v6, v7, rfl, h8, h11, h14, h17⟩ := hx0
 obtain ⟨A9, c10, rfl⟩ := h8.form
 obtain ⟨A12, c13, rfl⟩ := h11.form
 obtain ⟨A15, c16, rfl⟩ := h14.form
 obtain ⟨A18, c19, rfl⟩ := h17.form
 refine fn_enter Try.func20 rfl Try.ntmps20 rfl ?_
 unfold m_breadth_Uniform at hm
 refine ewp_seq (ewp_region (l_box 2 O rfl rfl fun g20 w21 O22 S23 h24 => ?_))
 replace h24 : Lc 2 w21 O22 g20 26 [(.slice A9 x0.vars.length c10), (.slice A12 x0.init.length c13), (.slice A15 x0.goal.length c16), (.slice A18 x0.ops.length c19)] := h24
 refine l_alloc 3 O22 rfl fun g25 w26 O27 S28 h29 => ?_
 refine o_as rfl rfl (o_z ?_)
 refine ewp_seq (ewp_region ?_)
 replace h24 := h24.st S28
 refine o_la (hl := rfl) (hc := (h24.1).cellsAt) rfl rfl ?_
 obtain ⟨q30, e31, hm⟩ := bs hm
 replace h8 := (h8.st S23).st S28
 replace h11 := (h11.st S23).st S28
 replace h14 := (h14.st S23).st S28
 replace h17 := (h17.st S23).st S28
 refine l_callM (O := O27) (c_breadth_begin (Vb.ofAgg (cs := [(.slice A9 x0.vars.length c10), (.slice A12 x0.init.length c13), (.slice A15 x0.goal.length c16), (.slice A18 x0.ops.length c19)]) (x := x0) rfl ⟨_, _, _, _, rfl, h8, h11, h14, h17⟩) 4 (by decide) e31) rfl rfl fun v36 w32 O33 S34 h35 => ?_
 obtain ⟨v37, v38, rfl, h39, h40⟩ := h35
 obtain ⟨rfl, r41⟩ := h40.err
 refine o_mv rfl rfl (o_ex rfl rfl rfl (o_ex rfl rfl rfl (o_as rfl rfl (o_as rfl rfl (o_z ?_)))))
 refine ewp_seq (ewp_seq (ewp_region (o_mv rfl rfl (o_rnS rfl rfl (fun c42 => ?_) fun c42 => ?_))))
 ·
  replace hm := ip hm c42
  refine o_z ?_
  refine ewp_true rfl (ewp_seq (ewp_region (o_bd rfl rfl rfl ?_)))
  refine o_mv rfl rfl ?_
  replace h29 := h29.st S34
  refine l_store h29 rfl rfl rfl (Nat.le_of_ble_eq_true rfl) (by first | exact allOne rfl | simp [Value.cells, Value.oneCell', errV_one]) fun w43 S44 h29 => ?_
  replace h29 : Lc 3 w43 O33 g25 30 [(.int .i64 0), (.slice none 0 0), (.int .i64 0), (.int .i64 0)] := h29
  refine o_as rfl rfl (o_z ?_)
  refine ewp_ret ?_
  obtain rfl := sm hm
  replace hB := (((hB.st S23).st S28).st S34).st S44
  exact ret2 rfl (res_cell (cs := [(.int .i64 0), (.slice none 0 0), (.int .i64 0), (.int .i64 0)]) rfl rfl h29.1.cellsAt) (res_tmp rfl) ⟨hB.ext, _, _, rfl, (Vb.mono (F := Fr 0 w43 O33) (Vb.ofAgg (cs := [(.int .i64 0), (.slice none 0 0), (.int .i64 0), (.int .i64 0)]) (x := (⟨0, ([] : List Int), 0, 0⟩ : Rsl)) rfl ⟨_, rfl, (Vb.nil _ _), (show inI64 0 from by decide), (show inI64 0 from by decide), (show inI64 0 from by decide)⟩) hB.out), (vErr r41)⟩
 ·
  replace hm := im hm c42
  refine o_z ?_
  refine ewp_false rfl (ewp_skip (ewp_seq (ewp_region (l_bslice 5 (by decide) O33 (xs := (([0] : List Int) : List Int)) rfl rfl rfl rfl ⟨(vInt (show inI64 (0) from by decide)), trivial⟩ (by decide) (by decide) rfl fun g45 w46 O47 S48 h49 => ?_))))
  refine l_bslice 6 (by decide) O47 (xs := ([false] : List Bool)) rfl rfl rfl rfl ⟨vBool, trivial⟩ (by decide) (by decide) rfl fun g51 w52 O53 S54 h55 => ?_
  refine o_as rfl rfl (o_as rfl rfl (o_z ?_))
  refine ewp_seq (ewp_region (o_bd rfl rfl rfl ?_))
  refine l_bslice 7 (by decide) O53 (xs := ([(⟨0, 0, 0⟩ : Itm)] : List Itm)) rfl rfl rfl rfl ⟨(Vb.ofAgg (cs := [(.int .i64 0), (.int .i64 0), (.int .i64 0)]) (x := (⟨0, 0, 0⟩ : Itm)) rfl ⟨rfl, (show inI64 0 from by decide), (show inI64 0 from by decide), (show inI64 0 from by decide)⟩), trivial⟩ (by decide) (by decide) rfl fun g57 w58 O59 S60 h61 => ?_
  refine l_box 8 O59 rfl rfl fun g63 w64 O65 S66 h67 => ?_
  refine o_as rfl rfl (o_z ?_)
  refine ewp_seq (ewp_region (o_as rfl rfl (o_as rfl rfl (o_z ?_))))
  refine ewp_seq ?_
  obtain ⟨o68, e69, hm⟩ := bs hm
  replace h39 := (((h39.st S48).st S54).st S60).st S66
  rw [e69] at h39
  obtain ⟨p70, rfl⟩ := Ob.ptr h39
  replace h61 := h61.st S66
  obtain ⟨O71, S72, hz74, ha75, h73⟩ := BxR.shut (x := (⟨[(⟨0, 0, 0⟩ : Itm)]⟩ : BxR 98 96 Itm)) (l0 := 8) (l1 := 7) (by decide) h67 h61
  obtain ⟨res76, hL77, hm⟩ := bs hm
  refine ewp_join (aft res76 (fun (s78 : (List Int) × (List Bool) × Int × Int × Spc × (BxR 98 96 Itm)) (x79 : (Option Addr × Nat) × (Option Addr × Nat)) => [(4, (.pointer (some ⟨g25, 0, none⟩))), (12, (.int .i64 s78.2.2.2.1))]) (fun s78 x79 w' => ∃ O' : Lab, Bs w A w' O' ∧ Lc 3 w' O' g25 30 [(.int .i64 0), (.slice none 0 0), (.int .i64 0), (.int .i64 0)] ∧ inI64 s78.2.2.1 ∧ inI64 s78.2.2.2.1)) ?_ ?_
  ·
   refine ewp_block ?_
   replace hB := (((((((hB.st S23).st S28).st S34).st S48).st S54).st S60).st S66).st S72
   replace h8 := (((((h8.st S34).st S48).st S54).st S60).st S66).st S72
   replace h11 := (((((h11.st S34).st S48).st S54).st S60).st S66).st S72
   replace h14 := (((((h14.st S34).st S48).st S54).st S60).st S66).st S72
   replace h17 := (((((h17.st S34).st S48).st S54).st S60).st S66).st S72
   replace h24 := (((((h24.st S34).st S48).st S54).st S60).st S66).st S72
   replace h29 := (((((h29.st S34).st S48).st S54).st S60).st S66).st S72
   replace h39 := h39.st S72
   replace h49 := (((h49.st S54).st S60).st S66).st S72
   replace h55 := ((h55.st S60).st S66).st S72
   refine ewp_lop (σ := (List Int) × (List Bool) × Int × Int × Spc × (BxR 98 96 Itm)) (X := (Option Addr × Nat) × (Option Addr × Nat)) hL77 (fun (s78 : (List Int) × (List Bool) × Int × Int × Spc × (BxR 98 96 Itm)) (x79 : (Option Addr × Nat) × (Option Addr × Nat)) => [(1, (.int .i64 x1)), (2, (.pointer (some ⟨g20, 0, none⟩))), (4, (.pointer (some ⟨g25, 0, none⟩))), (6, (.pointer (some ⟨p70, 0, none⟩))), (8, (.slice x79.1.1 s78.1.length x79.1.2)), (9, (.slice x79.2.1 s78.2.1.length x79.2.2)), (10, (.pointer (some ⟨g63, 0, none⟩))), (11, (.int .i64 s78.2.2.1)), (12, (.int .i64 s78.2.2.2.1))]) _ (fun s78 x79 w' => ∃ O' : Lab, Bs w A w' O' ∧ Lc 2 w' O' g20 26 [(.slice A9 x0.vars.length c10), (.slice A12 x0.init.length c13), (.slice A15 x0.goal.length c16), (.slice A18 x0.ops.length c19)] ∧ Vb w' (Fr 0 w' O') (.slice A9 x0.vars.length c10) x0.vars ∧ Vb w' (Fr 0 w' O') (.slice A12 x0.init.length c13) x0.init ∧ Vb w' (Fr 0 w' O') (.slice A15 x0.goal.length c16) x0.goal ∧ Vb w' (Fr 0 w' O') (.slice A18 x0.ops.length c19) x0.ops ∧ Lc 3 w' O' g25 30 [(.int .i64 0), (.slice none 0 0), (.int .i64 0), (.int .i64 0)] ∧ Ob 4 w' O' (.pointer (some ⟨p70, 0, none⟩)) s78.2.2.2.2.1 ∧ Rw 5 w' O' 3 (.slice x79.1.1 s78.1.length x79.1.2) s78.1 ∧ Rw 6 w' O' 4 (.slice x79.2.1 s78.2.1.length x79.2.2) s78.2.1 ∧ Ob 8 w' O' (.pointer (some ⟨g63, 0, none⟩)) s78.2.2.2.2.2 ∧ inI64 s78.2.2.1 ∧ inI64 s78.2.2.2.1) _ (((some ⟨g45, 0, none⟩), 1), ((some ⟨g51, 0, none⟩), 1)) ⟨O71, hB, h24, h8, h11, h14, h17, h29, h39, h49, h55, h73, (show inI64 (1) from by decide), (show inI64 (0) from by decide)⟩ ⟨rfl, rfl, rfl, rfl, rfl, rfl, rfl, rfl, rfl, trivial⟩ ?_
   rintro s78 x79 w82 cc84 ⟨O83, hB, h24, h8, h11, h14, h17, h29, h105, h99, h101, h106, r103, r104⟩ hf86 hret87 hbrk88
   refine ewp_seq (ewp_seq (ewp_region (o_mv rfl rfl (o_nc rfl rfl ?_))))
   obtain ⟨O107, v111, S108, ha110, h109, h112⟩ := BxR.opn h106 8 9 (by decide)
   obtain ⟨A113, c114, rfl⟩ := h112.form
   refine o_ld (hc := Blk.cell (i := 0) (h109.1) rfl) rfl rfl ?_
   obtain ⟨q116, e117, hf86⟩ := bs hf86
   refine l_callA (O := O107) (A := All w82) (R := fun w' F v => Vb w' F v q116) (c_breadth_queue_Len (fun _ h => h) (h112).all e117) rfl rfl fun v122 w118 O119 S120 h121 => ?_
   obtain ⟨rfl, r123⟩ := h121.int
   refine o_gtS rfl rfl rfl (fun c124 => ?_) fun c124 => ?_
   ·
    replace hf86 := ip hf86 c124
    refine o_z ?_
    refine ewp_true rfl (ewp_skip (ewp_block (ewp_seq (ewp_region (o_mv rfl rfl (o_miA rfl rfl ?_))))))
    replace h109 := h109.st S120
    replace h112 := h112.st S120
    obtain ⟨O125, S126, hz128, ha129, h127⟩ := BxR.shut (x := s78.2.2.2.2.2) (l0 := 8) (l1 := 9) (by decide) h109 h112
    obtain ⟨q130, e131, hf86⟩ := bs hf86
    refine l_callM (O := O125) (c_container_heap_Pop h127 e131) rfl rfl fun v136 w132 O133 S134 h135 => ?_
    obtain ⟨h137, h138⟩ := h135
    obtain ⟨v139, rfl, h140⟩ := h138.any
    obtain ⟨cs141, rfl, rfl, r142, r143, r144⟩ := h140
    refine o_taA rfl rfl ?_
    refine o_mv rfl rfl (o_ex rfl rfl rfl (o_ex rfl rfl rfl (l_alloc 10 O133 rfl fun g145 w146 O147 S148 h149 => ?_)))
    refine l_store h149 rfl rfl rfl (Nat.le_of_ble_eq_true rfl) (by first | exact allOne rfl | simp [Value.cells, Value.oneCell', errV_one]) fun w150 S151 h149 => ?_
    replace h149 : Lc 10 w150 O147 g145 96 [(.int .i64 q130.1.x.cost), (.int .i64 q130.1.x.order), (.int .i64 q130.1.x.id)] := h149
    refine o_as rfl rfl (o_z ?_)
    refine ewp_seq (ewp_seq (ewp_region (o_mv rfl rfl (o_fa rfl rfl (o_ld (hc := Blk.cell (i := 2) (h149.1) rfl) rfl rfl ?_)))))
    obtain ⟨a152, e153, hf86⟩ := bs hf86
    obtain ⟨p155, x154⟩ := atI_some' e153
    replace h101 := (((((h101.st S108).st S120).st S126).st S134).st S148).st S151
    obtain ⟨b156, o157, ce158, hA159, hl160, hd161, rfl⟩ := h101.elem x154
    refine o_iaE (hA := hA159) (hj := (Int.toNat_of_nonneg p155).symm) (hlt := hl160) rfl rfl rfl ?_
    refine o_ld (hc := cat0 hd161) rfl rfl ?_
    refine o_z ?_
    refine ewp_cond rfl (fun c163 => ?_) (fun c163 => ?_)
    ·
     replace hf86 := ip hf86 c163
     refine ewp_exit ?_
     obtain rfl := sm hf86
     refine (?_ : Exists _)
     replace hB := (((((hB.st S108).st S120).st S126).st S134).st S148).st S151
     replace h8 := (((((h8.st S108).st S120).st S126).st S134).st S148).st S151
     replace h11 := (((((h11.st S108).st S120).st S126).st S134).st S148).st S151
     replace h14 := (((((h14.st S108).st S120).st S126).st S134).st S148).st S151
     replace h17 := (((((h17.st S108).st S120).st S126).st S134).st S148).st S151
     replace h24 := (((((h24.st S108).st S120).st S126).st S134).st S148).st S151
     replace h29 := (((((h29.st S108).st S120).st S126).st S134).st S148).st S151
     replace h99 := (((((h99.st S108).st S120).st S126).st S134).st S148).st S151
     replace h105 := (((((h105.st S108).st S120).st S126).st S134).st S148).st S151
     replace h137 := (h137.st S148).st S151
     exact ⟨_, ((x79.1.1, x79.1.2), (x79.2.1, x79.2.2)), rfl, ⟨rfl, rfl, rfl, rfl, rfl, rfl, rfl, rfl, rfl, trivial⟩, _, hB, h24, h8, h11, h14, h17, h29, h105, h99, h101, h137, r103, r104⟩
    ·
     replace hf86 := im' hf86 c163
     refine ewp_skip (ewp_seq ?_)
     replace h105 := (((((h105.st S108).st S120).st S126).st S134).st S148).st S151
     obtain ⟨O164, v168, v172, v176, v180, v184, v187, S165, ha167, h166, h169, h173, h177, h181, h185, h188⟩ := Spc.opn h105 4 11 (by decide)
     obtain ⟨A170, c171, rfl⟩ := h169.form
     obtain ⟨A174, c175, rfl⟩ := h173.form
     obtain ⟨A178, c179, rfl⟩ := h177.form
     obtain ⟨A182, c183, rfl⟩ := h181.form
     obtain ⟨p186, rfl⟩ := h185.ptr
     obtain ⟨p189, rfl, hq190⟩ := h188.ptr
     refine ewp_drawX [(6, [11])] O164 ?_
     refine x_pre (fuel := 6) [] [(0, true), (1, true), (2, true), (3, true), (4, true), (5, true)] (by kernel_rfl) rfl ?_
     refine h_mv rfl rfl rfl (h_nc rfl rfl rfl (h_fa rfl rfl rfl (h_ldC (hc := fun w' ⟨O', hq⟩ => Blk.cell (i := 4) ((h166.st hq (by decide)).1) rfl) rfl rfl rfl ?_)))
     refine h_fa rfl rfl rfl ?_
     replace h149 := h149.st S165
     refine h_ldC (hc := fun w' ⟨O', hq⟩ => Blk.cell (i := 2) ((h149.st hq (by decide)).1) rfl) rfl rfl rfl ?_
     refine hwp_nilT ?_
     refine x_one (i := 6) (by kernel_rfl) rfl ?_
     obtain ⟨q191, e192, hf86⟩ := bs hf86
     refine l_callM (O := O164) (c_registry_Registry_State h185 r144 e192) rfl rfl fun v197 w193 O194 S195 h196 => ?_
     obtain ⟨v199, v200, h198, rfl, h201, h202⟩ := h196
     obtain ⟨A203, c204, rfl⟩ := h201.form
     obtain ⟨rfl, r205⟩ := h202.err
     have hZ := S195.lst [11] (fun _ h => by cases h; decide)
     refine x_go [] hZ (by kernel_rfl) ?_
     refine x_pre (fuel := 0) [] [(7, true), (8, true), (9, true), (10, true), (11, true)] (by kernel_rfl) rfl ?_
     refine h_mv rfl rfl rfl (h_ex rfl rfl rfl rfl (h_ex rfl rfl rfl rfl (h_as rfl rfl rfl (h_as rfl rfl rfl (hwp_nilT ?_)))))
     refine x_nil (by kernel_rfl) ?_
     refine ewp_seq (ewp_seq (ewp_region (o_mv rfl rfl (o_rnS rfl rfl (fun c206 => ?_) fun c206 => ?_))))
     ·
      replace hf86 := ip hf86 c206
      refine o_z ?_
      refine ewp_true rfl (ewp_seq (ewp_region (o_bd rfl rfl rfl ?_)))
      refine o_mv rfl rfl ?_
      replace h29 := (((((((h29.st S108).st S120).st S126).st S134).st S148).st S151).st S165).st S195
      refine l_store h29 rfl rfl rfl (Nat.le_of_ble_eq_true rfl) (by first | exact allOne rfl | simp [Value.cells, Value.oneCell', errV_one]) fun w207 S208 h29 => ?_
      replace h29 : Lc 3 w207 O194 g25 30 [(.int .i64 0), (.slice none 0 0), (.int .i64 0), (.int .i64 0)] := h29
      refine o_as rfl rfl (o_z ?_)
      refine ewp_ret ?_
      obtain rfl := sm hf86
      obtain rfl := hret87 _ rfl
      obtain rfl := sm (fin_ret hm)
      replace hB := ((((((((hB.st S108).st S120).st S126).st S134).st S148).st S151).st S165).st S195).st S208
      exact ret2 rfl (res_cell (cs := [(.int .i64 0), (.slice none 0 0), (.int .i64 0), (.int .i64 0)]) rfl rfl h29.1.cellsAt) (res_tmp rfl) ⟨hB.ext, _, _, rfl, (Vb.mono (F := Fr 0 w207 O194) (Vb.ofAgg (cs := [(.int .i64 0), (.slice none 0 0), (.int .i64 0), (.int .i64 0)]) (x := (⟨0, ([] : List Int), 0, 0⟩ : Rsl)) rfl ⟨_, rfl, (Vb.nil _ _), (show inI64 0 from by decide), (show inI64 0 from by decide), (show inI64 0 from by decide)⟩) hB.out), (vErr r205)⟩
     ·
      replace hf86 := im hf86 c206
      refine o_z ?_
      refine ewp_false rfl (ewp_skip (ewp_seq (ewp_seq (ewp_region (o_fa rfl rfl ?_)))))
      replace h24 := (((((((h24.st S108).st S120).st S126).st S134).st S148).st S151).st S165).st S195
      refine o_ld (hc := Blk.cell (i := 2) (h24.1) rfl) rfl rfl ?_
      refine o_mv rfl rfl ?_
      obtain ⟨q209, e210, hf86⟩ := bs hf86
      replace h14 := (((((((h14.st S108).st S120).st S126).st S134).st S148).st S151).st S165).st S195
      refine l_callA (O := O194) (A := All w193) (R := fun w' F v => Vb w' F v q209) (c_task_Holds (fun _ h => h) (Vb.mono (F := Fr 0 w193 O194) h14 Fr.lt) (Vb.mono (F := Fr 0 w193 O194) h201 Fr.lt) e210) rfl rfl fun v215 w211 O212 S213 h214 => ?_
      obtain rfl := h214.bool
      cases q209
      case false =>
       replace hf86 := iF hf86
       refine o_z ?_
       refine ewp_false rfl (ewp_skip (ewp_seq (ewp_seq (ewp_region (o_mv rfl rfl (o_mv rfl rfl (o_geS rfl rfl rfl (fun c216 => ?_) fun c216 => ?_)))))))
       ·
        replace hf86 := ip hf86 c216
        refine o_z ?_
        refine ewp_true rfl (ewp_seq (ewp_region (o_mv rfl rfl ?_)))
        obtain ⟨q217, e218, hf86⟩ := bs hf86
        refine l_call (O := O212) (R := fun w' F v => T2 w' F v q217) (c_breadth_failed Fr.lt (show inI64 (3) from by decide) r104 e218) rfl rfl fun v223 w219 O220 S221 h222 => ?_
        obtain ⟨v224, v225, rfl, h226, h227⟩ := h222
        obtain ⟨cs228, rfl, v229, rfl, h230, r233, r234, r235⟩ := h226
        obtain ⟨A231, c232, rfl⟩ := h230.form
        obtain ⟨rfl, r236⟩ := h227.err
        refine o_ex rfl rfl rfl (o_ex rfl rfl rfl ?_)
        replace h29 := (((((((((h29.st S108).st S120).st S126).st S134).st S148).st S151).st S165).st S195).st S213).st S221
        refine l_store h29 rfl rfl rfl (Nat.le_of_ble_eq_true rfl) (by first | exact allOne rfl | simp [Value.cells, Value.oneCell', errV_one]) fun w237 S238 h29 => ?_
        replace h29 : Lc 3 w237 O220 g25 30 [(.int .i64 q217.1.verdict), (.slice A231 q217.1.plan.length c232), (.int .i64 q217.1.cost), (.int .i64 q217.1.expanded)] := h29
        refine o_as rfl rfl (o_z ?_)
        refine ewp_ret ?_
        obtain rfl := sm hf86
        obtain rfl := hret87 _ rfl
        obtain rfl := sm (fin_ret hm)
        replace hB := ((((((((((hB.st S108).st S120).st S126).st S134).st S148).st S151).st S165).st S195).st S213).st S221).st S238
        replace h230 := h230.st S238
        exact ret2 rfl (res_cell (cs := [(.int .i64 q217.1.verdict), (.slice A231 q217.1.plan.length c232), (.int .i64 q217.1.cost), (.int .i64 q217.1.expanded)]) rfl rfl h29.1.cellsAt) (res_tmp rfl) ⟨hB.ext, _, _, rfl, (Vb.mono (F := Fr 0 w237 O220) (Vb.ofAgg (cs := [(.int .i64 q217.1.verdict), (.slice A231 q217.1.plan.length c232), (.int .i64 q217.1.cost), (.int .i64 q217.1.expanded)]) (x := q217.1) rfl ⟨_, rfl, h230, r233, r234, r235⟩) hB.out), (vErr r236)⟩
       ·
        replace hf86 := im hf86 c216
        refine o_z ?_
        refine ewp_false rfl (ewp_skip (ewp_seq (ewp_region (o_mv rfl rfl (o_fa rfl rfl ?_)))))
        replace h149 := (h149.st S195).st S213
        refine o_ld (hc := Blk.cell (i := 2) (h149.1) rfl) rfl rfl ?_
        obtain ⟨a239, e240, hf86⟩ := bs hf86
        obtain ⟨p242, x241⟩ := atI_some' e240
        replace h101 := ((h101.st S165).st S195).st S213
        obtain ⟨b243, o244, ce245, hA246, hl247, hd248, rfl⟩ := h101.elem x241
        refine o_iaE (hA := hA246) (hj := (Int.toNat_of_nonneg p242).symm) (hlt := hl247) rfl rfl rfl ?_
        refine l_setE rfl h101 (a := true) vBool hA246 rfl rfl (lt_of_get x241) fun w250 S251 h101 => ?_
        refine o_z ?_
        refine ewp_seq (ewp_region (o_mv rfl rfl ?_))
        obtain ⟨n252, e253, hf86⟩ := bs hf86
        have r254 := (chkI_rng e253)
        refine o_adE (he := e253) rfl rfl rfl ?_
        refine o_as rfl rfl (o_z ?_)
        refine ewp_seq (ewp_region (o_mv rfl rfl (o_nc rfl rfl (o_fa rfl rfl ?_))))
        replace h166 := ((h166.st S195).st S213).st S251
        refine o_ld (hc := Blk.cell (i := 5) (h166.1) rfl) rfl rfl ?_
        refine o_mv rfl rfl ?_
        obtain ⟨q255, e256, hf86⟩ := bs hf86
        replace h188 := ((h188.st S195).st S213).st S251
        replace h201 := (h201.st S213).st S251
        refine l_call (O := O212) (R := fun w' F v => Vb w' F v q255) (c_succgen_Generator_Successors Fr.lt h188 h201 e256) rfl rfl fun v261 w257 O258 S259 h260 => ?_
        obtain ⟨A262, c263, rfl⟩ := h260.form
        refine o_ln rfl rfl ?_
        have l265 : q255.length ≤ 9223372036854775807 := Nat.le_trans h260.len.2.1 h260.len.2.2
        have r264 : inI64 (q255.length : Int) := rngNat l265
        refine o_mv rfl rfl (o_z ?_)
        replace h166 := h166.st S259
        replace h169 := (((h169.st S195).st S213).st S251).st S259
        replace h173 := (((h173.st S195).st S213).st S251).st S259
        replace h177 := (((h177.st S195).st S213).st S251).st S259
        replace h181 := (((h181.st S195).st S213).st S251).st S259
        replace h188 := h188.st S259
        replace h198 := ((h198.st S213).st S251).st S259
        obtain ⟨O266, S267, hz269, ha270, h268⟩ := Spc.shut (x := s78.2.2.2.2.1) (l0 := 4) (l1 := 11) (by decide) h166 h169 h173 h177 h181 h198 h188
        obtain ⟨res271, hL272, hf86⟩ := bs hf86
        refine ewp_join (aft res271 (fun (s273 : (List Int) × (List Bool) × Int × Spc × (BxR 98 96 Itm)) (x274 : (Option Addr × Nat) × (Option Addr × Nat)) => [(1, (.int .i64 x1)), (2, (.pointer (some ⟨g20, 0, none⟩))), (4, (.pointer (some ⟨g25, 0, none⟩))), (6, (.pointer (some ⟨p70, 0, none⟩))), (8, (.slice x274.1.1 s273.1.length x274.1.2)), (9, (.slice x274.2.1 s273.2.1.length x274.2.2)), (10, (.pointer (some ⟨g63, 0, none⟩))), (11, (.int .i64 s273.2.2.1)), (12, (.int .i64 n252))]) (fun s273 x274 w' => ∃ O' : Lab, Bs w A w' O' ∧ Lc 2 w' O' g20 26 [(.slice A9 x0.vars.length c10), (.slice A12 x0.init.length c13), (.slice A15 x0.goal.length c16), (.slice A18 x0.ops.length c19)] ∧ Vb w' (Fr 0 w' O') (.slice A9 x0.vars.length c10) x0.vars ∧ Vb w' (Fr 0 w' O') (.slice A12 x0.init.length c13) x0.init ∧ Vb w' (Fr 0 w' O') (.slice A15 x0.goal.length c16) x0.goal ∧ Vb w' (Fr 0 w' O') (.slice A18 x0.ops.length c19) x0.ops ∧ Lc 3 w' O' g25 30 [(.int .i64 0), (.slice none 0 0), (.int .i64 0), (.int .i64 0)] ∧ Ob 4 w' O' (.pointer (some ⟨p70, 0, none⟩)) s273.2.2.2.1 ∧ Rw 5 w' O' 3 (.slice x274.1.1 s273.1.length x274.1.2) s273.1 ∧ Rw 6 w' O' 4 (.slice x274.2.1 s273.2.1.length x274.2.2) s273.2.1 ∧ Ob 8 w' O' (.pointer (some ⟨g63, 0, none⟩)) s273.2.2.2.2 ∧ inI64 s273.2.2.1)) ?_ ?_
        ·
         refine ewp_block ?_
         replace hB := (((((((((((hB.st S108).st S120).st S126).st S134).st S148).st S151).st S165).st S195).st S213).st S251).st S259).st S267
         replace h8 := (((((((((((h8.st S108).st S120).st S126).st S134).st S148).st S151).st S165).st S195).st S213).st S251).st S259).st S267
         replace h11 := (((((((((((h11.st S108).st S120).st S126).st S134).st S148).st S151).st S165).st S195).st S213).st S251).st S259).st S267
         replace h14 := (((h14.st S213).st S251).st S259).st S267
         replace h17 := (((((((((((h17.st S108).st S120).st S126).st S134).st S148).st S151).st S165).st S195).st S213).st S251).st S259).st S267
         replace h24 := (((h24.st S213).st S251).st S259).st S267
         replace h29 := (((((((((((h29.st S108).st S120).st S126).st S134).st S148).st S151).st S165).st S195).st S213).st S251).st S259).st S267
         replace h99 := (((((((((((h99.st S108).st S120).st S126).st S134).st S148).st S151).st S165).st S195).st S213).st S251).st S259).st S267
         replace h101 := (h101.st S259).st S267
         replace h137 := (((((((h137.st S148).st S151).st S165).st S195).st S213).st S251).st S259).st S267
         replace h149 := ((h149.st S251).st S259).st S267
         replace h260 := h260.st S267
         refine ewp_rng (σ := (List Int) × (List Bool) × Int × Spc × (BxR 98 96 Itm)) (X := (Option Addr × Nat) × (Option Addr × Nat)) (q255.length) hL272 rfl l265 (fun (s273 : (List Int) × (List Bool) × Int × Spc × (BxR 98 96 Itm)) (x274 : (Option Addr × Nat) × (Option Addr × Nat)) => [(1, (.int .i64 x1)), (2, (.pointer (some ⟨g20, 0, none⟩))), (4, (.pointer (some ⟨g25, 0, none⟩))), (6, (.pointer (some ⟨p70, 0, none⟩))), (8, (.slice x274.1.1 s273.1.length x274.1.2)), (9, (.slice x274.2.1 s273.2.1.length x274.2.2)), (10, (.pointer (some ⟨g63, 0, none⟩))), (11, (.int .i64 s273.2.2.1)), (12, (.int .i64 n252)), (13, (.pointer (some ⟨g145, 0, none⟩))), (98, (.slice A262 q255.length c263))]) _ (fun s273 x274 w' => ∃ O' : Lab, Bs w A w' O' ∧ Lc 2 w' O' g20 26 [(.slice A9 x0.vars.length c10), (.slice A12 x0.init.length c13), (.slice A15 x0.goal.length c16), (.slice A18 x0.ops.length c19)] ∧ Vb w' (Fr 0 w' O') (.slice A9 x0.vars.length c10) x0.vars ∧ Vb w' (Fr 0 w' O') (.slice A12 x0.init.length c13) x0.init ∧ Vb w' (Fr 0 w' O') (.slice A15 x0.goal.length c16) x0.goal ∧ Vb w' (Fr 0 w' O') (.slice A18 x0.ops.length c19) x0.ops ∧ Lc 3 w' O' g25 30 [(.int .i64 0), (.slice none 0 0), (.int .i64 0), (.int .i64 0)] ∧ Ob 4 w' O' (.pointer (some ⟨p70, 0, none⟩)) s273.2.2.2.1 ∧ Rw 5 w' O' 3 (.slice x274.1.1 s273.1.length x274.1.2) s273.1 ∧ Rw 6 w' O' 4 (.slice x274.2.1 s273.2.1.length x274.2.2) s273.2.1 ∧ Ob 8 w' O' (.pointer (some ⟨g63, 0, none⟩)) s273.2.2.2.2 ∧ Lc 10 w' O' g145 96 [(.int .i64 q130.1.x.cost), (.int .i64 q130.1.x.order), (.int .i64 q130.1.x.id)] ∧ Vb w' (Fr 0 w' O') (.slice A262 q255.length c263) q255 ∧ inI64 s273.2.2.1) _ ((x79.1.1, x79.1.2), (x79.2.1, x79.2.2)) ⟨O266, hB, h24, h8, h11, h14, h17, h29, h268, h99, h101.relen, h137, h149, h260, r103⟩ ⟨rfl, rfl, rfl, rfl, rfl, rfl, rfl, (congrArg (fun n => some (Value.slice _ n _)) ((by simp : (s78.2.1.set (q130.1.x.id : Int).toNat true).length = s78.2.1.length).trans rfl).symm), rfl, rfl, rfl, rfl, rfl, trivial⟩ (fun _ _ => ⟨rfl, rfl⟩) (fun _ _ => ⟨rfl, rfl, rfl, rfl, rfl, rfl, rfl, rfl, rfl, trivial⟩) (fun _ _ _ ⟨O', hB, h24, h8, h11, h14, h17, h29, h298, h293, h295, h299, h149, h260, r297⟩ => ⟨O', hB, h24, h8, h11, h14, h17, h29, h298, h293, h295, h299, r297⟩) ⟨rfl, rfl, rfl⟩ ⟨rfl, rfl⟩ ?_
         rintro k275 a276 s273 x274 w277 cc279 hx280 ⟨O278, hB, h24, h8, h11, h14, h17, h29, h298, h293, h295, h299, h149, h260, r297⟩ hf281 hret282 hbrk283
         have rk275 : inI64 (k275 : Int) := rngK hx280 l265
         refine ewp_seq (ewp_region ?_)
         obtain ⟨b300, o301, ce302, hA303, hl304, hd305, v307, rfl, h308, r311⟩ := h260.elem' hx280
         obtain ⟨A309, c310, rfl⟩ := h308.form
         refine o_iaE (hA := hA303) (hj := rfl) (hlt := hl304) rfl rfl rfl ?_
         refine o_la (hl := rfl) (hc := hd305) rfl rfl ?_
         refine l_alloc 12 O278 rfl fun g312 w313 O314 S315 h316 => ?_
         refine l_store h316 rfl rfl rfl (Nat.le_of_ble_eq_true rfl) (by first | exact allOne rfl | simp [Value.cells, Value.oneCell', errV_one]) fun w317 S318 h316 => ?_
         replace h316 : Lc 12 w317 O314 g312 83 [(.int .i64 a276.op), (.slice A309 a276.state.length c310)] := h316
         refine o_z ?_
         refine ewp_seq ?_
         replace h298 := (h298.st S315).st S318
         obtain ⟨O319, v323, v327, v331, v335, v339, v342, S320, ha322, h321, h324, h328, h332, h336, h340, h343⟩ := Spc.opn h298 4 11 (by decide)
         obtain ⟨A325, c326, rfl⟩ := h324.form
         obtain ⟨A329, c330, rfl⟩ := h328.form
         obtain ⟨A333, c334, rfl⟩ := h332.form
         obtain ⟨A337, c338, rfl⟩ := h336.form
         obtain ⟨p341, rfl⟩ := h340.ptr
         obtain ⟨p344, rfl, hq345⟩ := h343.ptr
         refine ewp_drawX [(6, [11])] O319 ?_
         refine x_pre (fuel := 8) [] [(0, true), (1, true), (2, true), (3, true), (4, true), (5, true)] (by kernel_rfl) rfl ?_
         refine h_mv rfl rfl rfl (h_nc rfl rfl rfl (h_fa rfl rfl rfl (h_ldC (hc := fun w' ⟨O', hq⟩ => Blk.cell (i := 4) ((h321.st hq (by decide)).1) rfl) rfl rfl rfl ?_)))
         refine h_fa rfl rfl rfl ?_
         replace h316 := h316.st S320
         refine h_ldC (hc := fun w' ⟨O', hq⟩ => Blk.cell (i := 1) ((h316.st hq (by decide)).1) rfl) rfl rfl rfl ?_
         refine hwp_nilT ?_
         refine x_one (i := 6) (by kernel_rfl) rfl ?_
         obtain ⟨q346, e347, hf281⟩ := bs hf281
         replace h308 := ((h308.st S315).st S318).st S320
         refine l_callM (O := O319) (c_registry_Registry_Add h340 h308 e347) rfl rfl fun v352 w348 O349 S350 h351 => ?_
         obtain ⟨v354, v355, v356, h353, rfl, h357, h358, h359⟩ := h351
         obtain ⟨rfl, r360⟩ := h357.int
         obtain rfl := h358.bool
         obtain ⟨rfl, r361⟩ := h359.err
         have hZ := S350.lst [11] (fun _ h => by cases h; decide)
         refine x_go [] hZ (by kernel_rfl) ?_
         refine x_pre (fuel := 0) [] [(7, true), (8, true), (9, true), (10, true), (11, true), (12, true), (13, true)] (by kernel_rfl) rfl ?_
         refine h_mv rfl rfl rfl (h_ex rfl rfl rfl rfl (h_ex rfl rfl rfl rfl (h_ex rfl rfl rfl rfl (h_as rfl rfl rfl (h_as rfl rfl rfl (h_as rfl rfl rfl (hwp_nilT ?_)))))))
         refine x_nil (by kernel_rfl) ?_
         refine ewp_seq (ewp_seq (ewp_region (o_mv rfl rfl (o_rnS rfl rfl (fun c362 => ?_) fun c362 => ?_))))
         ·
          replace hf281 := ip hf281 c362
          refine o_z ?_
          refine ewp_true rfl (ewp_seq (ewp_region (o_mv rfl rfl ?_)))
          obtain ⟨q363, e364, hf281⟩ := bs hf281
          refine l_call (O := O349) (R := fun w' F v => T2 w' F v q363) (c_breadth_failed Fr.lt (show inI64 (3) from by decide) r254 e364) rfl rfl fun v369 w365 O366 S367 h368 => ?_
          obtain ⟨v370, v371, rfl, h372, h373⟩ := h368
          obtain ⟨cs374, rfl, v375, rfl, h376, r379, r380, r381⟩ := h372
          obtain ⟨A377, c378, rfl⟩ := h376.form
          obtain ⟨rfl, r382⟩ := h373.err
          refine o_ex rfl rfl rfl (o_ex rfl rfl rfl ?_)
          replace h29 := ((((h29.st S315).st S318).st S320).st S350).st S367
          refine l_store h29 rfl rfl rfl (Nat.le_of_ble_eq_true rfl) (by first | exact allOne rfl | simp [Value.cells, Value.oneCell', errV_one]) fun w383 S384 h29 => ?_
          replace h29 : Lc 3 w383 O366 g25 30 [(.int .i64 q363.1.verdict), (.slice A377 q363.1.plan.length c378), (.int .i64 q363.1.cost), (.int .i64 q363.1.expanded)] := h29
          refine o_as rfl rfl (o_z ?_)
          refine ewp_ret ?_
          obtain rfl := sm hf281
          obtain rfl := hret282 _ rfl
          obtain rfl := sm (fin_ret hf86)
          obtain rfl := hret87 _ rfl
          obtain rfl := sm (fin_ret hm)
          replace hB := (((((hB.st S315).st S318).st S320).st S350).st S367).st S384
          replace h376 := h376.st S384
          exact ret2 rfl (res_cell (cs := [(.int .i64 q363.1.verdict), (.slice A377 q363.1.plan.length c378), (.int .i64 q363.1.cost), (.int .i64 q363.1.expanded)]) rfl rfl h29.1.cellsAt) (res_tmp rfl) ⟨hB.ext, _, _, rfl, (Vb.mono (F := Fr 0 w383 O366) (Vb.ofAgg (cs := [(.int .i64 q363.1.verdict), (.slice A377 q363.1.plan.length c378), (.int .i64 q363.1.cost), (.int .i64 q363.1.expanded)]) (x := q363.1) rfl ⟨_, rfl, h376, r379, r380, r381⟩) hB.out), (vErr r382)⟩
         ·
          replace hf281 := im hf281 c362
          refine o_z ?_
          refine ewp_false rfl (ewp_skip (ewp_seq (ewp_draw (· = w348) [(0, true), (1, true), (2, true), (3, true), (4, true), (5, true), (6, true), (7, true), (8, true), (9, true), (10, true)] (by kernel_rfl) rfl (by kernel_rfl) rfl ?_)))
          refine h_fa rfl rfl rfl ?_
          replace h149 := (((h149.st S315).st S318).st S320).st S350
          refine h_ldA (hc := Blk.cell (i := 0) (h149.1) rfl) rfl rfl rfl ?_
          refine h_fa rfl rfl rfl ?_
          replace h24 := (((h24.st S315).st S318).st S320).st S350
          refine h_ldA (hc := Blk.cell (i := 3) (h24.1) rfl) rfl rfl rfl ?_
          refine h_fa rfl rfl rfl ?_
          replace h316 := h316.st S350
          refine h_ldA (hc := Blk.cell (i := 0) (h316.1) rfl) rfl rfl rfl ?_
          obtain ⟨a385, e386, hf281⟩ := bs hf281
          obtain ⟨p388, x387⟩ := atI_some' e386
          replace h17 := (((h17.st S315).st S318).st S320).st S350
          obtain ⟨b389, o390, ce391, hA392, hl393, hd394, v396, v397, rfl, h398, h401, r404, z405⟩ := h17.elem' x387
          obtain ⟨A399, c400, rfl⟩ := h398.form
          obtain ⟨A402, c403, rfl⟩ := h401.form
          refine h_iaE (hA := hA392) (hj := (Int.toNat_of_nonneg p388).symm) (hlt := hl393) rfl rfl rfl rfl ?_
          refine h_fa rfl rfl rfl (h_ldA (hc := cat1 hd394) rfl rfl rfl ?_)
          obtain ⟨n406, e407, hf281⟩ := bs hf281
          have r408 := (chkI_rng e407)
          refine h_adE (he := e407) rfl rfl rfl rfl ?_
          refine h_as rfl rfl rfl (h_z ?_)
          refine ewp_seq ?_
          obtain ⟨y409, hy410, hf281⟩ := bs hf281
          refine ewp_join (fun l' w' => ∃ (s411 : (List Int) × (List Bool)) (x412 : (Option Addr × Nat) × (Option Addr × Nat)) (O' : Lab), y409 = .done s411 ∧ subs l' [(1, (.int .i64 x1)), (2, (.pointer (some ⟨g20, 0, none⟩))), (4, (.pointer (some ⟨g25, 0, none⟩))), (6, (.pointer (some ⟨p70, 0, none⟩))), (8, (.slice x412.1.1 s411.1.length x412.1.2)), (9, (.slice x412.2.1 s411.2.length x412.2.2)), (10, (.pointer (some ⟨g63, 0, none⟩))), (11, (.int .i64 s273.2.2.1)), (12, (.int .i64 n252)), (13, (.pointer (some ⟨g145, 0, none⟩))), (18, (.pointer (some ⟨g312, 0, none⟩))), (19, (.int .i64 q346.1)), (22, (.int .i64 n406)), (98, (.slice A262 q255.length c263)), (99, (.int .i64 (q255.length : Int))), (100, (.int .i64 (k275 : Int)))] ∧ Bs w A w' O' ∧ Lc 2 w' O' g20 26 [(.slice A9 x0.vars.length c10), (.slice A12 x0.init.length c13), (.slice A15 x0.goal.length c16), (.slice A18 x0.ops.length c19)] ∧ Vb w' (Fr 0 w' O') (.slice A9 x0.vars.length c10) x0.vars ∧ Vb w' (Fr 0 w' O') (.slice A12 x0.init.length c13) x0.init ∧ Vb w' (Fr 0 w' O') (.slice A15 x0.goal.length c16) x0.goal ∧ Vb w' (Fr 0 w' O') (.slice A18 x0.ops.length c19) x0.ops ∧ Lc 3 w' O' g25 30 [(.int .i64 0), (.slice none 0 0), (.int .i64 0), (.int .i64 0)] ∧ Ob 4 w' O' (.pointer (some ⟨p70, 0, none⟩)) (⟨(⟨s273.2.2.2.1.t.vars, s273.2.2.2.1.t.init, s273.2.2.2.1.t.goal, s273.2.2.2.1.t.ops⟩ : Tsk), q346.2.2.2, s273.2.2.2.1.gen⟩ : Spc) ∧ Rw 5 w' O' 3 (.slice x412.1.1 s411.1.length x412.1.2) s411.1 ∧ Rw 6 w' O' 4 (.slice x412.2.1 s411.2.length x412.2.2) s411.2 ∧ Ob 8 w' O' (.pointer (some ⟨g63, 0, none⟩)) s273.2.2.2.2 ∧ Lc 10 w' O' g145 96 [(.int .i64 q130.1.x.cost), (.int .i64 q130.1.x.order), (.int .i64 q130.1.x.id)] ∧ Lc 12 w' O' g312 83 [(.int .i64 a276.op), (.slice A309 a276.state.length c310)] ∧ Vb w' (Fr 0 w' O') (.slice A309 a276.state.length c310) a276.state ∧ Vb w' (Fr 0 w' O') (.slice A262 q255.length c263) q255) ?_ ?_
          ·
           refine ewp_seq (ewp_region (o_mv rfl rfl (o_z ?_)))
           refine ewp_cond rfl (fun c417 => ?_) (fun c417 => ?_)
           ·
            replace hy410 := ip hy410 c417
            refine ewp_region (o_mv rfl rfl (o_mv rfl rfl ?_))
            obtain ⟨u418, e419, hy410⟩ := bs hy410
            obtain ⟨e419, e420, e421⟩ := appI_some e419
            replace h293 := (((h293.st S315).st S318).st S320).st S350
            refine l_append1 rfl (a := n406) h293 (vInt r408) (fun _ => rfl) rfl (by decide) (by decide) e420 e421 ⟨rfl, rfl⟩ fun g422 A423 c424 w425 O426 S427 h428 => ?_
            rw [← e419] at h428 ⊢
            refine o_mv rfl rfl ?_
            obtain ⟨u430, e431, hy410⟩ := bs hy410
            obtain ⟨e431, e432, e433⟩ := appI_some e431
            replace h295 := ((((h295.st S315).st S318).st S320).st S350).st S427
            refine l_append1 rfl (a := false) h295 vBool (fun _ => rfl) rfl (by decide) (by decide) e432 e433 ⟨rfl, rfl⟩ fun g434 A435 c436 w437 O438 S439 h440 => ?_
            rw [← e431] at h440 ⊢
            refine o_as rfl rfl (o_as rfl rfl (o_z ?_))
            replace h321 := ((h321.st S350).st S427).st S439
            replace h324 := ((h324.st S350).st S427).st S439
            replace h328 := ((h328.st S350).st S427).st S439
            replace h332 := ((h332.st S350).st S427).st S439
            replace h336 := ((h336.st S350).st S427).st S439
            replace h343 := ((h343.st S350).st S427).st S439
            replace h353 := (h353.st S427).st S439
            obtain ⟨O442, S443, hz445, ha446, h444⟩ := Spc.shut (x := (⟨(⟨s273.2.2.2.1.t.vars, s273.2.2.2.1.t.init, s273.2.2.2.1.t.goal, s273.2.2.2.1.t.ops⟩ : Tsk), q346.2.2.2, s273.2.2.2.1.gen⟩ : Spc)) (l0 := 4) (l1 := 11) (by decide) h321 h324 h328 h332 h336 h353 h343
            obtain rfl := sm hy410
            replace hB := ((((((hB.st S315).st S318).st S320).st S350).st S427).st S439).st S443
            replace h8 := ((((((h8.st S315).st S318).st S320).st S350).st S427).st S439).st S443
            replace h11 := ((((((h11.st S315).st S318).st S320).st S350).st S427).st S439).st S443
            replace h14 := ((((((h14.st S315).st S318).st S320).st S350).st S427).st S439).st S443
            replace h17 := ((h17.st S427).st S439).st S443
            replace h24 := ((h24.st S427).st S439).st S443
            replace h29 := ((((((h29.st S315).st S318).st S320).st S350).st S427).st S439).st S443
            replace h149 := ((h149.st S427).st S439).st S443
            replace h260 := ((((((h260.st S315).st S318).st S320).st S350).st S427).st S439).st S443
            replace h299 := ((((((h299.st S315).st S318).st S320).st S350).st S427).st S439).st S443
            replace h308 := (((h308.st S350).st S427).st S439).st S443
            replace h316 := ((h316.st S427).st S439).st S443
            replace h428 := (h428.st S439).st S443
            replace h440 := h440.st S443
            exact ⟨_, ((A423, c424), (A435, c436)), _, rfl, ⟨rfl, rfl, rfl, rfl, rfl, rfl, rfl, rfl, rfl, rfl, rfl, rfl, rfl, rfl, rfl, rfl, trivial⟩, hB, h24, h8, h11, h14, h17, h29, h444, h428, h440, h299, h149, h316, h308, h260⟩
           ·
            replace hy410 := im' hy410 c417
            refine ewp_seq ?_
            obtain ⟨y447, hy448, hy410⟩ := bs hy410
            refine ewp_join (fun l' w' => ∃ (x450 : Unit) (O' : Lab), subs l' [(1, (.int .i64 x1)), (2, (.pointer (some ⟨g20, 0, none⟩))), (4, (.pointer (some ⟨g25, 0, none⟩))), (6, (.pointer (some ⟨p70, 0, none⟩))), (8, (.slice x274.1.1 s273.1.length x274.1.2)), (9, (.slice x274.2.1 s273.2.1.length x274.2.2)), (10, (.pointer (some ⟨g63, 0, none⟩))), (11, (.int .i64 s273.2.2.1)), (12, (.int .i64 n252)), (13, (.pointer (some ⟨g145, 0, none⟩))), (18, (.pointer (some ⟨g312, 0, none⟩))), (19, (.int .i64 q346.1)), (22, (.int .i64 n406)), (98, (.slice A262 q255.length c263)), (99, (.int .i64 (q255.length : Int))), (100, (.int .i64 (k275 : Int))), (150, (.bool y447))] ∧ Bs w A w' O' ∧ Lc 2 w' O' g20 26 [(.slice A9 x0.vars.length c10), (.slice A12 x0.init.length c13), (.slice A15 x0.goal.length c16), (.slice A18 x0.ops.length c19)] ∧ Vb w' (Fr 0 w' O') (.slice A9 x0.vars.length c10) x0.vars ∧ Vb w' (Fr 0 w' O') (.slice A12 x0.init.length c13) x0.init ∧ Vb w' (Fr 0 w' O') (.slice A15 x0.goal.length c16) x0.goal ∧ Vb w' (Fr 0 w' O') (.slice A18 x0.ops.length c19) x0.ops ∧ Lc 3 w' O' g25 30 [(.int .i64 0), (.slice none 0 0), (.int .i64 0), (.int .i64 0)] ∧ Ob 4 w' O' (.pointer (some ⟨p70, 0, none⟩)) (⟨(⟨s273.2.2.2.1.t.vars, s273.2.2.2.1.t.init, s273.2.2.2.1.t.goal, s273.2.2.2.1.t.ops⟩ : Tsk), q346.2.2.2, s273.2.2.2.1.gen⟩ : Spc) ∧ Rw 5 w' O' 3 (.slice x274.1.1 s273.1.length x274.1.2) s273.1 ∧ Rw 6 w' O' 4 (.slice x274.2.1 s273.2.1.length x274.2.2) s273.2.1 ∧ Ob 8 w' O' (.pointer (some ⟨g63, 0, none⟩)) s273.2.2.2.2 ∧ Lc 10 w' O' g145 96 [(.int .i64 q130.1.x.cost), (.int .i64 q130.1.x.order), (.int .i64 q130.1.x.id)] ∧ Lc 12 w' O' g312 83 [(.int .i64 a276.op), (.slice A309 a276.state.length c310)] ∧ Vb w' (Fr 0 w' O') (.slice A309 a276.state.length c310) a276.state ∧ Vb w' (Fr 0 w' O') (.slice A262 q255.length c263) q255) ?_ ?_
            ·
             refine ewp_region (o_mv rfl rfl (o_mv rfl rfl ?_))
             obtain ⟨a451, e452, hy448⟩ := bs hy448
             obtain ⟨p454, x453⟩ := atI_some' e452
             replace h295 := (((h295.st S315).st S318).st S320).st S350
             obtain ⟨b455, o456, ce457, hA458, hl459, hd460, rfl⟩ := h295.elem x453
             refine o_iaE (hA := hA458) (hj := (Int.toNat_of_nonneg p454).symm) (hlt := hl459) rfl rfl rfl ?_
             refine o_ld (hc := cat0 hd460) rfl rfl ?_
             refine o_mv rfl rfl ?_
             rcases Bool.eq_false_or_eq_true a451 with c462 | c462
             ·
              try rw [c462]
              replace hy448 := ip hy448 c462
              refine owp_no rfl rfl rfl rfl (owp_no rfl rfl rfl rfl (owp_no rfl rfl rfl rfl (owp_no rfl rfl rfl rfl (owp_no rfl rfl rfl rfl (owp_no rfl rfl rfl rfl (o_pt rfl rfl rfl (o_z ?_)))))))
              replace h321 := h321.st S350
              replace h324 := h324.st S350
              replace h328 := h328.st S350
              replace h332 := h332.st S350
              replace h336 := h336.st S350
              replace h343 := h343.st S350
              obtain ⟨O463, S464, hz466, ha467, h465⟩ := Spc.shut (x := (⟨(⟨s273.2.2.2.1.t.vars, s273.2.2.2.1.t.init, s273.2.2.2.1.t.goal, s273.2.2.2.1.t.ops⟩ : Tsk), q346.2.2.2, s273.2.2.2.1.gen⟩ : Spc)) (l0 := 4) (l1 := 11) (by decide) h321 h324 h328 h332 h336 h353 h343
              obtain rfl := sm hy448
              replace hB := ((((hB.st S315).st S318).st S320).st S350).st S464
              replace h8 := ((((h8.st S315).st S318).st S320).st S350).st S464
              replace h11 := ((((h11.st S315).st S318).st S320).st S350).st S464
              replace h14 := ((((h14.st S315).st S318).st S320).st S350).st S464
              replace h17 := h17.st S464
              replace h24 := h24.st S464
              replace h29 := ((((h29.st S315).st S318).st S320).st S350).st S464
              replace h149 := h149.st S464
              replace h260 := ((((h260.st S315).st S318).st S320).st S350).st S464
              replace h293 := ((((h293.st S315).st S318).st S320).st S350).st S464
              replace h295 := h295.st S464
              replace h299 := ((((h299.st S315).st S318).st S320).st S350).st S464
              replace h308 := (h308.st S350).st S464
              replace h316 := h316.st S464
              exact ⟨(), _, ⟨rfl, rfl, rfl, rfl, rfl, rfl, rfl, rfl, rfl, rfl, rfl, rfl, rfl, rfl, rfl, rfl, rfl, trivial⟩, hB, h24, h8, h11, h14, h17, h29, h465, h293, h295, h299, h149, h316, h308, h260⟩
             ·
              try rw [c462]
              replace hy448 := im' hy448 c462
              refine owp_yes rfl rfl (o_mv rfl rfl (owp_yes rfl rfl (o_mv rfl rfl (owp_yes rfl rfl (o_mv rfl rfl (owp_yes rfl rfl ?_))))))
              obtain ⟨a468, e469, hy448⟩ := bs hy448
              obtain ⟨p471, x470⟩ := atI_some' e469
              replace h293 := (((h293.st S315).st S318).st S320).st S350
              obtain ⟨b472, o473, ce474, hA475, hl476, hd477, rfl, r479⟩ := h293.elem x470
              refine o_iaE (hA := hA475) (hj := (Int.toNat_of_nonneg p471).symm) (hlt := hl476) rfl rfl rfl ?_
              refine owp_yes rfl rfl (o_ld (hc := cat0 hd477) rfl rfl ?_)
              refine owp_yes rfl rfl (o_geS rfl rfl rfl (fun c480 => ?_) fun c480 => ?_)
              ·
               replace hy448 := ip hy448 c480
               refine o_pf rfl rfl rfl (o_z ?_)
               replace h321 := h321.st S350
               replace h324 := h324.st S350
               replace h328 := h328.st S350
               replace h332 := h332.st S350
               replace h336 := h336.st S350
               replace h343 := h343.st S350
               obtain ⟨O481, S482, hz484, ha485, h483⟩ := Spc.shut (x := (⟨(⟨s273.2.2.2.1.t.vars, s273.2.2.2.1.t.init, s273.2.2.2.1.t.goal, s273.2.2.2.1.t.ops⟩ : Tsk), q346.2.2.2, s273.2.2.2.1.gen⟩ : Spc)) (l0 := 4) (l1 := 11) (by decide) h321 h324 h328 h332 h336 h353 h343
               obtain rfl := sm hy448
               replace hB := ((((hB.st S315).st S318).st S320).st S350).st S482
               replace h8 := ((((h8.st S315).st S318).st S320).st S350).st S482
               replace h11 := ((((h11.st S315).st S318).st S320).st S350).st S482
               replace h14 := ((((h14.st S315).st S318).st S320).st S350).st S482
               replace h17 := h17.st S482
               replace h24 := h24.st S482
               replace h29 := ((((h29.st S315).st S318).st S320).st S350).st S482
               replace h149 := h149.st S482
               replace h260 := ((((h260.st S315).st S318).st S320).st S350).st S482
               replace h293 := h293.st S482
               replace h295 := h295.st S482
               replace h299 := ((((h299.st S315).st S318).st S320).st S350).st S482
               replace h308 := (h308.st S350).st S482
               replace h316 := h316.st S482
               exact ⟨(), _, ⟨rfl, rfl, rfl, rfl, rfl, rfl, rfl, rfl, rfl, rfl, rfl, rfl, rfl, rfl, rfl, rfl, rfl, trivial⟩, hB, h24, h8, h11, h14, h17, h29, h483, h293, h295, h299, h149, h316, h308, h260⟩
              ·
               replace hy448 := im hy448 c480
               refine o_pf rfl rfl rfl (o_z ?_)
               replace h321 := h321.st S350
               replace h324 := h324.st S350
               replace h328 := h328.st S350
               replace h332 := h332.st S350
               replace h336 := h336.st S350
               replace h343 := h343.st S350
               obtain ⟨O486, S487, hz489, ha490, h488⟩ := Spc.shut (x := (⟨(⟨s273.2.2.2.1.t.vars, s273.2.2.2.1.t.init, s273.2.2.2.1.t.goal, s273.2.2.2.1.t.ops⟩ : Tsk), q346.2.2.2, s273.2.2.2.1.gen⟩ : Spc)) (l0 := 4) (l1 := 11) (by decide) h321 h324 h328 h332 h336 h353 h343
               obtain rfl := sm hy448
               replace hB := ((((hB.st S315).st S318).st S320).st S350).st S487
               replace h8 := ((((h8.st S315).st S318).st S320).st S350).st S487
               replace h11 := ((((h11.st S315).st S318).st S320).st S350).st S487
               replace h14 := ((((h14.st S315).st S318).st S320).st S350).st S487
               replace h17 := h17.st S487
               replace h24 := h24.st S487
               replace h29 := ((((h29.st S315).st S318).st S320).st S350).st S487
               replace h149 := h149.st S487
               replace h260 := ((((h260.st S315).st S318).st S320).st S350).st S487
               replace h293 := h293.st S487
               replace h295 := h295.st S487
               replace h299 := ((((h299.st S315).st S318).st S320).st S350).st S487
               replace h308 := (h308.st S350).st S487
               replace h316 := h316.st S487
               exact ⟨(), _, ⟨rfl, rfl, rfl, rfl, rfl, rfl, rfl, rfl, rfl, rfl, rfl, rfl, rfl, rfl, rfl, rfl, rfl, trivial⟩, hB, h24, h8, h11, h14, h17, h29, h488, h293, h295, h299, h149, h316, h308, h260⟩
            replace hB := (((hB.st S315).st S318).st S320).st S350
            replace h8 := (((h8.st S315).st S318).st S320).st S350
            replace h11 := (((h11.st S315).st S318).st S320).st S350
            replace h14 := (((h14.st S315).st S318).st S320).st S350
            replace h29 := (((h29.st S315).st S318).st S320).st S350
            replace h260 := (((h260.st S315).st S318).st S320).st S350
            replace h293 := (((h293.st S315).st S318).st S320).st S350
            replace h295 := (((h295.st S315).st S318).st S320).st S350
            replace h299 := (((h299.st S315).st S318).st S320).st S350
            replace h308 := h308.st S350
            rintro l491 w492 ⟨x450, O493, hs494, hB, h24, h8, h11, h14, h17, h29, h461, h293, h295, h299, h149, h316, h308, h260⟩
            refine ewp_sub _ hs494 ?_
            refine ewp_cond rfl (fun c495 => ?_) (fun c495 => ?_)
            ·
             replace hy410 := ip hy410 c495
             refine ewp_exit ?_
             obtain rfl := sm hy410
             obtain rfl := sm (fin_ret hf281)
             refine (?_ : Exists _)
             exact ⟨_, ((x274.1.1, x274.1.2), (x274.2.1, x274.2.2)), rfl, ⟨rfl, rfl, rfl, rfl, rfl, rfl, rfl, rfl, rfl, rfl, rfl, rfl, rfl, trivial⟩, _, hB, h24, h8, h11, h14, h17, h29, h461, h293, h295, h299, h149, h260, r297⟩
            ·
             replace hy410 := im' hy410 c495
             refine ewp_skip ?_
             obtain rfl := sm hy410
             exact ⟨_, ((x274.1.1, x274.1.2), (x274.2.1, x274.2.2)), _, rfl, ⟨rfl, rfl, rfl, rfl, rfl, rfl, rfl, rfl, rfl, rfl, rfl, rfl, rfl, rfl, rfl, rfl, trivial⟩, hB, h24, h8, h11, h14, h17, h29, h461, h293, h295, h299, h149, h316, h308, h260⟩
          replace hB := (((hB.st S315).st S318).st S320).st S350
          replace h8 := (((h8.st S315).st S318).st S320).st S350
          replace h11 := (((h11.st S315).st S318).st S320).st S350
          replace h14 := (((h14.st S315).st S318).st S320).st S350
          replace h29 := (((h29.st S315).st S318).st S320).st S350
          replace h260 := (((h260.st S315).st S318).st S320).st S350
          replace h299 := (((h299.st S315).st S318).st S320).st S350
          replace h308 := h308.st S350
          rintro l496 w497 ⟨s411, x412, O498, rfl, hs499, hB, h24, h8, h11, h14, h17, h29, h436, h413, h415, h299, h149, h316, h308, h260⟩
          replace hf281 := fin_done hf281
          refine ewp_sub _ hs499 ?_
          refine ewp_seq (ewp_region (o_mv rfl rfl (o_mv rfl rfl (o_mv rfl rfl ?_))))
          obtain ⟨a500, e501, hf281⟩ := bs hf281
          obtain ⟨p503, x502⟩ := atI_some' e501
          obtain ⟨b504, o505, ce506, hA507, hl508, hd509, rfl, r511⟩ := h413.elem x502
          refine o_iaE (hA := hA507) (hj := (Int.toNat_of_nonneg p503).symm) (hlt := hl508) rfl rfl rfl ?_
          refine l_setE rfl h413 (a := n406) (vInt r408) hA507 rfl rfl (lt_of_get x502) fun w512 S513 h413 => ?_
          refine o_z ?_
          refine ewp_seq (ewp_seq ?_)
          replace h436 := h436.st S513
          obtain ⟨O514, v518, v522, v526, v530, v534, v537, S515, ha517, h516, h519, h523, h527, h531, h535, h538⟩ := Spc.opn h436 4 11 (by decide)
          obtain ⟨A520, c521, rfl⟩ := h519.form
          obtain ⟨A524, c525, rfl⟩ := h523.form
          obtain ⟨A528, c529, rfl⟩ := h527.form
          obtain ⟨A532, c533, rfl⟩ := h531.form
          obtain ⟨p536, rfl⟩ := h535.ptr
          obtain ⟨p539, rfl, hq540⟩ := h538.ptr
          refine ewp_drawX [(10, [11])] O514 ?_
          refine x_pre (fuel := 2) [] [(0, true), (1, true), (2, true), (3, true), (4, true), (5, true), (6, true), (7, true), (8, true), (9, true)] (by kernel_rfl) rfl ?_
          refine h_mv rfl rfl rfl (h_nc rfl rfl rfl (h_fa rfl rfl rfl (h_ldC (hc := fun w' ⟨O', hq⟩ => Blk.cell (i := 4) ((h516.st hq (by decide)).1) rfl) rfl rfl rfl ?_)))
          refine h_mv rfl rfl rfl (h_fa rfl rfl rfl ?_)
          replace h149 := (h149.st S513).st S515
          refine h_ldC (hc := fun w' ⟨O', hq⟩ => Blk.cell (i := 2) ((h149.st hq (by decide)).1) rfl) rfl rfl rfl ?_
          refine h_fa rfl rfl rfl ?_
          replace h316 := (h316.st S513).st S515
          refine h_ldC (hc := fun w' ⟨O', hq⟩ => Blk.cell (i := 0) ((h316.st hq (by decide)).1) rfl) rfl rfl rfl ?_
          refine h_mv rfl rfl rfl (hwp_nilT ?_)
          refine x_one (i := 10) (by kernel_rfl) rfl ?_
          obtain ⟨q541, e542, hf281⟩ := bs hf281
          refine l_callM (O := O514) (c_registry_Registry_SetLink h535 r360 r144 r311 r408 e542) rfl rfl fun v547 w543 O544 S545 h546 => ?_
          obtain ⟨h548, h549⟩ := h546
          obtain ⟨rfl, r550⟩ := h549.err
          have hZ := S545.lst [11] (fun _ h => by cases h; decide)
          refine x_go [] hZ (by kernel_rfl) ?_
          refine x_pre (fuel := 0) [] [(11, true)] (by kernel_rfl) rfl ?_
          refine h_as rfl rfl rfl (hwp_nilT ?_)
          refine x_nil (by kernel_rfl) ?_
          refine ewp_seq (ewp_region (o_mv rfl rfl (o_rnS rfl rfl (fun c551 => ?_) fun c551 => ?_)))
          ·
           replace hf281 := ip hf281 c551
           refine o_z ?_
           refine ewp_true rfl (ewp_seq (ewp_region (o_bd rfl rfl rfl ?_)))
           refine o_mv rfl rfl ?_
           replace h29 := ((h29.st S513).st S515).st S545
           refine l_store h29 rfl rfl rfl (Nat.le_of_ble_eq_true rfl) (by first | exact allOne rfl | simp [Value.cells, Value.oneCell', errV_one]) fun w552 S553 h29 => ?_
           replace h29 : Lc 3 w552 O544 g25 30 [(.int .i64 0), (.slice none 0 0), (.int .i64 0), (.int .i64 0)] := h29
           refine o_as rfl rfl (o_z ?_)
           refine ewp_ret ?_
           obtain rfl := sm hf281
           obtain rfl := hret282 _ rfl
           obtain rfl := sm (fin_ret hf86)
           obtain rfl := hret87 _ rfl
           obtain rfl := sm (fin_ret hm)
           replace hB := (((hB.st S513).st S515).st S545).st S553
           exact ret2 rfl (res_cell (cs := [(.int .i64 0), (.slice none 0 0), (.int .i64 0), (.int .i64 0)]) rfl rfl h29.1.cellsAt) (res_tmp rfl) ⟨hB.ext, _, _, rfl, (Vb.mono (F := Fr 0 w552 O544) (Vb.ofAgg (cs := [(.int .i64 0), (.slice none 0 0), (.int .i64 0), (.int .i64 0)]) (x := (⟨0, ([] : List Int), 0, 0⟩ : Rsl)) rfl ⟨_, rfl, (Vb.nil _ _), (show inI64 0 from by decide), (show inI64 0 from by decide), (show inI64 0 from by decide)⟩) hB.out), (vErr r550)⟩
          ·
           replace hf281 := im hf281 c551
           refine o_z ?_
           refine ewp_false rfl (ewp_skip (ewp_seq (ewp_region (o_mv rfl rfl (o_miA rfl rfl ?_)))))
           refine o_mv rfl rfl (o_mv rfl rfl (o_mv rfl rfl (o_bd rfl rfl rfl ?_)))
           refine o_miA rfl rfl ?_
           obtain ⟨q554, e555, hf281⟩ := bs hf281
           replace h299 := ((h299.st S513).st S515).st S545
           refine l_callM (O := O544) (c_container_heap_Push h299 (vAny (Vb.ofAgg (cs := [(.int .i64 n406), (.int .i64 s273.2.2.1), (.int .i64 q346.1)]) (x := (⟨n406, s273.2.2.1, q346.1⟩ : Itm)) rfl ⟨rfl, r408, r297, r360⟩)) e555) rfl rfl fun v560 w556 O557 S558 h561 => ?_
           refine o_z ?_
           refine ewp_region (o_mv rfl rfl ?_)
           obtain ⟨n562, e563, hf281⟩ := bs hf281
           have r564 := (chkI_rng e563)
           refine o_adE (he := e563) rfl rfl rfl ?_
           refine o_as rfl rfl (o_z ?_)
           replace h516 := (h516.st S545).st S558
           replace h519 := (h519.st S545).st S558
           replace h523 := (h523.st S545).st S558
           replace h527 := (h527.st S545).st S558
           replace h531 := (h531.st S545).st S558
           replace h538 := (h538.st S545).st S558
           replace h548 := h548.st S558
           obtain ⟨O565, S566, hz568, ha569, h567⟩ := Spc.shut (x := (⟨(⟨(⟨(⟨s273.2.2.2.1.t.vars, s273.2.2.2.1.t.init, s273.2.2.2.1.t.goal, s273.2.2.2.1.t.ops⟩ : Tsk), q346.2.2.2, s273.2.2.2.1.gen⟩ : Spc).t.vars, (⟨(⟨s273.2.2.2.1.t.vars, s273.2.2.2.1.t.init, s273.2.2.2.1.t.goal, s273.2.2.2.1.t.ops⟩ : Tsk), q346.2.2.2, s273.2.2.2.1.gen⟩ : Spc).t.init, (⟨(⟨s273.2.2.2.1.t.vars, s273.2.2.2.1.t.init, s273.2.2.2.1.t.goal, s273.2.2.2.1.t.ops⟩ : Tsk), q346.2.2.2, s273.2.2.2.1.gen⟩ : Spc).t.goal, (⟨(⟨s273.2.2.2.1.t.vars, s273.2.2.2.1.t.init, s273.2.2.2.1.t.goal, s273.2.2.2.1.t.ops⟩ : Tsk), q346.2.2.2, s273.2.2.2.1.gen⟩ : Spc).t.ops⟩ : Tsk), q541.2, (⟨(⟨s273.2.2.2.1.t.vars, s273.2.2.2.1.t.init, s273.2.2.2.1.t.goal, s273.2.2.2.1.t.ops⟩ : Tsk), q346.2.2.2, s273.2.2.2.1.gen⟩ : Spc).gen⟩ : Spc)) (l0 := 4) (l1 := 11) (by decide) h516 h519 h523 h527 h531 h548 h538
           obtain rfl := sm hf281
           refine (?_ : Exists _)
           replace hB := ((((hB.st S513).st S515).st S545).st S558).st S566
           replace h8 := ((((h8.st S513).st S515).st S545).st S558).st S566
           replace h11 := ((((h11.st S513).st S515).st S545).st S558).st S566
           replace h14 := ((((h14.st S513).st S515).st S545).st S558).st S566
           replace h17 := ((((h17.st S513).st S515).st S545).st S558).st S566
           replace h24 := ((((h24.st S513).st S515).st S545).st S558).st S566
           replace h29 := ((((h29.st S513).st S515).st S545).st S558).st S566
           replace h149 := ((h149.st S545).st S558).st S566
           replace h260 := ((((h260.st S513).st S515).st S545).st S558).st S566
           replace h413 := (((h413.st S515).st S545).st S558).st S566
           replace h415 := ((((h415.st S513).st S515).st S545).st S558).st S566
           replace h561 := h561.st S566
           exact ⟨_, ((x412.1.1, x412.1.2), (x412.2.1, x412.2.2)), rfl, ⟨rfl, rfl, rfl, rfl, rfl, rfl, (congrArg (fun n => some (Value.slice _ n _)) ((by simp : (s411.1.set (q346.1 : Int).toNat n406).length = s411.1.length).trans rfl).symm), rfl, rfl, rfl, rfl, rfl, rfl, trivial⟩, _, hB, h24, h8, h11, h14, h17, h29, h567, h413.relen, h415, h561, h149, h260, r564⟩
        replace hB := (((((((((((hB.st S108).st S120).st S126).st S134).st S148).st S151).st S165).st S195).st S213).st S251).st S259).st S267
        replace h8 := (((((((((((h8.st S108).st S120).st S126).st S134).st S148).st S151).st S165).st S195).st S213).st S251).st S259).st S267
        replace h11 := (((((((((((h11.st S108).st S120).st S126).st S134).st S148).st S151).st S165).st S195).st S213).st S251).st S259).st S267
        replace h14 := (((h14.st S213).st S251).st S259).st S267
        replace h17 := (((((((((((h17.st S108).st S120).st S126).st S134).st S148).st S151).st S165).st S195).st S213).st S251).st S259).st S267
        replace h24 := (((h24.st S213).st S251).st S259).st S267
        replace h29 := (((((((((((h29.st S108).st S120).st S126).st S134).st S148).st S151).st S165).st S195).st S213).st S251).st S259).st S267
        rintro l570 w571 ⟨s574, x575, rfl, hs573, O572, hB, h24, h8, h11, h14, h17, h29, h298, h293, h295, h299, r297⟩
        replace hf86 := fin_done hf86
        obtain rfl := sm hf86
        refine (?_ : Exists _)
        exact ⟨_, ((x575.1.1, x575.1.2), (x575.2.1, x575.2.2)), rfl, ⟨(subs_lk hs573 _ _ rfl), (subs_lk hs573 _ _ rfl), (subs_lk hs573 _ _ rfl), (subs_lk hs573 _ _ rfl), (subs_lk hs573 _ _ rfl), (subs_lk hs573 _ _ rfl), (subs_lk hs573 _ _ rfl), (subs_lk hs573 _ _ rfl), (subs_lk hs573 _ _ rfl), trivial⟩, _, hB, h24, h8, h11, h14, h17, h29, h298, h293, h295, h299, r297, r254⟩
      replace hf86 := iT hf86
      refine o_z ?_
      refine ewp_true rfl (ewp_seq (ewp_region (o_mv rfl rfl (o_fa rfl rfl ?_))))
      replace h149 := (h149.st S195).st S213
      refine o_ld (hc := Blk.cell (i := 2) (h149.1) rfl) rfl rfl ?_
      refine o_mv rfl rfl ?_
      replace h166 := (h166.st S195).st S213
      replace h169 := (h169.st S195).st S213
      replace h173 := (h173.st S195).st S213
      replace h177 := (h177.st S195).st S213
      replace h181 := (h181.st S195).st S213
      replace h188 := (h188.st S195).st S213
      replace h198 := h198.st S213
      obtain ⟨O576, S577, hz579, ha580, h578⟩ := Spc.shut (x := s78.2.2.2.2.1) (l0 := 4) (l1 := 11) (by decide) h166 h169 h173 h177 h181 h198 h188
      obtain ⟨q581, e582, hf86⟩ := bs hf86
      refine l_callM (O := O576) (c_breadth_space_solved h578 r144 r104 e582) rfl rfl fun v587 w583 O584 S585 h586 => ?_
      obtain ⟨v589, v590, h588, rfl, h591, h592⟩ := h586
      obtain ⟨cs593, rfl, v594, rfl, h595, r598, r599, r600⟩ := h591
      obtain ⟨A596, c597, rfl⟩ := h595.form
      obtain ⟨rfl, r601⟩ := h592.err
      refine o_ex rfl rfl rfl (o_ex rfl rfl rfl ?_)
      replace h29 := ((((((((((h29.st S108).st S120).st S126).st S134).st S148).st S151).st S165).st S195).st S213).st S577).st S585
      refine l_store h29 rfl rfl rfl (Nat.le_of_ble_eq_true rfl) (by first | exact allOne rfl | simp [Value.cells, Value.oneCell', errV_one]) fun w602 S603 h29 => ?_
      replace h29 : Lc 3 w602 O584 g25 30 [(.int .i64 q581.1.verdict), (.slice A596 q581.1.plan.length c597), (.int .i64 q581.1.cost), (.int .i64 q581.1.expanded)] := h29
      refine o_as rfl rfl (o_z ?_)
      refine ewp_ret ?_
      obtain rfl := sm hf86
      obtain rfl := hret87 _ rfl
      obtain rfl := sm (fin_ret hm)
      replace hB := (((((((((((hB.st S108).st S120).st S126).st S134).st S148).st S151).st S165).st S195).st S213).st S577).st S585).st S603
      replace h595 := h595.st S603
      exact ret2 rfl (res_cell (cs := [(.int .i64 q581.1.verdict), (.slice A596 q581.1.plan.length c597), (.int .i64 q581.1.cost), (.int .i64 q581.1.expanded)]) rfl rfl h29.1.cellsAt) (res_tmp rfl) ⟨hB.ext, _, _, rfl, (Vb.mono (F := Fr 0 w602 O584) (Vb.ofAgg (cs := [(.int .i64 q581.1.verdict), (.slice A596 q581.1.plan.length c597), (.int .i64 q581.1.cost), (.int .i64 q581.1.expanded)]) (x := q581.1) rfl ⟨_, rfl, h595, r598, r599, r600⟩) hB.out), (vErr r601)⟩
   ·
    replace hf86 := im hf86 c124
    refine o_z ?_
    refine ewp_false rfl (ewp_exit ?_)
    replace h109 := h109.st S120
    replace h112 := h112.st S120
    obtain ⟨O604, S605, hz607, ha608, h606⟩ := BxR.shut (x := s78.2.2.2.2.2) (l0 := 8) (l1 := 9) (by decide) h109 h112
    obtain rfl := sm hf86
    refine (?_ : Exists _)
    replace hB := ((hB.st S108).st S120).st S605
    replace h29 := ((h29.st S108).st S120).st S605
    exact ⟨_, ((x79.1.1, x79.1.2), (x79.2.1, x79.2.2)), hbrk88 _ rfl, ⟨rfl, rfl, trivial⟩, _, hB, h29, r103, r104⟩
  replace hB := (((((((hB.st S23).st S28).st S34).st S48).st S54).st S60).st S66).st S72
  replace h29 := (((((h29.st S34).st S48).st S54).st S60).st S66).st S72
  rintro l609 w610 ⟨s613, x614, rfl, hs612, O611, hB, h29, r103, r104⟩
  replace hm := fin_done hm
  refine ewp_sub _ hs612 ?_
  refine ewp_seq (ewp_region (o_mv rfl rfl ?_))
  obtain ⟨q615, e616, hm⟩ := bs hm
  refine l_call (O := O611) (R := fun w' F v => T2 w' F v q615) (c_breadth_failed Fr.lt (show inI64 (2) from by decide) r104 e616) rfl rfl fun v621 w617 O618 S619 h620 => ?_
  obtain ⟨v622, v623, rfl, h624, h625⟩ := h620
  obtain ⟨cs626, rfl, v627, rfl, h628, r631, r632, r633⟩ := h624
  obtain ⟨A629, c630, rfl⟩ := h628.form
  obtain ⟨rfl, r634⟩ := h625.err
  refine o_ex rfl rfl rfl (o_ex rfl rfl rfl ?_)
  replace h29 := h29.st S619
  refine l_store h29 rfl rfl rfl (Nat.le_of_ble_eq_true rfl) (by first | exact allOne rfl | simp [Value.cells, Value.oneCell', errV_one]) fun w635 S636 h29 => ?_
  replace h29 : Lc 3 w635 O618 g25 30 [(.int .i64 q615.1.verdict), (.slice A629 q615.1.plan.length c630), (.int .i64 q615.1.cost), (.int .i64 q615.1.expanded)] := h29
  refine o_as rfl rfl (o_z ?_)
  refine ewp_ret ?_
  obtain rfl := sm hm
  replace hB := (hB.st S619).st S636
  replace h628 := h628.st S636
  exact ret2 rfl (res_cell (cs := [(.int .i64 q615.1.verdict), (.slice A629 q615.1.plan.length c630), (.int .i64 q615.1.cost), (.int .i64 q615.1.expanded)]) rfl rfl h29.1.cellsAt) (res_tmp rfl) ⟨hB.ext, _, _, rfl, (Vb.mono (F := Fr 0 w635 O618) (Vb.ofAgg (cs := [(.int .i64 q615.1.verdict), (.slice A629 q615.1.plan.length c630), (.int .i64 q615.1.cost), (.int .i64 q615.1.expanded)]) (x := q615.1) rfl ⟨_, rfl, h628, r631, r632, r633⟩) hB.out), (vErr r634)⟩
noncomputable def m_breadth_Reachable (x0 : Tsk) (x1 : Int) : Option (Int × Err) :=
  bnd (m_breadth_begin x0) fun q25 => if q25.2.n ≠ 0 then (some (0, (⟨q25.2.n⟩ : Err))) else (bnd q25.1 fun o38 => bnd (lop (ρ := Int × Err) (fun (s43 : Int × Spc) => bnd (m_registry_Registry_Len s43.2.reg) fun q87 => if s43.1 < q87 then (bnd (m_registry_Registry_Len s43.2.reg) fun q98 => if x1 < q98 then (some (.ret (0, (⟨10⟩ : Err)))) else (bnd (m_registry_Registry_State s43.2.reg s43.1) fun q109 => if q109.2.n ≠ 0 then (some (.ret (0, (⟨q109.2.n⟩ : Err)))) else (bnd (m_succgen_Generator_Successors s43.2.gen q109.1) fun q125 => bnd (rng (ρ := Ctl (Int × Spc) (Int × Err)) (fun (k145 : Nat) (a146 : Suc) (s143 : Spc) => bnd (m_registry_Registry_Add s143.reg a146.state) fun q204 => if q204.2.2.1.n ≠ 0 then (some (.ret (.ret (0, (⟨10⟩ : Err))))) else (some (.next (⟨(⟨s143.t.vars, s143.t.init, s143.t.goal, s143.t.ops⟩ : Tsk), q204.2.2.2, s143.gen⟩ : Spc)))) q125 0 s43.2) fun res141 => fin res141 fun (s230 : Spc) => bnd (chkI (s43.1 + 1)) fun n232 => some (.next (n232, s230))))) else (some (.brk (s43.1, s43.2)))) (0, o38)) fun res41 => fin res41 fun (s244 : Int × Spc) => bnd (m_registry_Registry_Len s244.2.reg) fun q273 => if x1 < q273 then (some (0, (⟨10⟩ : Err))) else (bnd (m_registry_Registry_Len s244.2.reg) fun q284 => some (q284, (⟨0⟩ : Err))))
theorem c_breadth_Reachable {w : World} {A : Nat → Prop} (hA : ∀ k, A k → k < w.heap.size) {vx0 : Value} {x0 : Tsk} (hx0 : Vb w A vx0 x0) {x1 : Int} (rx1 : inI64 x1) {r : Int × Err} (hm : m_breadth_Reachable x0 x1 = some r) :
    Fn Try.prog 25 [vx0, (.int .i64 x1)] w fun v w' => Ext w w' ∧ T2 w' (upA A w w') v r := by
 obtain ⟨O, hB, hA0⟩ := enter hA
 replace hx0 := hx0.mono hA0
 obtain ⟨cs3, rfl, v4, v5, v6, v7, rfl, h8, h11, h14, h17⟩ := hx0
 obtain ⟨A9, c10, rfl⟩ := h8.form
 obtain ⟨A12, c13, rfl⟩ := h11.form
 obtain ⟨A15, c16, rfl⟩ := h14.form
 obtain ⟨A18, c19, rfl⟩ := h17.form
 refine fn_enter Try.func25 rfl Try.ntmps25 rfl ?_
 unfold m_breadth_Reachable at hm
 refine ewp_seq (ewp_region (l_box 2 O rfl rfl fun g20 w21 O22 S23 h24 => ?_))
 replace h24 : Lc 2 w21 O22 g20 26 [(.slice A9 x0.vars.length c10), (.slice A12 x0.init.length c13), (.slice A15 x0.goal.length c16), (.slice A18 x0.ops.length c19)] := h24
 refine o_as rfl rfl (o_as rfl rfl (o_z ?_))
 refine ewp_seq (ewp_region (o_la (hl := rfl) (hc := (h24.1).cellsAt) rfl rfl ?_))
 obtain ⟨q25, e26, hm⟩ := bs hm
 replace h8 := h8.st S23
 replace h11 := h11.st S23
 replace h14 := h14.st S23
 replace h17 := h17.st S23
 refine l_callM (O := O22) (c_breadth_begin (Vb.ofAgg (cs := [(.slice A9 x0.vars.length c10), (.slice A12 x0.init.length c13), (.slice A15 x0.goal.length c16), (.slice A18 x0.ops.length c19)]) (x := x0) rfl ⟨_, _, _, _, rfl, h8, h11, h14, h17⟩) 3 (by decide) e26) rfl rfl fun v31 w27 O28 S29 h30 => ?_
 obtain ⟨v32, v33, rfl, h34, h35⟩ := h30
 obtain ⟨rfl, r36⟩ := h35.err
 refine o_mv rfl rfl (o_ex rfl rfl rfl (o_ex rfl rfl rfl (o_as rfl rfl (o_as rfl rfl (o_z ?_)))))
 refine ewp_seq (ewp_seq (ewp_region (o_mv rfl rfl (o_rnS rfl rfl (fun c37 => ?_) fun c37 => ?_))))
 ·
  replace hm := ip hm c37
  refine o_z ?_
  refine ewp_true rfl (ewp_seq (ewp_region (o_mv rfl rfl (o_as rfl rfl (o_as rfl rfl (o_z ?_))))))
  refine ewp_ret ?_
  obtain rfl := sm hm
  replace hB := (hB.st S23).st S29
  exact ret2 rfl (res_tmp rfl) (res_tmp rfl) ⟨hB.ext, _, _, rfl, (vInt (show inI64 (0) from by decide)), (vErr r36)⟩
 ·
  replace hm := im hm c37
  refine o_z ?_
  refine ewp_false rfl (ewp_skip (ewp_seq (ewp_seq (ewp_region (o_as rfl rfl (o_z ?_))))))
  obtain ⟨o38, e39, hm⟩ := bs hm
  rw [e39] at h34
  obtain ⟨p40, rfl⟩ := Ob.ptr h34
  obtain ⟨res41, hL42, hm⟩ := bs hm
  refine ewp_join (aft res41 (fun (s43 : Int × Spc) (x44 : Unit) => [(1, (.int .i64 x1)), (6, (.pointer (some ⟨p40, 0, none⟩)))]) (fun s43 x44 w' => ∃ O' : Lab, Bs w A w' O' ∧ Ob 3 w' O' (.pointer (some ⟨p40, 0, none⟩)) s43.2 ∧ inI64 s43.1)) ?_ ?_
  ·
   refine ewp_block ?_
   replace hB := (hB.st S23).st S29
   refine ewp_lop (σ := Int × Spc) (X := Unit) hL42 (fun (s43 : Int × Spc) (x44 : Unit) => [(1, (.int .i64 x1)), (6, (.pointer (some ⟨p40, 0, none⟩))), (8, (.int .i64 s43.1))]) _ (fun s43 x44 w' => ∃ O' : Lab, Bs w A w' O' ∧ Ob 3 w' O' (.pointer (some ⟨p40, 0, none⟩)) s43.2 ∧ inI64 s43.1) _ () ⟨O28, hB, h34, (show inI64 (0) from by decide)⟩ ⟨rfl, rfl, rfl, trivial⟩ ?_
   rintro s43 x44 w47 cc49 ⟨O48, hB, h59, r58⟩ hf51 hret52 hbrk53
   refine ewp_seq (ewp_seq (ewp_region (o_mv rfl rfl (o_mv rfl rfl (o_nc rfl rfl ?_)))))
   obtain ⟨O60, v64, v68, v72, v76, v80, v83, S61, ha63, h62, h65, h69, h73, h77, h81, h84⟩ := Spc.opn h59 3 4 (by decide)
   obtain ⟨A66, c67, rfl⟩ := h65.form
   obtain ⟨A70, c71, rfl⟩ := h69.form
   obtain ⟨A74, c75, rfl⟩ := h73.form
   obtain ⟨A78, c79, rfl⟩ := h77.form
   obtain ⟨p82, rfl⟩ := h81.ptr
   obtain ⟨p85, rfl, hq86⟩ := h84.ptr
   refine o_fa rfl rfl (o_ld (hc := Blk.cell (i := 4) (h62.1) rfl) rfl rfl ?_)
   obtain ⟨q87, e88, hf51⟩ := bs hf51
   refine l_callM (O := O60) (c_registry_Registry_Len h81 e88) rfl rfl fun v93 w89 O90 S91 h92 => ?_
   obtain ⟨h94, h95⟩ := h92
   obtain ⟨rfl, r96⟩ := h95.int
   refine o_ltS rfl rfl rfl (fun c97 => ?_) fun c97 => ?_
   ·
    replace hf51 := ip hf51 c97
    refine o_z ?_
    refine ewp_true rfl (ewp_skip (ewp_seq (ewp_block (ewp_seq (ewp_seq (ewp_region (o_mv rfl rfl (o_nc rfl rfl (o_fa rfl rfl ?_)))))))))
    replace h62 := h62.st S91
    refine o_ld (hc := Blk.cell (i := 4) (h62.1) rfl) rfl rfl ?_
    obtain ⟨q98, e99, hf51⟩ := bs hf51
    refine l_callM (O := O90) (c_registry_Registry_Len h94 e99) rfl rfl fun v104 w100 O101 S102 h103 => ?_
    obtain ⟨h105, h106⟩ := h103
    obtain ⟨rfl, r107⟩ := h106.int
    refine o_mv rfl rfl (o_gtS rfl rfl rfl (fun c108 => ?_) fun c108 => ?_)
    ·
     replace hf51 := ip hf51 c108
     refine o_z ?_
     refine ewp_true rfl (ewp_seq (ewp_region (o_miE rfl rfl ?_)))
     refine o_as rfl rfl (o_as rfl rfl (o_z ?_))
     refine ewp_ret ?_
     obtain rfl := sm hf51
     obtain rfl := hret52 _ rfl
     obtain rfl := sm (fin_ret hm)
     replace hB := ((hB.st S61).st S91).st S102
     exact ret2 rfl (res_tmp rfl) (res_tmp rfl) ⟨hB.ext, _, _, rfl, (vInt (show inI64 (0) from by decide)), (vErr (by decide))⟩
    ·
     replace hf51 := im hf51 c108
     refine o_z ?_
     refine ewp_false rfl (ewp_skip (ewp_seq (ewp_region (o_mv rfl rfl (o_nc rfl rfl (o_fa rfl rfl ?_))))))
     replace h62 := h62.st S102
     refine o_ld (hc := Blk.cell (i := 4) (h62.1) rfl) rfl rfl ?_
     refine o_mv rfl rfl ?_
     obtain ⟨q109, e110, hf51⟩ := bs hf51
     refine l_callM (O := O101) (c_registry_Registry_State h105 r58 e110) rfl rfl fun v115 w111 O112 S113 h114 => ?_
     obtain ⟨v117, v118, h116, rfl, h119, h120⟩ := h114
     obtain ⟨A121, c122, rfl⟩ := h119.form
     obtain ⟨rfl, r123⟩ := h120.err
     refine o_mv rfl rfl (o_ex rfl rfl rfl (o_ex rfl rfl rfl (o_as rfl rfl (o_as rfl rfl (o_z ?_)))))
     refine ewp_seq (ewp_seq (ewp_region (o_mv rfl rfl (o_rnS rfl rfl (fun c124 => ?_) fun c124 => ?_))))
     ·
      replace hf51 := ip hf51 c124
      refine o_z ?_
      refine ewp_true rfl (ewp_seq (ewp_region (o_mv rfl rfl (o_as rfl rfl (o_as rfl rfl (o_z ?_))))))
      refine ewp_ret ?_
      obtain rfl := sm hf51
      obtain rfl := hret52 _ rfl
      obtain rfl := sm (fin_ret hm)
      replace hB := (((hB.st S61).st S91).st S102).st S113
      exact ret2 rfl (res_tmp rfl) (res_tmp rfl) ⟨hB.ext, _, _, rfl, (vInt (show inI64 (0) from by decide)), (vErr r123)⟩
     ·
      replace hf51 := im hf51 c124
      refine o_z ?_
      refine ewp_false rfl (ewp_skip (ewp_seq (ewp_region (o_mv rfl rfl (o_nc rfl rfl (o_fa rfl rfl ?_))))))
      replace h62 := h62.st S113
      refine o_ld (hc := Blk.cell (i := 5) (h62.1) rfl) rfl rfl ?_
      refine o_mv rfl rfl ?_
      obtain ⟨q125, e126, hf51⟩ := bs hf51
      replace h84 := ((h84.st S91).st S102).st S113
      refine l_call (O := O112) (R := fun w' F v => Vb w' F v q125) (c_succgen_Generator_Successors Fr.lt h84 h119 e126) rfl rfl fun v131 w127 O128 S129 h130 => ?_
      obtain ⟨A132, c133, rfl⟩ := h130.form
      refine o_ln rfl rfl ?_
      have l135 : q125.length ≤ 9223372036854775807 := Nat.le_trans h130.len.2.1 h130.len.2.2
      have r134 : inI64 (q125.length : Int) := rngNat l135
      refine o_mv rfl rfl (o_z ?_)
      replace h62 := h62.st S129
      replace h65 := (((h65.st S91).st S102).st S113).st S129
      replace h69 := (((h69.st S91).st S102).st S113).st S129
      replace h73 := (((h73.st S91).st S102).st S113).st S129
      replace h77 := (((h77.st S91).st S102).st S113).st S129
      replace h84 := h84.st S129
      replace h116 := h116.st S129
      obtain ⟨O136, S137, hz139, ha140, h138⟩ := Spc.shut (x := s43.2) (l0 := 3) (l1 := 4) (by decide) h62 h65 h69 h73 h77 h116 h84
      obtain ⟨res141, hL142, hf51⟩ := bs hf51
      refine ewp_join (aft res141 (fun (s143 : Spc) (x144 : Unit) => [(1, (.int .i64 x1)), (6, (.pointer (some ⟨p40, 0, none⟩))), (8, (.int .i64 s43.1))]) (fun s143 x144 w' => ∃ O' : Lab, Bs w A w' O' ∧ Ob 3 w' O' (.pointer (some ⟨p40, 0, none⟩)) s143)) ?_ ?_
      ·
       refine ewp_block ?_
       replace hB := (((((hB.st S61).st S91).st S102).st S113).st S129).st S137
       replace h130 := h130.st S137
       refine ewp_rng (σ := Spc) (X := Unit) (q125.length) hL142 rfl l135 (fun (s143 : Spc) (x144 : Unit) => [(1, (.int .i64 x1)), (6, (.pointer (some ⟨p40, 0, none⟩))), (8, (.int .i64 s43.1)), (58, (.slice A132 q125.length c133))]) _ (fun s143 x144 w' => ∃ O' : Lab, Bs w A w' O' ∧ Ob 3 w' O' (.pointer (some ⟨p40, 0, none⟩)) s143 ∧ Vb w' (Fr 0 w' O') (.slice A132 q125.length c133) q125) _ () ⟨O136, hB, h138, h130⟩ ⟨rfl, rfl, rfl, rfl, rfl, rfl, trivial⟩ (fun _ _ => ⟨rfl, rfl⟩) (fun _ _ => ⟨rfl, rfl, rfl, trivial⟩) (fun _ _ _ ⟨O', hB, h157, h130⟩ => ⟨O', hB, h157⟩) ⟨rfl, rfl, rfl⟩ ⟨rfl, rfl⟩ ?_
       rintro k145 a146 s143 x144 w147 cc149 hx150 ⟨O148, hB, h157, h130⟩ hf151 hret152 hbrk153
       have rk145 : inI64 (k145 : Int) := rngK hx150 l135
       refine ewp_seq (ewp_region ?_)
       obtain ⟨b158, o159, ce160, hA161, hl162, hd163, v165, rfl, h166, r169⟩ := h130.elem' hx150
       obtain ⟨A167, c168, rfl⟩ := h166.form
       refine o_iaE (hA := hA161) (hj := rfl) (hlt := hl162) rfl rfl rfl ?_
       refine o_la (hl := rfl) (hc := hd163) rfl rfl ?_
       refine l_alloc 5 O148 rfl fun g170 w171 O172 S173 h174 => ?_
       refine l_store h174 rfl rfl rfl (Nat.le_of_ble_eq_true rfl) (by first | exact allOne rfl | simp [Value.cells, Value.oneCell', errV_one]) fun w175 S176 h174 => ?_
       replace h174 : Lc 5 w175 O172 g170 83 [(.int .i64 a146.op), (.slice A167 a146.state.length c168)] := h174
       refine o_z ?_
       refine ewp_seq ?_
       replace h157 := (h157.st S173).st S176
       obtain ⟨O177, v181, v185, v189, v193, v197, v200, S178, ha180, h179, h182, h186, h190, h194, h198, h201⟩ := Spc.opn h157 3 4 (by decide)
       obtain ⟨A183, c184, rfl⟩ := h182.form
       obtain ⟨A187, c188, rfl⟩ := h186.form
       obtain ⟨A191, c192, rfl⟩ := h190.form
       obtain ⟨A195, c196, rfl⟩ := h194.form
       obtain ⟨p199, rfl⟩ := h198.ptr
       obtain ⟨p202, rfl, hq203⟩ := h201.ptr
       refine ewp_drawX [(6, [4])] O177 ?_
       refine x_pre (fuel := 8) [] [(0, true), (1, true), (2, true), (3, true), (4, true), (5, true)] (by kernel_rfl) rfl ?_
       refine h_mv rfl rfl rfl (h_nc rfl rfl rfl (h_fa rfl rfl rfl (h_ldC (hc := fun w' ⟨O', hq⟩ => Blk.cell (i := 4) ((h179.st hq (by decide)).1) rfl) rfl rfl rfl ?_)))
       refine h_fa rfl rfl rfl ?_
       replace h174 := h174.st S178
       refine h_ldC (hc := fun w' ⟨O', hq⟩ => Blk.cell (i := 1) ((h174.st hq (by decide)).1) rfl) rfl rfl rfl ?_
       refine hwp_nilT ?_
       refine x_one (i := 6) (by kernel_rfl) rfl ?_
       obtain ⟨q204, e205, hf151⟩ := bs hf151
       replace h166 := ((h166.st S173).st S176).st S178
       refine l_callM (O := O177) (c_registry_Registry_Add h198 h166 e205) rfl rfl fun v210 w206 O207 S208 h209 => ?_
       obtain ⟨v212, v213, v214, h211, rfl, h215, h216, h217⟩ := h209
       obtain ⟨rfl, r218⟩ := h215.int
       obtain rfl := h216.bool
       obtain ⟨rfl, r219⟩ := h217.err
       have hZ := S208.lst [4] (fun _ h => by cases h; decide)
       refine x_go [] hZ (by kernel_rfl) ?_
       refine x_pre (fuel := 0) [] [(7, true), (8, true), (9, true), (10, true), (11, true), (12, true), (13, true)] (by kernel_rfl) rfl ?_
       refine h_mv rfl rfl rfl (h_ex rfl rfl rfl rfl (h_ex rfl rfl rfl rfl (h_ex rfl rfl rfl rfl (h_as rfl rfl rfl (h_as rfl rfl rfl (h_as rfl rfl rfl (hwp_nilT ?_)))))))
       refine x_nil (by kernel_rfl) ?_
       refine ewp_seq (ewp_region (o_mv rfl rfl (o_rnS rfl rfl (fun c220 => ?_) fun c220 => ?_)))
       ·
        replace hf151 := ip hf151 c220
        refine o_z ?_
        refine ewp_true rfl (ewp_seq (ewp_region (o_miE rfl rfl ?_)))
        refine o_as rfl rfl (o_as rfl rfl (o_z ?_))
        refine ewp_ret ?_
        obtain rfl := sm hf151
        obtain rfl := hret152 _ rfl
        obtain rfl := sm (fin_ret hf51)
        obtain rfl := hret52 _ rfl
        obtain rfl := sm (fin_ret hm)
        replace hB := (((hB.st S173).st S176).st S178).st S208
        exact ret2 rfl (res_tmp rfl) (res_tmp rfl) ⟨hB.ext, _, _, rfl, (vInt (show inI64 (0) from by decide)), (vErr (by decide))⟩
       ·
        replace hf151 := im hf151 c220
        refine o_z ?_
        refine ewp_false rfl (ewp_skip ?_)
        replace h179 := h179.st S208
        replace h182 := h182.st S208
        replace h186 := h186.st S208
        replace h190 := h190.st S208
        replace h194 := h194.st S208
        replace h201 := h201.st S208
        obtain ⟨O221, S222, hz224, ha225, h223⟩ := Spc.shut (x := (⟨(⟨s143.t.vars, s143.t.init, s143.t.goal, s143.t.ops⟩ : Tsk), q204.2.2.2, s143.gen⟩ : Spc)) (l0 := 3) (l1 := 4) (by decide) h179 h182 h186 h190 h194 h211 h201
        obtain rfl := sm hf151
        refine (?_ : Exists _)
        replace hB := ((((hB.st S173).st S176).st S178).st S208).st S222
        replace h130 := ((((h130.st S173).st S176).st S178).st S208).st S222
        exact ⟨_, (), rfl, ⟨rfl, rfl, rfl, rfl, rfl, rfl, trivial⟩, _, hB, h223, h130⟩
      replace hB := (((((hB.st S61).st S91).st S102).st S113).st S129).st S137
      rintro l226 w227 ⟨s230, x231, rfl, hs229, O228, hB, h157⟩
      replace hf51 := fin_done hf51
      refine ewp_sub _ hs229 ?_
      refine ewp_region (o_mv rfl rfl ?_)
      obtain ⟨n232, e233, hf51⟩ := bs hf51
      have r234 := (chkI_rng e233)
      refine o_adE (he := e233) rfl rfl rfl ?_
      refine o_as rfl rfl (o_z ?_)
      obtain rfl := sm hf51
      refine (?_ : Exists _)
      exact ⟨_, (), rfl, ⟨rfl, rfl, rfl, trivial⟩, _, hB, h157, r234⟩
   ·
    replace hf51 := im hf51 c97
    refine o_z ?_
    refine ewp_false rfl (ewp_exit ?_)
    replace h62 := h62.st S91
    replace h65 := h65.st S91
    replace h69 := h69.st S91
    replace h73 := h73.st S91
    replace h77 := h77.st S91
    replace h84 := h84.st S91
    obtain ⟨O235, S236, hz238, ha239, h237⟩ := Spc.shut (x := s43.2) (l0 := 3) (l1 := 4) (by decide) h62 h65 h69 h73 h77 h94 h84
    obtain rfl := sm hf51
    refine (?_ : Exists _)
    replace hB := ((hB.st S61).st S91).st S236
    exact ⟨_, (), hbrk53 _ rfl, ⟨rfl, rfl, trivial⟩, _, hB, h237, r58⟩
  replace hB := (hB.st S23).st S29
  rintro l240 w241 ⟨s244, x245, rfl, hs243, O242, hB, h59, r58⟩
  replace hm := fin_done hm
  refine ewp_sub _ hs243 ?_
  refine ewp_seq (ewp_seq (ewp_region (o_mv rfl rfl (o_nc rfl rfl ?_))))
  obtain ⟨O246, v250, v254, v258, v262, v266, v269, S247, ha249, h248, h251, h255, h259, h263, h267, h270⟩ := Spc.opn h59 3 4 (by decide)
  obtain ⟨A252, c253, rfl⟩ := h251.form
  obtain ⟨A256, c257, rfl⟩ := h255.form
  obtain ⟨A260, c261, rfl⟩ := h259.form
  obtain ⟨A264, c265, rfl⟩ := h263.form
  obtain ⟨p268, rfl⟩ := h267.ptr
  obtain ⟨p271, rfl, hq272⟩ := h270.ptr
  refine o_fa rfl rfl (o_ld (hc := Blk.cell (i := 4) (h248.1) rfl) rfl rfl ?_)
  obtain ⟨q273, e274, hm⟩ := bs hm
  refine l_callM (O := O246) (c_registry_Registry_Len h267 e274) rfl rfl fun v279 w275 O276 S277 h278 => ?_
  obtain ⟨h280, h281⟩ := h278
  obtain ⟨rfl, r282⟩ := h281.int
  refine o_mv rfl rfl (o_gtS rfl rfl rfl (fun c283 => ?_) fun c283 => ?_)
  ·
   replace hm := ip hm c283
   refine o_z ?_
   refine ewp_true rfl (ewp_seq (ewp_region (o_miE rfl rfl ?_)))
   refine o_as rfl rfl (o_as rfl rfl (o_z ?_))
   refine ewp_ret ?_
   obtain rfl := sm hm
   replace hB := (hB.st S247).st S277
   exact ret2 rfl (res_tmp rfl) (res_tmp rfl) ⟨hB.ext, _, _, rfl, (vInt (show inI64 (0) from by decide)), (vErr (by decide))⟩
  ·
   replace hm := im hm c283
   refine o_z ?_
   refine ewp_false rfl (ewp_skip (ewp_seq (ewp_region (o_mv rfl rfl (o_nc rfl rfl (o_fa rfl rfl ?_))))))
   replace h248 := h248.st S277
   refine o_ld (hc := Blk.cell (i := 4) (h248.1) rfl) rfl rfl ?_
   obtain ⟨q284, e285, hm⟩ := bs hm
   refine l_callM (O := O276) (c_registry_Registry_Len h280 e285) rfl rfl fun v290 w286 O287 S288 h289 => ?_
   obtain ⟨h291, h292⟩ := h289
   obtain ⟨rfl, r293⟩ := h292.int
   refine o_as rfl rfl (o_as rfl rfl (o_z ?_))
   refine ewp_ret ?_
   obtain rfl := sm hm
   replace hB := ((hB.st S247).st S277).st S288
   exact ret2 rfl (res_tmp rfl) (res_tmp rfl) ⟨hB.ext, _, _, rfl, (vInt r293), (vErr (show inI64 0 from by decide))⟩
end
section
open Go Go.RowKit
attribute [local irreducible] ewp owp hwp hwq hws Ev Evg Fn retPost loud loudS Res1
attribute [local irreducible] hwx loudX
noncomputable def m_ref48_find (x0 : List (List Int)) (x1 : List Int) : Option Int :=
  bnd (rng (ρ := Int) (fun (k13 : Nat) (a14 : List Int) (s11 : Unit) => bnd (m_base_Ints a14 x1) fun q35 => if q35 = true then some (.ret (k13 : Int)) else some (.next ())) x0 0 ()) fun res9 => fin res9 fun (s46 : Unit) => some (-1)
theorem c_ref48_find {w : World} {A : Nat → Prop} (hA : ∀ k, A k → k < w.heap.size) {vx0 : Value} {x0 : List (List Int)} (hx0 : Vb w A vx0 x0) {vx1 : Value} {x1 : List Int} (hx1 : Vb w A vx1 x1) {r : Int} (hm : m_ref48_find x0 x1 = some r) :
    Fn Try.prog 44 [vx0, vx1] w fun v w' => Ext w w' ∧ Vb w' (upA A w w') v r := by
 obtain ⟨O, hB, hA0⟩ := enter hA
 replace hx0 := hx0.mono hA0
 obtain ⟨A3, c4, rfl⟩ := hx0.form
 replace hx1 := hx1.mono hA0
 obtain ⟨A5, c6, rfl⟩ := hx1.form
 refine fn_enter Try.func44 rfl Try.ntmps44 rfl ?_
 unfold m_ref48_find at hm
 refine ewp_seq (ewp_region (o_as rfl rfl (o_z ?_)))
 refine ewp_seq (ewp_seq (ewp_region (o_mv rfl rfl (o_ln rfl rfl ?_))))
 have l8 : x0.length ≤ 9223372036854775807 := Nat.le_trans hx0.len.2.1 hx0.len.2.2
 have r7 : inI64 (x0.length : Int) := rngNat l8
 refine o_mv rfl rfl (o_z ?_)
 obtain ⟨res9, hL10, hm⟩ := bs hm
 refine ewp_join (aft res9 (fun (s11 : Unit) (x12 : Unit) => []) (fun s11 x12 w' => ∃ O' : Lab, Bs w A w' O')) ?_ ?_
 ·
  refine ewp_block (ewp_rng (σ := Unit) (X := Unit) (x0.length) hL10 rfl l8 (fun (s11 : Unit) (x12 : Unit) => [(1, (.slice A5 x1.length c6)), (7, (.slice A3 x0.length c4))]) _ (fun s11 x12 w' => ∃ O' : Lab, Bs w A w' O' ∧ Vb w' (Fr 0 w' O') (.slice A5 x1.length c6) x1 ∧ Vb w' (Fr 0 w' O') (.slice A3 x0.length c4) x0) _ () ⟨O, hB, hx1, hx0⟩ ⟨rfl, rfl, rfl, rfl, trivial⟩ (fun _ _ => ⟨rfl, rfl⟩) (fun _ _ => trivial) (fun _ _ _ ⟨O', hB, hx1, hx0⟩ => ⟨O', hB⟩) ⟨rfl, rfl, rfl⟩ ⟨rfl, rfl⟩ ?_)
  rintro k13 a14 s11 x12 w15 cc17 hx18 ⟨O16, hB, hx1, hx0⟩ hf19 hret20 hbrk21
  have rk13 : inI64 (k13 : Int) := rngK hx18 l8
  refine ewp_seq (ewp_region (o_mv rfl rfl ?_))
  obtain ⟨b24, o25, ce26, hA27, hl28, hd29, v31, rfl, h32⟩ := hx0.elem' hx18
  replace h32 := Vb.of_slice h32
  obtain ⟨A33, c34, rfl⟩ := h32.form
  refine o_iaE (hA := hA27) (hj := rfl) (hlt := hl28) rfl rfl rfl ?_
  refine o_ld (hc := cat0 hd29) rfl rfl ?_
  refine o_as rfl rfl (o_as rfl rfl (o_z ?_))
  refine ewp_seq (ewp_region (o_mv rfl rfl (o_mv rfl rfl ?_)))
  obtain ⟨q35, e36, hf19⟩ := bs hf19
  refine l_callA (O := O16) (A := All w15) (R := fun w' F v => Vb w' F v q35) (c_base_Ints (fun _ h => h) (Vb.mono (F := Fr 0 w15 O16) h32 Fr.lt) (Vb.mono (F := Fr 0 w15 O16) hx1 Fr.lt) e36) rfl rfl fun v41 w37 O38 S39 h40 => ?_
  obtain rfl := h40.bool
  cases q35
  case false =>
   replace hf19 := iF hf19
   refine o_z ?_
   refine ewp_false rfl (ewp_skip ?_)
   obtain rfl := sm hf19
   refine (?_ : Exists _)
   replace hx0 := hx0.st S39
   replace hB := hB.st S39
   replace hx1 := hx1.st S39
   exact ⟨_, (), rfl, ⟨rfl, rfl, rfl, rfl, trivial⟩, _, hB, hx1, hx0⟩
  replace hf19 := iT hf19
  refine o_z ?_
  refine ewp_true rfl (ewp_seq (ewp_region (o_mv rfl rfl (o_as rfl rfl (o_z ?_)))))
  refine ewp_ret ?_
  obtain rfl := sm hf19
  obtain rfl := hret20 _ rfl
  obtain rfl := sm (fin_ret hm)
  replace hB := hB.st S39
  exact ret1v rfl (res_tmp rfl) ⟨hB.ext, (vInt rk13)⟩
 rintro l42 w43 ⟨s46, x47, rfl, hs45, O44, hB⟩
 replace hm := fin_done hm
 refine ewp_sub _ hs45 ?_
 refine ewp_seq (ewp_region (o_as rfl rfl (o_z ?_)))
 refine ewp_ret ?_
 obtain rfl := sm hm
 exact ret1v rfl (res_tmp rfl) ⟨hB.ext, (vInt (show inI64 (-1) from by decide))⟩
noncomputable def m_ref48_Search (x0 : Tsk) (x1 : Int) : Option Rsl :=
  bnd (lop (ρ := Rsl) (fun (s44 : (List (List Int)) × (List (List Int)) × Int) => if s44.2.2 < (s44.1.length : Int) then (bnd (atI s44.1 s44.2.2) fun a70 => bnd (m_base_Holds x0.goal a70) fun q85 => if q85 = true then bnd (atI s44.2.1 s44.2.2) fun a231 => bnd (m_base_Cost x0 x0.init a231) fun q246 => bnd (atI s44.2.1 s44.2.2) fun a258 => some (.ret (⟨1, a258, q246.1, s44.2.2⟩ : Rsl)) else if x1 ≤ s44.2.2 then (some (.ret (⟨3, ([] : List Int), 0, s44.2.2⟩ : Rsl))) else (bnd (rng (ρ := Ctl ((List (List Int)) × (List (List Int)) × Int) Rsl) (fun (k101 : Nat) (a102 : Opr) (s99 : (List (List Int)) × (List (List Int))) => bnd (m_base_Apply x0 a70 (k101 : Int)) fun q120 => bnd (if q120.2 = true then (bnd (m_ref48_find s99.1 q120.1) fun q138 => if q138 < 0 then (some true) else (some false)) else (some false) : Option Bool) fun y133 => if y133 = true then (bnd (appI 24 s99.1 [q120.1]) fun u152 => bnd (atI s99.2 s44.2.2) fun a170 => bnd (appI 8 ([] : List Int) a170) fun u185 => bnd (appI 8 u185 [(k101 : Int)]) fun u196 => bnd (appI 24 s99.2 [u196]) fun u210 => some (.next (u152, u210))) else (some (.next (s99.1, s99.2)))) x0.ops 0 (s44.1, s44.2.1)) fun res97 => fin res97 fun (s226 : (List (List Int)) × (List (List Int))) => bnd (chkI (s44.2.2 + 1)) fun n228 => some (.next (s226.1, s226.2, n228)))) else (some (.brk (s44.1, s44.2.1, s44.2.2)))) ([x0.init], [([] : List Int)], 0)) fun res42 => fin res42 fun (s279 : (List (List Int)) × (List (List Int)) × Int) => some (⟨2, ([] : List Int), 0, (s279.1.length : Int)⟩ : Rsl)
theorem c_ref48_Search {w : World} {A : Nat → Prop} (hA : ∀ k, A k → k < w.heap.size) {vx0 : Value} {x0 : Tsk} (hx0 : Vb w A vx0 x0) {x1 : Int} (rx1 : inI64 x1) {r : Rsl} (hm : m_ref48_Search x0 x1 = some r) :
    Fn Try.prog 15 [vx0, (.int .i64 x1)] w fun v w' => Ext w w' ∧ Vb w' (upA A w w') v r := by
 obtain ⟨O, hB, hA0⟩ := enter hA
 replace hx0 := hx0.mono hA0
 obtain ⟨cs3, rfl, v4, v5, v6, v7, rfl, h8, h11, h14, h17⟩ := hx0
 obtain ⟨A9, c10, rfl⟩ := h8.form
 obtain ⟨A12, c13, rfl⟩ := h11.form
 obtain ⟨A15, c16, rfl⟩ := h14.form
 obtain ⟨A18, c19, rfl⟩ := h17.form
 refine fn_enter Try.func15 rfl Try.ntmps15 rfl ?_
 unfold m_ref48_Search at hm
 refine ewp_seq (ewp_region (l_box 2 O rfl rfl fun g20 w21 O22 S23 h24 => ?_))
 replace h24 : Lc 2 w21 O22 g20 26 [(.slice A9 x0.vars.length c10), (.slice A12 x0.init.length c13), (.slice A15 x0.goal.length c16), (.slice A18 x0.ops.length c19)] := h24
 refine l_alloc 3 O22 rfl fun g25 w26 O27 S28 h29 => ?_
 refine o_z ?_
 refine ewp_seq (ewp_region (o_fa rfl rfl ?_))
 replace h24 := h24.st S28
 refine o_ld (hc := Blk.cell (i := 1) (h24.1) rfl) rfl rfl ?_
 replace h11 := (h11.st S23).st S28
 refine l_bslice 4 (by decide) O27 (xs := ([x0.init] : List (List Int))) rfl rfl rfl rfl ⟨h11, trivial⟩ (by decide) (by decide) rfl fun g30 w31 O32 S33 h34 => ?_
 refine o_as rfl rfl (o_z ?_)
 refine ewp_seq (ewp_region (l_bslice 5 (by decide) O32 (xs := ([([] : List Int)] : List (List Int))) rfl rfl rfl rfl ⟨(Vb.nil _ _), trivial⟩ (by decide) (by decide) rfl fun g36 w37 O38 S39 h40 => ?_))
 refine o_as rfl rfl (o_z ?_)
 refine ewp_seq (ewp_seq (ewp_region (o_as rfl rfl (o_z ?_))))
 obtain ⟨res42, hL43, hm⟩ := bs hm
 refine ewp_join (aft res42 (fun (s44 : (List (List Int)) × (List (List Int)) × Int) (x45 : (Option Addr × Nat) × (Option Addr × Nat)) => [(4, (.pointer (some ⟨g25, 0, none⟩))), (5, (.slice x45.1.1 s44.1.length x45.1.2))]) (fun s44 x45 w' => ∃ O' : Lab, Bs w A w' O' ∧ Lc 3 w' O' g25 30 [(.int .i64 0), (.slice none 0 0), (.int .i64 0), (.int .i64 0)] ∧ Rw 4 w' O' 22 (.slice x45.1.1 s44.1.length x45.1.2) s44.1 ∧ inI64 s44.2.2)) ?_ ?_
 ·
  refine ewp_block ?_
  replace hB := (((hB.st S23).st S28).st S33).st S39
  replace h8 := (((h8.st S23).st S28).st S33).st S39
  replace h11 := (h11.st S33).st S39
  replace h14 := (((h14.st S23).st S28).st S33).st S39
  replace h17 := (((h17.st S23).st S28).st S33).st S39
  replace h24 := (h24.st S33).st S39
  replace h29 := (h29.st S33).st S39
  replace h34 := h34.st S39
  refine ewp_lop (σ := (List (List Int)) × (List (List Int)) × Int) (X := (Option Addr × Nat) × (Option Addr × Nat)) hL43 (fun (s44 : (List (List Int)) × (List (List Int)) × Int) (x45 : (Option Addr × Nat) × (Option Addr × Nat)) => [(1, (.int .i64 x1)), (2, (.pointer (some ⟨g20, 0, none⟩))), (4, (.pointer (some ⟨g25, 0, none⟩))), (5, (.slice x45.1.1 s44.1.length x45.1.2)), (6, (.slice x45.2.1 s44.2.1.length x45.2.2)), (7, (.int .i64 s44.2.2))]) _ (fun s44 x45 w' => ∃ O' : Lab, Bs w A w' O' ∧ Lc 2 w' O' g20 26 [(.slice A9 x0.vars.length c10), (.slice A12 x0.init.length c13), (.slice A15 x0.goal.length c16), (.slice A18 x0.ops.length c19)] ∧ Vb w' (Fr 0 w' O') (.slice A9 x0.vars.length c10) x0.vars ∧ Vb w' (Fr 0 w' O') (.slice A12 x0.init.length c13) x0.init ∧ Vb w' (Fr 0 w' O') (.slice A15 x0.goal.length c16) x0.goal ∧ Vb w' (Fr 0 w' O') (.slice A18 x0.ops.length c19) x0.ops ∧ Lc 3 w' O' g25 30 [(.int .i64 0), (.slice none 0 0), (.int .i64 0), (.int .i64 0)] ∧ Rw 4 w' O' 22 (.slice x45.1.1 s44.1.length x45.1.2) s44.1 ∧ Rw 5 w' O' 22 (.slice x45.2.1 s44.2.1.length x45.2.2) s44.2.1 ∧ inI64 s44.2.2) _ (((some ⟨g30, 0, none⟩), 1), ((some ⟨g36, 0, none⟩), 1)) ⟨O38, hB, h24, h8, h11, h14, h17, h29, h34, h40, (show inI64 (0) from by decide)⟩ ⟨rfl, rfl, rfl, rfl, rfl, rfl, trivial⟩ ?_
  rintro s44 x45 w48 cc50 ⟨O49, hB, h24, h8, h11, h14, h17, h29, h62, h64, r66⟩ hf52 hret53 hbrk54
  refine ewp_seq (ewp_seq (ewp_region (o_mv rfl rfl (o_mv rfl rfl (o_ln rfl rfl ?_)))))
  have l68 : s44.1.length ≤ 9223372036854775807 := Nat.le_trans h62.len.2.1 h62.len.2.2
  have r67 : inI64 (s44.1.length : Int) := rngNat l68
  refine o_ltS rfl rfl rfl (fun c69 => ?_) fun c69 => ?_
  ·
   replace hf52 := ip hf52 c69
   refine o_z ?_
   refine ewp_true rfl (ewp_skip (ewp_seq (ewp_block (ewp_seq (ewp_region (o_mv rfl rfl (o_mv rfl rfl ?_)))))))
   obtain ⟨a70, e71, hf52⟩ := bs hf52
   obtain ⟨p73, x72⟩ := atI_some' e71
   obtain ⟨b74, o75, ce76, hA77, hl78, hd79, v81, rfl, h82⟩ := h62.elem x72
   replace h82 := Vb.of_slice h82
   obtain ⟨A83, c84, rfl⟩ := h82.form
   refine o_iaE (hA := hA77) (hj := (Int.toNat_of_nonneg p73).symm) (hlt := hl78) rfl rfl rfl ?_
   refine o_ld (hc := cat0 hd79) rfl rfl ?_
   refine o_as rfl rfl (o_z ?_)
   refine ewp_seq (ewp_seq (ewp_region (o_fa rfl rfl (o_ld (hc := Blk.cell (i := 2) (h24.1) rfl) rfl rfl ?_))))
   refine o_mv rfl rfl ?_
   obtain ⟨q85, e86, hf52⟩ := bs hf52
   refine l_callA (O := O49) (A := All w48) (R := fun w' F v => Vb w' F v q85) (c_base_Holds (fun _ h => h) (Vb.mono (F := Fr 0 w48 O49) h14 Fr.lt) (Vb.mono (F := Fr 0 w48 O49) h82 Fr.lt) e86) rfl rfl fun v91 w87 O88 S89 h90 => ?_
   obtain rfl := h90.bool
   cases q85
   case false =>
    replace hf52 := iF hf52
    refine o_z ?_
    refine ewp_false rfl (ewp_skip (ewp_seq (ewp_seq (ewp_region (o_mv rfl rfl (o_mv rfl rfl (o_geS rfl rfl rfl (fun c92 => ?_) fun c92 => ?_)))))))
    ·
     replace hf52 := ip hf52 c92
     refine o_z ?_
     refine ewp_true rfl (ewp_seq (ewp_region (o_mv rfl rfl (o_bd rfl rfl rfl ?_))))
     replace h29 := h29.st S89
     refine l_store h29 rfl rfl rfl (Nat.le_of_ble_eq_true rfl) (by first | exact allOne rfl | simp [Value.cells, Value.oneCell', errV_one]) fun w93 S94 h29 => ?_
     replace h29 : Lc 3 w93 O88 g25 30 [(.int .i64 3), (.slice none 0 0), (.int .i64 0), (.int .i64 s44.2.2)] := h29
     refine o_z ?_
     refine ewp_ret ?_
     obtain rfl := sm hf52
     obtain rfl := hret53 _ rfl
     obtain rfl := sm (fin_ret hm)
     replace hB := (hB.st S89).st S94
     exact ret1v rfl (res_cell (cs := [(.int .i64 3), (.slice none 0 0), (.int .i64 0), (.int .i64 s44.2.2)]) rfl rfl h29.1.cellsAt) ⟨hB.ext, (Vb.mono (F := Fr 0 w93 O88) (Vb.ofAgg (cs := [(.int .i64 3), (.slice none 0 0), (.int .i64 0), (.int .i64 s44.2.2)]) (x := (⟨3, ([] : List Int), 0, s44.2.2⟩ : Rsl)) rfl ⟨_, rfl, (Vb.nil _ _), (show inI64 (3) from by decide), (show inI64 0 from by decide), r66⟩) hB.out)⟩
    ·
     replace hf52 := im hf52 c92
     refine o_z ?_
     refine ewp_false rfl (ewp_skip (ewp_seq (ewp_region (o_fa rfl rfl ?_))))
     replace h24 := h24.st S89
     refine o_ld (hc := Blk.cell (i := 3) (h24.1) rfl) rfl rfl ?_
     refine o_ln rfl rfl ?_
     replace h17 := h17.st S89
     have l96 : x0.ops.length ≤ 9223372036854775807 := Nat.le_trans h17.len.2.1 h17.len.2.2
     have r95 : inI64 (x0.ops.length : Int) := rngNat l96
     refine o_mv rfl rfl (o_z ?_)
     obtain ⟨res97, hL98, hf52⟩ := bs hf52
     refine ewp_join (aft res97 (fun (s99 : (List (List Int)) × (List (List Int))) (x100 : (Option Addr × Nat) × (Option Addr × Nat)) => [(1, (.int .i64 x1)), (2, (.pointer (some ⟨g20, 0, none⟩))), (4, (.pointer (some ⟨g25, 0, none⟩))), (5, (.slice x100.1.1 s99.1.length x100.1.2)), (6, (.slice x100.2.1 s99.2.length x100.2.2)), (7, (.int .i64 s44.2.2))]) (fun s99 x100 w' => ∃ O' : Lab, Bs w A w' O' ∧ Lc 2 w' O' g20 26 [(.slice A9 x0.vars.length c10), (.slice A12 x0.init.length c13), (.slice A15 x0.goal.length c16), (.slice A18 x0.ops.length c19)] ∧ Vb w' (Fr 0 w' O') (.slice A9 x0.vars.length c10) x0.vars ∧ Vb w' (Fr 0 w' O') (.slice A12 x0.init.length c13) x0.init ∧ Vb w' (Fr 0 w' O') (.slice A15 x0.goal.length c16) x0.goal ∧ Vb w' (Fr 0 w' O') (.slice A18 x0.ops.length c19) x0.ops ∧ Lc 3 w' O' g25 30 [(.int .i64 0), (.slice none 0 0), (.int .i64 0), (.int .i64 0)] ∧ Rw 4 w' O' 22 (.slice x100.1.1 s99.1.length x100.1.2) s99.1 ∧ Rw 5 w' O' 22 (.slice x100.2.1 s99.2.length x100.2.2) s99.2)) ?_ ?_
     ·
      refine ewp_block ?_
      replace hB := hB.st S89
      replace h8 := h8.st S89
      replace h11 := h11.st S89
      replace h14 := h14.st S89
      replace h29 := h29.st S89
      replace h62 := h62.st S89
      replace h64 := h64.st S89
      replace h82 := h82.st S89
      refine ewp_rng (σ := (List (List Int)) × (List (List Int))) (X := (Option Addr × Nat) × (Option Addr × Nat)) (x0.ops.length) hL98 rfl l96 (fun (s99 : (List (List Int)) × (List (List Int))) (x100 : (Option Addr × Nat) × (Option Addr × Nat)) => [(1, (.int .i64 x1)), (2, (.pointer (some ⟨g20, 0, none⟩))), (4, (.pointer (some ⟨g25, 0, none⟩))), (5, (.slice x100.1.1 s99.1.length x100.1.2)), (6, (.slice x100.2.1 s99.2.length x100.2.2)), (7, (.int .i64 s44.2.2)), (8, (.slice A83 a70.length c84))]) _ (fun s99 x100 w' => ∃ O' : Lab, Bs w A w' O' ∧ Lc 2 w' O' g20 26 [(.slice A9 x0.vars.length c10), (.slice A12 x0.init.length c13), (.slice A15 x0.goal.length c16), (.slice A18 x0.ops.length c19)] ∧ Vb w' (Fr 0 w' O') (.slice A9 x0.vars.length c10) x0.vars ∧ Vb w' (Fr 0 w' O') (.slice A12 x0.init.length c13) x0.init ∧ Vb w' (Fr 0 w' O') (.slice A15 x0.goal.length c16) x0.goal ∧ Vb w' (Fr 0 w' O') (.slice A18 x0.ops.length c19) x0.ops ∧ Lc 3 w' O' g25 30 [(.int .i64 0), (.slice none 0 0), (.int .i64 0), (.int .i64 0)] ∧ Rw 4 w' O' 22 (.slice x100.1.1 s99.1.length x100.1.2) s99.1 ∧ Rw 5 w' O' 22 (.slice x100.2.1 s99.2.length x100.2.2) s99.2 ∧ Vb w' (Fr 0 w' O') (.slice A83 a70.length c84) a70) _ ((x45.1.1, x45.1.2), (x45.2.1, x45.2.2)) ⟨O88, hB, h24, h8, h11, h14, h17, h29, h62, h64, h82⟩ ⟨rfl, rfl, rfl, rfl, rfl, rfl, rfl, rfl, rfl, trivial⟩ (fun _ _ => ⟨rfl, rfl⟩) (fun _ _ => ⟨rfl, rfl, rfl, rfl, rfl, rfl, trivial⟩) (fun _ _ _ ⟨O', hB, h24, h8, h11, h14, h17, h29, h116, h118, h82⟩ => ⟨O', hB, h24, h8, h11, h14, h17, h29, h116, h118⟩) ⟨rfl, rfl, rfl⟩ ⟨rfl, rfl⟩ ?_
      rintro k101 a102 s99 x100 w103 cc105 hx106 ⟨O104, hB, h24, h8, h11, h14, h17, h29, h116, h118, h82⟩ hf107 hret108 hbrk109
      have rk101 : inI64 (k101 : Int) := rngK hx106 l96
      refine ewp_seq (ewp_region (o_mv rfl rfl (o_as rfl rfl (o_z ?_))))
      refine ewp_seq (ewp_region (o_la (hl := rfl) (hc := (h24.1).cellsAt) rfl rfl ?_))
      refine o_mv rfl rfl (o_mv rfl rfl ?_)
      obtain ⟨q120, e121, hf107⟩ := bs hf107
      refine l_call (O := O104) (R := fun w' F v => T2 w' F v q120) (c_base_Apply Fr.lt (Vb.ofAgg (cs := [(.slice A9 x0.vars.length c10), (.slice A12 x0.init.length c13), (.slice A15 x0.goal.length c16), (.slice A18 x0.ops.length c19)]) (x := x0) rfl ⟨_, _, _, _, rfl, h8, h11, h14, h17⟩) h82 rk101 e121) rfl rfl fun v126 w122 O123 S124 h125 => ?_
      obtain ⟨v127, v128, rfl, h129, h130⟩ := h125
      obtain ⟨A131, c132, rfl⟩ := h129.form
      obtain rfl := h130.bool
      refine o_mv rfl rfl (o_ex rfl rfl rfl (o_ex rfl rfl rfl (o_as rfl rfl (o_as rfl rfl (o_z ?_)))))
      refine ewp_seq ?_
      obtain ⟨y133, hy134, hf107⟩ := bs hf107
      refine ewp_join (fun l' w' => ∃ (x136 : Unit) (O' : Lab), subs l' [(1, (.int .i64 x1)), (2, (.pointer (some ⟨g20, 0, none⟩))), (4, (.pointer (some ⟨g25, 0, none⟩))), (5, (.slice x100.1.1 s99.1.length x100.1.2)), (6, (.slice x100.2.1 s99.2.length x100.2.2)), (7, (.int .i64 s44.2.2)), (8, (.slice A83 a70.length c84)), (11, (.int .i64 (k101 : Int))), (12, (.slice A131 q120.1.length c132)), (57, (.int .i64 (x0.ops.length : Int))), (58, (.int .i64 (k101 : Int))), (74, (.bool y133))] ∧ Bs w A w' O' ∧ Lc 2 w' O' g20 26 [(.slice A9 x0.vars.length c10), (.slice A12 x0.init.length c13), (.slice A15 x0.goal.length c16), (.slice A18 x0.ops.length c19)] ∧ Vb w' (Fr 0 w' O') (.slice A9 x0.vars.length c10) x0.vars ∧ Vb w' (Fr 0 w' O') (.slice A12 x0.init.length c13) x0.init ∧ Vb w' (Fr 0 w' O') (.slice A15 x0.goal.length c16) x0.goal ∧ Vb w' (Fr 0 w' O') (.slice A18 x0.ops.length c19) x0.ops ∧ Lc 3 w' O' g25 30 [(.int .i64 0), (.slice none 0 0), (.int .i64 0), (.int .i64 0)] ∧ Rw 4 w' O' 22 (.slice x100.1.1 s99.1.length x100.1.2) s99.1 ∧ Rw 5 w' O' 22 (.slice x100.2.1 s99.2.length x100.2.2) s99.2 ∧ Vb w' (Fr 0 w' O') (.slice A83 a70.length c84) a70 ∧ Vb w' (Fr 0 w' O') (.slice A131 q120.1.length c132) q120.1) ?_ ?_
      ·
       refine ewp_region (o_mv rfl rfl (o_mv rfl rfl ?_))
       rcases Bool.eq_false_or_eq_true q120.2 with c137 | c137
       ·
        try simp only [c137]
        replace hy134 := ip hy134 c137
        refine owp_yes rfl rfl (o_mv rfl rfl (owp_yes rfl rfl (o_mv rfl rfl (owp_yes rfl rfl ?_))))
        obtain ⟨q138, e139, hy134⟩ := bs hy134
        replace h116 := h116.st S124
        refine l_callA (O := O123) (A := All w122) (R := fun w' F v => Vb w' F v q138) (c_ref48_find (fun _ h => h) (h116).all (Vb.mono (F := Fr 0 w122 O123) h129 Fr.lt) e139) rfl rfl fun v144 w140 O141 S142 h143 => ?_
        obtain ⟨rfl, r145⟩ := h143.int
        refine owp_yes rfl rfl (o_ltS rfl rfl rfl (fun c146 => ?_) fun c146 => ?_)
        ·
         replace hy134 := ip hy134 c146
         refine o_pt rfl rfl rfl (o_z ?_)
         obtain rfl := sm hy134
         replace hB := (hB.st S124).st S142
         replace h8 := (h8.st S124).st S142
         replace h11 := (h11.st S124).st S142
         replace h14 := (h14.st S124).st S142
         replace h17 := (h17.st S124).st S142
         replace h24 := (h24.st S124).st S142
         replace h29 := (h29.st S124).st S142
         replace h82 := (h82.st S124).st S142
         replace h116 := h116.st S142
         replace h118 := (h118.st S124).st S142
         replace h129 := h129.st S142
         exact ⟨(), _, ⟨rfl, rfl, rfl, rfl, rfl, rfl, rfl, rfl, rfl, rfl, rfl, rfl, trivial⟩, hB, h24, h8, h11, h14, h17, h29, h116, h118, h82, h129⟩
        ·
         replace hy134 := im hy134 c146
         refine o_pt rfl rfl rfl (o_z ?_)
         obtain rfl := sm hy134
         replace hB := (hB.st S124).st S142
         replace h8 := (h8.st S124).st S142
         replace h11 := (h11.st S124).st S142
         replace h14 := (h14.st S124).st S142
         replace h17 := (h17.st S124).st S142
         replace h24 := (h24.st S124).st S142
         replace h29 := (h29.st S124).st S142
         replace h82 := (h82.st S124).st S142
         replace h116 := h116.st S142
         replace h118 := (h118.st S124).st S142
         replace h129 := h129.st S142
         exact ⟨(), _, ⟨rfl, rfl, rfl, rfl, rfl, rfl, rfl, rfl, rfl, rfl, rfl, rfl, trivial⟩, hB, h24, h8, h11, h14, h17, h29, h116, h118, h82, h129⟩
       ·
        try simp only [c137]
        replace hy134 := im' hy134 c137
        refine owp_no rfl rfl rfl rfl (owp_no rfl rfl rfl rfl (owp_no rfl rfl rfl rfl (owp_no rfl rfl rfl rfl (o_pf rfl rfl rfl (o_z ?_)))))
        obtain rfl := sm hy134
        replace hB := hB.st S124
        replace h8 := h8.st S124
        replace h11 := h11.st S124
        replace h14 := h14.st S124
        replace h17 := h17.st S124
        replace h24 := h24.st S124
        replace h29 := h29.st S124
        replace h82 := h82.st S124
        replace h116 := h116.st S124
        replace h118 := h118.st S124
        exact ⟨(), _, ⟨rfl, rfl, rfl, rfl, rfl, rfl, rfl, rfl, rfl, rfl, rfl, rfl, trivial⟩, hB, h24, h8, h11, h14, h17, h29, h116, h118, h82, h129⟩
      replace hB := hB.st S124
      replace h8 := h8.st S124
      replace h11 := h11.st S124
      replace h14 := h14.st S124
      replace h17 := h17.st S124
      replace h24 := h24.st S124
      replace h29 := h29.st S124
      replace h82 := h82.st S124
      replace h116 := h116.st S124
      replace h118 := h118.st S124
      rintro l147 w148 ⟨x136, O149, hs150, hB, h24, h8, h11, h14, h17, h29, h116, h118, h82, h129⟩
      refine ewp_sub _ hs150 ?_
      refine ewp_cond rfl (fun c151 => ?_) (fun c151 => ?_)
      ·
       replace hf107 := ip hf107 c151
       refine ewp_seq (ewp_region (o_mv rfl rfl (o_mv rfl rfl ?_)))
       obtain ⟨u152, e153, hf107⟩ := bs hf107
       obtain ⟨e153, e154, e155⟩ := appI_some e153
       refine l_append1 rfl (a := q120.1) h116 h129 (fun _ => rfl) rfl (by decide) (by decide) e154 e155 ⟨rfl, rfl⟩ fun g156 A157 c158 w159 O160 S161 h162 => ?_
       rw [← e153] at h162 ⊢
       refine o_as rfl rfl (o_z ?_)
       refine ewp_region (o_mv rfl rfl (l_bslice 6 (by decide) O160 (xs := (([] : List Int) : List Int)) rfl rfl rfl rfl trivial (by decide) (by decide) rfl fun g164 w165 O166 S167 h168 => ?_))
       refine o_mv rfl rfl (o_mv rfl rfl ?_)
       obtain ⟨a170, e171, hf107⟩ := bs hf107
       obtain ⟨p173, x172⟩ := atI_some' e171
       replace h118 := (h118.st S161).st S167
       obtain ⟨b174, o175, ce176, hA177, hl178, hd179, v181, rfl, h182⟩ := h118.elem x172
       replace h182 := Vb.of_slice h182
       obtain ⟨A183, c184, rfl⟩ := h182.form
       refine o_iaE (hA := hA177) (hj := (Int.toNat_of_nonneg p173).symm) (hlt := hl178) rfl rfl rfl ?_
       refine o_ld (hc := cat0 hd179) rfl rfl ?_
       obtain ⟨u185, e186, hf107⟩ := bs hf107
       obtain ⟨e186, e187, e188⟩ := appI_some e186
       refine l_append rfl h168 (h182.rd) rfl rfl (by decide) e187 e188 rfl fun A189 c190 w191 O192 S193 h194 => ?_
       rw [← e186] at h194 ⊢
       refine o_mv rfl rfl ?_
       obtain ⟨u196, e197, hf107⟩ := bs hf107
       obtain ⟨e197, e198, e199⟩ := appI_some e197
       refine l_append1 rfl (a := (k101 : Int)) h194 (vInt rk101) (fun _ => rfl) rfl (by decide) (by decide) e198 e199 ⟨rfl, rfl⟩ fun g200 A201 c202 w203 O204 S205 h206 => ?_
       rw [← e197] at h206 ⊢
       obtain ⟨O208, S209, h206⟩ := h206.freeze
       obtain ⟨u210, e211, hf107⟩ := bs hf107
       obtain ⟨e211, e212, e213⟩ := appI_some e211
       replace h118 := ((h118.st S193).st S205).st S209
       refine l_append1 rfl (a := u196) h118 h206 (fun _ => rfl) rfl (by decide) (by decide) e212 e213 ⟨rfl, rfl⟩ fun g214 A215 c216 w217 O218 S219 h220 => ?_
       rw [← e211] at h220 ⊢
       refine o_as rfl rfl (o_z ?_)
       obtain rfl := sm hf107
       refine (?_ : Exists _)
       replace hB := (((((hB.st S161).st S167).st S193).st S205).st S209).st S219
       replace h8 := (((((h8.st S161).st S167).st S193).st S205).st S209).st S219
       replace h11 := (((((h11.st S161).st S167).st S193).st S205).st S209).st S219
       replace h14 := (((((h14.st S161).st S167).st S193).st S205).st S209).st S219
       replace h17 := (((((h17.st S161).st S167).st S193).st S205).st S209).st S219
       replace h24 := (((((h24.st S161).st S167).st S193).st S205).st S209).st S219
       replace h29 := (((((h29.st S161).st S167).st S193).st S205).st S209).st S219
       replace h82 := (((((h82.st S161).st S167).st S193).st S205).st S209).st S219
       replace h162 := ((((h162.st S167).st S193).st S205).st S209).st S219
       exact ⟨_, ((A157, c158), (A215, c216)), rfl, ⟨rfl, rfl, rfl, rfl, rfl, rfl, rfl, rfl, rfl, trivial⟩, _, hB, h24, h8, h11, h14, h17, h29, h162, h220, h82⟩
      ·
       replace hf107 := im' hf107 c151
       refine ewp_skip ?_
       obtain rfl := sm hf107
       refine (?_ : Exists _)
       exact ⟨_, ((x100.1.1, x100.1.2), (x100.2.1, x100.2.2)), rfl, ⟨rfl, rfl, rfl, rfl, rfl, rfl, rfl, rfl, rfl, trivial⟩, _, hB, h24, h8, h11, h14, h17, h29, h116, h118, h82⟩
     replace hB := hB.st S89
     replace h8 := h8.st S89
     replace h11 := h11.st S89
     replace h14 := h14.st S89
     replace h29 := h29.st S89
     rintro l222 w223 ⟨s226, x227, rfl, hs225, O224, hB, h24, h8, h11, h14, h17, h29, h116, h118⟩
     replace hf52 := fin_done hf52
     refine ewp_sub _ hs225 ?_
     refine ewp_region (o_mv rfl rfl ?_)
     obtain ⟨n228, e229, hf52⟩ := bs hf52
     have r230 := (chkI_rng e229)
     refine o_adE (he := e229) rfl rfl rfl ?_
     refine o_as rfl rfl (o_z ?_)
     obtain rfl := sm hf52
     refine (?_ : Exists _)
     exact ⟨_, ((x227.1.1, x227.1.2), (x227.2.1, x227.2.2)), rfl, ⟨rfl, rfl, rfl, rfl, rfl, rfl, trivial⟩, _, hB, h24, h8, h11, h14, h17, h29, h116, h118, r230⟩
   replace hf52 := iT hf52
   refine o_z ?_
   refine ewp_true rfl (ewp_seq (ewp_drawX [(7, [])] O88 ?_))
   refine x_pre (fuel := 6) [] [(0, true), (1, true), (2, true), (3, true), (4, true), (5, true), (6, true)] (by kernel_rfl) rfl ?_
   replace h24 := h24.st S89
   refine h_laB (hl := rfl) (hb := fun w' ⟨O', hq⟩ => ((h24.st hq (by decide)).1).cellsAt) rfl rfl rfl ?_
   refine h_fa rfl rfl rfl (h_ldC (hc := fun w' ⟨O', hq⟩ => Blk.cell (i := 1) ((h24.st hq (by decide)).1) rfl) rfl rfl rfl ?_)
   refine h_mv rfl rfl rfl (h_mv rfl rfl rfl ?_)
   obtain ⟨a231, e232, hf52⟩ := bs hf52
   obtain ⟨p234, x233⟩ := atI_some' e232
   replace h64 := h64.st S89
   obtain ⟨b235, o236, ce237, hA238, hF241, hl239, hd240, v242, rfl, h243⟩ := h64.elemF x233
   replace h243 := Vb.of_slice h243
   obtain ⟨A244, c245, rfl⟩ := h243.form
   refine h_iaE (hA := hA238) (hj := (Int.toNat_of_nonneg p234).symm) (hlt := hl239) rfl rfl rfl rfl ?_
   refine h_ldC (hc := fun w' ⟨O', hq⟩ => cat0 (cellsAt_agree (hq.agree (i := 5) (by decide)) hF241 hd240)) rfl rfl rfl ?_
   refine hwp_nilT ?_
   refine x_one (i := 7) (by kernel_rfl) rfl ?_
   obtain ⟨q246, e247, hf52⟩ := bs hf52
   replace h8 := h8.st S89
   replace h11 := h11.st S89
   replace h14 := h14.st S89
   replace h17 := h17.st S89
   refine l_callA (O := O88) (A := All w87) (R := fun w' F v => T2 w' F v q246) (c_base_Cost (fun _ h => h) (Vb.mono (F := Fr 0 w87 O88) (Vb.ofAgg (cs := [(.slice A9 x0.vars.length c10), (.slice A12 x0.init.length c13), (.slice A15 x0.goal.length c16), (.slice A18 x0.ops.length c19)]) (x := x0) rfl ⟨_, _, _, _, rfl, h8, h11, h14, h17⟩) Fr.lt) (Vb.mono (F := Fr 0 w87 O88) h11 Fr.lt) (Vb.mono (F := Fr 0 w87 O88) h243 Fr.lt) e247) rfl rfl fun v252 w248 O249 S250 h251 => ?_
   obtain ⟨v253, v254, rfl, h255, h256⟩ := h251
   obtain ⟨rfl, r257⟩ := h255.int
   obtain rfl := h256.bool
   have hZ := S250.lst [] (fun _ h => h.elim)
   refine x_go [] hZ (by kernel_rfl) ?_
   refine x_pre (fuel := 0) [] [(8, true), (9, true), (10, true), (11, true), (12, true)] (by kernel_rfl) rfl ?_
   refine h_mv rfl rfl rfl (h_ex rfl rfl rfl rfl (h_ex rfl rfl rfl rfl (h_as rfl rfl rfl (h_as rfl rfl rfl (hwp_nilT ?_)))))
   refine x_nil (by kernel_rfl) ?_
   refine ewp_seq (ewp_region (o_mv rfl rfl (o_mv rfl rfl ?_)))
   obtain ⟨a258, e259, hf52⟩ := bs hf52
   obtain ⟨p261, x260⟩ := atI_some' e259
   replace h64 := h64.st S250
   obtain ⟨b262, o263, ce264, hA265, hl266, hd267, v269, rfl, h270⟩ := h64.elem x260
   replace h270 := Vb.of_slice h270
   obtain ⟨A271, c272, rfl⟩ := h270.form
   refine o_iaE (hA := hA265) (hj := (Int.toNat_of_nonneg p261).symm) (hlt := hl266) rfl rfl rfl ?_
   refine o_ld (hc := cat0 hd267) rfl rfl ?_
   refine o_mv rfl rfl (o_mv rfl rfl (o_bd rfl rfl rfl ?_))
   replace h29 := (h29.st S89).st S250
   refine l_store h29 rfl rfl rfl (Nat.le_of_ble_eq_true rfl) (by first | exact allOne rfl | simp [Value.cells, Value.oneCell', errV_one]) fun w273 S274 h29 => ?_
   replace h29 : Lc 3 w273 O249 g25 30 [(.int .i64 1), (.slice A271 a258.length c272), (.int .i64 q246.1), (.int .i64 s44.2.2)] := h29
   refine o_z ?_
   refine ewp_ret ?_
   obtain rfl := sm hf52
   obtain rfl := hret53 _ rfl
   obtain rfl := sm (fin_ret hm)
   replace hB := ((hB.st S89).st S250).st S274
   replace h270 := h270.st S274
   exact ret1v rfl (res_cell (cs := [(.int .i64 1), (.slice A271 a258.length c272), (.int .i64 q246.1), (.int .i64 s44.2.2)]) rfl rfl h29.1.cellsAt) ⟨hB.ext, (Vb.mono (F := Fr 0 w273 O249) (Vb.ofAgg (cs := [(.int .i64 1), (.slice A271 a258.length c272), (.int .i64 q246.1), (.int .i64 s44.2.2)]) (x := (⟨1, a258, q246.1, s44.2.2⟩ : Rsl)) rfl ⟨_, rfl, h270, (show inI64 (1) from by decide), r257, r66⟩) hB.out)⟩
  ·
   replace hf52 := im hf52 c69
   refine o_z ?_
   refine ewp_false rfl (ewp_exit ?_)
   obtain rfl := sm hf52
   refine (?_ : Exists _)
   exact ⟨_, ((x45.1.1, x45.1.2), (x45.2.1, x45.2.2)), hbrk54 _ rfl, ⟨rfl, rfl, trivial⟩, _, hB, h29, h62, r66⟩
 replace hB := (((hB.st S23).st S28).st S33).st S39
 replace h29 := (h29.st S33).st S39
 rintro l275 w276 ⟨s279, x280, rfl, hs278, O277, hB, h29, h62, r66⟩
 replace hm := fin_done hm
 refine ewp_sub _ hs278 ?_
 refine ewp_seq (ewp_region (o_mv rfl rfl (o_ln rfl rfl ?_)))
 have l282 : s279.1.length ≤ 9223372036854775807 := Nat.le_trans h62.len.2.1 h62.len.2.2
 have r281 : inI64 (s279.1.length : Int) := rngNat l282
 refine o_bd rfl rfl rfl ?_
 refine l_store h29 rfl rfl rfl (Nat.le_of_ble_eq_true rfl) (by first | exact allOne rfl | simp [Value.cells, Value.oneCell', errV_one]) fun w283 S284 h29 => ?_
 replace h29 : Lc 3 w283 O277 g25 30 [(.int .i64 2), (.slice none 0 0), (.int .i64 0), (.int .i64 (s279.1.length : Int))] := h29
 refine o_z ?_
 refine ewp_ret ?_
 obtain rfl := sm hm
 replace hB := hB.st S284
 exact ret1v rfl (res_cell (cs := [(.int .i64 2), (.slice none 0 0), (.int .i64 0), (.int .i64 (s279.1.length : Int))]) rfl rfl h29.1.cellsAt) ⟨hB.ext, (Vb.mono (F := Fr 0 w283 O277) (Vb.ofAgg (cs := [(.int .i64 2), (.slice none 0 0), (.int .i64 0), (.int .i64 (s279.1.length : Int))]) (x := (⟨2, ([] : List Int), 0, (s279.1.length : Int)⟩ : Rsl)) rfl ⟨_, rfl, (Vb.nil _ _), (show inI64 (2) from by decide), (show inI64 0 from by decide), r281⟩) hB.out)⟩
noncomputable def m_ref48_Same (x0 : Rsl) (x1 : Rsl) : Option Bool :=
  bnd (if x0.verdict = x1.verdict then (bnd (m_base_Ints x0.plan x1.plan) fun q34 => if q34 = true then if x0.cost = x1.cost then (if x0.expanded = x1.expanded then (some true) else (some false)) else (some false) else some false) else (some false) : Option Bool) fun y29 => some y29
theorem c_ref48_Same {w : World} {A : Nat → Prop} (hA : ∀ k, A k → k < w.heap.size) {vx0 : Value} {x0 : Rsl} (hx0 : Vb w A vx0 x0) {vx1 : Value} {x1 : Rsl} (hx1 : Vb w A vx1 x1) {r : Bool} (hm : m_ref48_Same x0 x1 = some r) :
    Fn Try.prog 14 [vx0, vx1] w fun v w' => Ext w w' ∧ Vb w' (upA A w w') v r := by
 obtain ⟨O, hB, hA0⟩ := enter hA
 replace hx0 := hx0.mono hA0
 obtain ⟨cs3, rfl, v4, rfl, h5, r8, r9, r10⟩ := hx0
 obtain ⟨A6, c7, rfl⟩ := h5.form
 replace hx1 := hx1.mono hA0
 obtain ⟨cs11, rfl, v12, rfl, h13, r16, r17, r18⟩ := hx1
 obtain ⟨A14, c15, rfl⟩ := h13.form
 refine fn_enter Try.func14 rfl Try.ntmps14 rfl ?_
 unfold m_ref48_Same at hm
 refine ewp_seq (ewp_region (l_box 2 O rfl rfl fun g19 w20 O21 S22 h23 => ?_))
 replace h23 : Lc 2 w20 O21 g19 30 [(.int .i64 x0.verdict), (.slice A6 x0.plan.length c7), (.int .i64 x0.cost), (.int .i64 x0.expanded)] := h23
 refine l_box 3 O21 rfl rfl fun g24 w25 O26 S27 h28 => ?_
 replace h28 : Lc 3 w25 O26 g24 30 [(.int .i64 x1.verdict), (.slice A14 x1.plan.length c15), (.int .i64 x1.cost), (.int .i64 x1.expanded)] := h28
 refine o_as rfl rfl (o_z ?_)
 refine ewp_seq ?_
 obtain ⟨y29, hy30, hm⟩ := bs hm
 refine ewp_join (fun l' w' => ∃ (x32 : Unit) (O' : Lab), subs l' [(4, (.bool y29))] ∧ Bs w A w' O') ?_ ?_
 ·
  refine ewp_region (o_fa rfl rfl ?_)
  replace h23 := h23.st S27
  refine o_ld (hc := Blk.cell (i := 0) (h23.1) rfl) rfl rfl ?_
  refine o_fa rfl rfl (o_ld (hc := Blk.cell (i := 0) (h28.1) rfl) rfl rfl ?_)
  refine o_eeS rfl rfl rfl (fun c33 => ?_) fun c33 => ?_
  ·
   replace hy30 := ip hy30 c33
   refine o_mv rfl rfl (owp_yes rfl rfl (o_fa rfl rfl (owp_yes rfl rfl (o_ld (hc := Blk.cell (i := 1) (h23.1) rfl) rfl rfl ?_))))
   refine owp_yes rfl rfl (o_fa rfl rfl (owp_yes rfl rfl (o_ld (hc := Blk.cell (i := 1) (h28.1) rfl) rfl rfl ?_)))
   refine owp_yes rfl rfl ?_
   obtain ⟨q34, e35, hy30⟩ := bs hy30
   replace h5 := (h5.st S22).st S27
   replace h13 := (h13.st S22).st S27
   refine l_callA (O := O26) (A := All w25) (R := fun w' F v => Vb w' F v q34) (c_base_Ints (fun _ h => h) (Vb.mono (F := Fr 0 w25 O26) h5 Fr.lt) (Vb.mono (F := Fr 0 w25 O26) h13 Fr.lt) e35) rfl rfl fun v40 w36 O37 S38 h39 => ?_
   obtain rfl := h39.bool
   cases q34
   case false =>
    replace hy30 := iF hy30
    refine o_pt rfl rfl rfl (o_mv rfl rfl (owp_no rfl rfl rfl rfl (owp_no rfl rfl rfl rfl (owp_no rfl rfl rfl rfl (owp_no rfl rfl rfl rfl (owp_no rfl rfl rfl rfl (o_pf rfl rfl rfl (o_mv rfl rfl (owp_no rfl rfl rfl rfl (owp_no rfl rfl rfl rfl (owp_no rfl rfl rfl rfl (owp_no rfl rfl rfl rfl (owp_no rfl rfl rfl rfl (o_pf rfl rfl rfl ?_))))))))))))))
    refine o_as rfl rfl (o_z ?_)
    obtain rfl := sm hy30
    replace hB := ((hB.st S22).st S27).st S38
    exact ⟨(), _, ⟨rfl, trivial⟩, hB⟩
   replace hy30 := iT hy30
   refine o_pt rfl rfl rfl (o_mv rfl rfl (owp_yes rfl rfl (o_fa rfl rfl (owp_yes rfl rfl ?_))))
   replace h23 := h23.st S38
   refine o_ld (hc := Blk.cell (i := 2) (h23.1) rfl) rfl rfl ?_
   refine owp_yes rfl rfl (o_fa rfl rfl (owp_yes rfl rfl ?_))
   replace h28 := h28.st S38
   refine o_ld (hc := Blk.cell (i := 2) (h28.1) rfl) rfl rfl ?_
   refine owp_yes rfl rfl (o_eeS rfl rfl rfl (fun c41 => ?_) fun c41 => ?_)
   ·
    replace hy30 := ip hy30 c41
    refine o_pt rfl rfl rfl (o_mv rfl rfl (owp_yes rfl rfl (o_fa rfl rfl (owp_yes rfl rfl (o_ld (hc := Blk.cell (i := 3) (h23.1) rfl) rfl rfl ?_)))))
    refine owp_yes rfl rfl (o_fa rfl rfl (owp_yes rfl rfl (o_ld (hc := Blk.cell (i := 3) (h28.1) rfl) rfl rfl ?_)))
    refine owp_yes rfl rfl (o_eeS rfl rfl rfl (fun c42 => ?_) fun c42 => ?_)
    ·
     replace hy30 := ip hy30 c42
     refine o_pt rfl rfl rfl (o_as rfl rfl (o_z ?_))
     obtain rfl := sm hy30
     replace hB := ((hB.st S22).st S27).st S38
     exact ⟨(), _, ⟨rfl, trivial⟩, hB⟩
    ·
     replace hy30 := im hy30 c42
     refine o_pt rfl rfl rfl (o_as rfl rfl (o_z ?_))
     obtain rfl := sm hy30
     replace hB := ((hB.st S22).st S27).st S38
     exact ⟨(), _, ⟨rfl, trivial⟩, hB⟩
   ·
    replace hy30 := im hy30 c41
    refine o_pt rfl rfl rfl (o_mv rfl rfl (owp_no rfl rfl rfl rfl (owp_no rfl rfl rfl rfl (owp_no rfl rfl rfl rfl (owp_no rfl rfl rfl rfl (owp_no rfl rfl rfl rfl (o_pf rfl rfl rfl (o_as rfl rfl (o_z ?_)))))))))
    obtain rfl := sm hy30
    replace hB := ((hB.st S22).st S27).st S38
    exact ⟨(), _, ⟨rfl, trivial⟩, hB⟩
  ·
   replace hy30 := im hy30 c33
   refine o_mv rfl rfl (owp_no rfl rfl rfl rfl (owp_no rfl rfl rfl rfl (owp_no rfl rfl rfl rfl (owp_no rfl rfl rfl rfl (owp_no rfl rfl rfl rfl (o_pf rfl rfl rfl (o_mv rfl rfl (owp_no rfl rfl rfl rfl (owp_no rfl rfl rfl rfl (owp_no rfl rfl rfl rfl (owp_no rfl rfl rfl rfl (owp_no rfl rfl rfl rfl (o_pf rfl rfl rfl (o_mv rfl rfl ?_))))))))))))))
   refine owp_no rfl rfl rfl rfl (owp_no rfl rfl rfl rfl (owp_no rfl rfl rfl rfl (owp_no rfl rfl rfl rfl (owp_no rfl rfl rfl rfl (o_pf rfl rfl rfl (o_as rfl rfl (o_z ?_)))))))
   obtain rfl := sm hy30
   replace hB := (hB.st S22).st S27
   exact ⟨(), _, ⟨rfl, trivial⟩, hB⟩
 replace hB := (hB.st S22).st S27
 rintro l43 w44 ⟨x32, O45, hs46, hB⟩
 refine ewp_sub _ hs46 ?_
 refine ewp_ret ?_
 obtain rfl := sm hm
 exact ret1v rfl (res_tmp rfl) ⟨hB.ext, vBool⟩
noncomputable def m_law48_example  : Option Tsk :=
  bnd (rngN (ρ := Tsk) (fun (k35 : Nat) (s33 : (List Opr)) => bnd (chkI ((k35 : Int) + 1)) fun n56 => bnd (appI 72 s33 [(⟨(⟨#[]⟩ : ByteArray), 1, [(⟨0, (k35 : Int)⟩ : Fct)], [(⟨([] : List Fct), 0, n56⟩ : Eff)]⟩ : Opr)]) fun u69 => some (.next u69)) 3 ([] : List Opr)) fun res31 => fin res31 fun (s87 : (List Opr)) => bnd (appI 72 s87 [(⟨(⟨#[]⟩ : ByteArray), 5, [(⟨0, 0⟩ : Fct)], [(⟨([] : List Fct), 0, 3⟩ : Eff)]⟩ : Opr)]) fun u105 => some (⟨([4] : List Int), ([0] : List Int), [(⟨0, 3⟩ : Fct)], u105⟩ : Tsk)
theorem c_law48_example {w : World} {A : Nat → Prop} (hA : ∀ k, A k → k < w.heap.size)  {r : Tsk} (hm : m_law48_example  = some r) :
    Fn Try.prog 32 [] w fun v w' => Ext w w' ∧ Vb w' (upA A w w') v r := by
 obtain ⟨O, hB, hA0⟩ := enter hA
 refine fn_enter Try.func32 rfl Try.ntmps32 rfl ?_
 unfold m_law48_example at hm
 refine ewp_seq (ewp_region (l_alloc 2 O rfl fun g1 w2 O3 S4 h5 => ?_))
 refine o_z ?_
 refine ewp_seq (ewp_region (l_bslice 3 (by decide) O3 (xs := (([4] : List Int) : List Int)) rfl rfl rfl rfl ⟨(vInt (show inI64 (4) from by decide)), trivial⟩ (by decide) (by decide) rfl fun g6 w7 O8 S9 h10 => ?_))
 refine l_bslice 4 (by decide) O8 (xs := (([0] : List Int) : List Int)) rfl rfl rfl rfl ⟨(vInt (show inI64 (0) from by decide)), trivial⟩ (by decide) (by decide) rfl fun g12 w13 O14 S15 h16 => ?_
 refine o_bd rfl rfl rfl ?_
 refine l_bslice 5 (by decide) O14 (xs := ([(⟨0, 3⟩ : Fct)] : List Fct)) rfl rfl rfl rfl ⟨(Vb.ofAgg (cs := [(.int .i64 0), (.int .i64 3)]) (x := (⟨0, 3⟩ : Fct)) rfl ⟨rfl, (show inI64 (0) from by decide), (show inI64 (3) from by decide)⟩), trivial⟩ (by decide) (by decide) rfl fun g18 w19 O20 S21 h22 => ?_
 refine o_bd rfl rfl rfl ?_
 refine l_alloc 6 O20 rfl fun g24 w25 O26 S27 h28 => ?_
 refine l_store h28 rfl rfl rfl (Nat.le_of_ble_eq_true rfl) (by first | exact allOne rfl | simp [Value.cells, Value.oneCell', errV_one]) fun w29 S30 h28 => ?_
 replace h28 : Lc 6 w29 O26 g24 26 [(.slice (some ⟨g6, 0, none⟩) ([4] : List Int).length 1), (.slice (some ⟨g12, 0, none⟩) ([0] : List Int).length 1), (.slice (some ⟨g18, 0, none⟩) [(⟨0, 3⟩ : Fct)].length 1), (.slice none 0 0)] := h28
 refine o_z ?_
 refine ewp_seq (ewp_seq (ewp_region (o_mv rfl rfl (o_z ?_))))
 obtain ⟨res31, hL32, hm⟩ := bs hm
 refine ewp_join (aft res31 (fun (s33 : (List Opr)) (x34 : (Option Addr × Nat)) => [(0, (.pointer (some ⟨g1, 0, none⟩))), (1, (.pointer (some ⟨g24, 0, none⟩)))]) (fun s33 x34 w' => ∃ O' : Lab, Bs w A w' O' ∧ Lc 2 w' O' g1 26 [(.slice none 0 0), (.slice none 0 0), (.slice none 0 0), (.slice none 0 0)] ∧ Lc 6 w' O' g24 26 [(.slice (some ⟨g6, 0, none⟩) ([4] : List Int).length 1), (.slice (some ⟨g12, 0, none⟩) ([0] : List Int).length 1), (.slice (some ⟨g18, 0, none⟩) [(⟨0, 3⟩ : Fct)].length 1), (.slice x34.1 s33.length x34.2)] ∧ Rw 3 w' O' 3 (.slice (some ⟨g6, 0, none⟩) ([4] : List Int).length 1) ([4] : List Int) ∧ Rw 4 w' O' 3 (.slice (some ⟨g12, 0, none⟩) ([0] : List Int).length 1) ([0] : List Int) ∧ Rw 5 w' O' 57 (.slice (some ⟨g18, 0, none⟩) [(⟨0, 3⟩ : Fct)].length 1) [(⟨0, 3⟩ : Fct)] ∧ Rw 9 w' O' 55 (.slice x34.1 s33.length x34.2) s33)) ?_ ?_
 ·
  refine ewp_block ?_
  replace hB := (((((hB.st S4).st S9).st S15).st S21).st S27).st S30
  replace h5 := ((((h5.st S9).st S15).st S21).st S27).st S30
  replace h10 := (((h10.st S15).st S21).st S27).st S30
  replace h16 := ((h16.st S21).st S27).st S30
  replace h22 := (h22.st S27).st S30
  refine ewp_rngC (σ := (List Opr)) (X := (Option Addr × Nat)) (N := 3) rfl hL32 (by decide) (fun (s33 : (List Opr)) (x34 : (Option Addr × Nat)) => [(0, (.pointer (some ⟨g1, 0, none⟩))), (1, (.pointer (some ⟨g24, 0, none⟩)))]) _ (fun s33 x34 w' => ∃ O' : Lab, Bs w A w' O' ∧ Lc 2 w' O' g1 26 [(.slice none 0 0), (.slice none 0 0), (.slice none 0 0), (.slice none 0 0)] ∧ Lc 6 w' O' g24 26 [(.slice (some ⟨g6, 0, none⟩) ([4] : List Int).length 1), (.slice (some ⟨g12, 0, none⟩) ([0] : List Int).length 1), (.slice (some ⟨g18, 0, none⟩) [(⟨0, 3⟩ : Fct)].length 1), (.slice x34.1 s33.length x34.2)] ∧ Rw 3 w' O' 3 (.slice (some ⟨g6, 0, none⟩) ([4] : List Int).length 1) ([4] : List Int) ∧ Rw 4 w' O' 3 (.slice (some ⟨g12, 0, none⟩) ([0] : List Int).length 1) ([0] : List Int) ∧ Rw 5 w' O' 57 (.slice (some ⟨g18, 0, none⟩) [(⟨0, 3⟩ : Fct)].length 1) [(⟨0, 3⟩ : Fct)] ∧ Rw 9 w' O' 55 (.slice x34.1 s33.length x34.2) s33) _ (none, 0) ⟨O26, hB, h5, h28, h10, h16, h22, (Rw.nil 9 (by decide))⟩ ⟨rfl, rfl, rfl, trivial⟩ (fun _ _ => ⟨rfl, rfl⟩) (fun _ _ => ⟨rfl, rfl, trivial⟩) (fun _ _ _ ⟨O', hB, h5, h28, h10, h16, h22, h48⟩ => ⟨O', hB, h5, h28, h10, h16, h22, h48⟩) ⟨rfl, rfl, rfl⟩ ?_
  rintro k35 s33 x34 w37 cc39 hx40 ⟨O38, hB, h5, h28, h10, h16, h22, h48⟩ hf41 hret42 hbrk43
  have rk35 : inI64 (k35 : Int) := rngKN hx40 (by decide)
  refine ewp_seq (ewp_region (o_mv rfl rfl (o_as rfl rfl (o_z ?_))))
  refine ewp_region (o_fa rfl rfl (o_ld (hc := Blk.cell (i := 3) (h28.1) rfl) rfl rfl ?_))
  refine o_mv rfl rfl (o_bd rfl rfl rfl ?_)
  refine l_bslice 7 (by decide) O38 (xs := ([(⟨0, (k35 : Int)⟩ : Fct)] : List Fct)) rfl rfl rfl rfl ⟨(Vb.ofAgg (cs := [(.int .i64 0), (.int .i64 (k35 : Int))]) (x := (⟨0, (k35 : Int)⟩ : Fct)) rfl ⟨rfl, (show inI64 (0) from by decide), rk35⟩), trivial⟩ (by decide) (by decide) rfl fun g50 w51 O52 S53 h54 => ?_
  refine o_mv rfl rfl ?_
  obtain ⟨n56, e57, hf41⟩ := bs hf41
  have r58 := (chkI_rng e57)
  refine o_adE (he := e57) rfl rfl rfl ?_
  refine o_bd rfl rfl rfl ?_
  refine l_bslice 8 (by decide) O52 (xs := ([(⟨([] : List Fct), 0, n56⟩ : Eff)] : List Eff)) rfl rfl rfl rfl ⟨(Vb.ofAgg (cs := [(.slice none 0 0), (.int .i64 0), (.int .i64 n56)]) (x := (⟨([] : List Fct), 0, n56⟩ : Eff)) rfl ⟨_, rfl, (Vb.nil _ _), (show inI64 (0) from by decide), r58⟩), trivial⟩ (by decide) (by decide) rfl fun g59 w60 O61 S62 h63 => ?_
  refine o_bd rfl rfl rfl ?_
  replace h54 := h54.st S62
  obtain ⟨O65, S66, h54⟩ := h54.freeze
  replace h63 := h63.st S66
  obtain ⟨O67, S68, h63⟩ := h63.freeze
  obtain ⟨u69, e70, hf41⟩ := bs hf41
  obtain ⟨e70, e71, e72⟩ := appI_some e70
  replace h48 := (((h48.st S53).st S62).st S66).st S68
  replace h54 := h54.st S68
  refine l_append1 rfl (a := (⟨(⟨#[]⟩ : ByteArray), 1, [(⟨0, (k35 : Int)⟩ : Fct)], [(⟨([] : List Fct), 0, n56⟩ : Eff)]⟩ : Opr)) h48 (Vb.ofAgg (cs := [(.string (⟨#[]⟩ : ByteArray)), (.int .i64 1), (.slice (some ⟨g50, 0, none⟩) [(⟨0, (k35 : Int)⟩ : Fct)].length 1), (.slice (some ⟨g59, 0, none⟩) [(⟨([] : List Fct), 0, n56⟩ : Eff)].length 1)]) (x := (⟨(⟨#[]⟩ : ByteArray), 1, [(⟨0, (k35 : Int)⟩ : Fct)], [(⟨([] : List Fct), 0, n56⟩ : Eff)]⟩ : Opr)) rfl ⟨_, _, rfl, h54, h63, (show inI64 (1) from by decide), (show (⟨#[]⟩ : ByteArray).size ≤ 9223372036854775807 from by decide)⟩) (fun _ => rfl) rfl (by decide) (by decide) e71 e72 ⟨rfl, rfl⟩ fun g73 A74 c75 w76 O77 S78 h79 => ?_
  rw [← e70] at h79 ⊢
  refine o_fa rfl rfl ?_
  replace h28 := ((((h28.st S53).st S62).st S66).st S68).st S78
  refine l_store h28 rfl rfl rfl (Nat.le_of_ble_eq_true rfl) (by first | exact allOne rfl | simp [Value.cells, Value.oneCell', errV_one]) fun w81 S82 h28 => ?_
  replace h28 : Lc 6 w81 O77 g24 26 [(.slice (some ⟨g6, 0, none⟩) ([4] : List Int).length 1), (.slice (some ⟨g12, 0, none⟩) ([0] : List Int).length 1), (.slice (some ⟨g18, 0, none⟩) [(⟨0, 3⟩ : Fct)].length 1), (.slice A74 u69.length c75)] := h28
  refine o_z ?_
  obtain rfl := sm hf41
  refine (?_ : Exists _)
  replace hB := (((((hB.st S53).st S62).st S66).st S68).st S78).st S82
  replace h5 := (((((h5.st S53).st S62).st S66).st S68).st S78).st S82
  replace h10 := (((((h10.st S53).st S62).st S66).st S68).st S78).st S82
  replace h16 := (((((h16.st S53).st S62).st S66).st S68).st S78).st S82
  replace h22 := (((((h22.st S53).st S62).st S66).st S68).st S78).st S82
  replace h79 := h79.st S82
  exact ⟨_, (A74, c75), rfl, ⟨rfl, rfl, rfl, trivial⟩, _, hB, h5, h28, h10, h16, h22, h79⟩
 replace hB := (((((hB.st S4).st S9).st S15).st S21).st S27).st S30
 replace h5 := ((((h5.st S9).st S15).st S21).st S27).st S30
 replace h10 := (((h10.st S15).st S21).st S27).st S30
 replace h16 := ((h16.st S21).st S27).st S30
 replace h22 := (h22.st S27).st S30
 rintro l83 w84 ⟨s87, x88, rfl, hs86, O85, hB, h5, h28, h10, h16, h22, h48⟩
 replace hm := fin_done hm
 refine ewp_sub _ hs86 ?_
 refine ewp_seq (ewp_region (o_fa rfl rfl (o_ld (hc := Blk.cell (i := 3) (h28.1) rfl) rfl rfl ?_)))
 refine o_bd rfl rfl rfl ?_
 refine l_bslice 10 (by decide) O85 (xs := ([(⟨0, 0⟩ : Fct)] : List Fct)) rfl rfl rfl rfl ⟨(Vb.ofAgg (cs := [(.int .i64 0), (.int .i64 0)]) (x := (⟨0, 0⟩ : Fct)) rfl ⟨rfl, (show inI64 (0) from by decide), (show inI64 (0) from by decide)⟩), trivial⟩ (by decide) (by decide) rfl fun g89 w90 O91 S92 h93 => ?_
 refine o_bd rfl rfl rfl ?_
 refine l_bslice 11 (by decide) O91 (xs := ([(⟨([] : List Fct), 0, 3⟩ : Eff)] : List Eff)) rfl rfl rfl rfl ⟨(Vb.ofAgg (cs := [(.slice none 0 0), (.int .i64 0), (.int .i64 3)]) (x := (⟨([] : List Fct), 0, 3⟩ : Eff)) rfl ⟨_, rfl, (Vb.nil _ _), (show inI64 (0) from by decide), (show inI64 (3) from by decide)⟩), trivial⟩ (by decide) (by decide) rfl fun g95 w96 O97 S98 h99 => ?_
 refine o_bd rfl rfl rfl ?_
 replace h93 := h93.st S98
 obtain ⟨O101, S102, h93⟩ := h93.freeze
 replace h99 := h99.st S102
 obtain ⟨O103, S104, h99⟩ := h99.freeze
 obtain ⟨u105, e106, hm⟩ := bs hm
 obtain ⟨e106, e107, e108⟩ := appI_some e106
 replace h48 := (((h48.st S92).st S98).st S102).st S104
 replace h93 := h93.st S104
 refine l_append1 rfl (a := (⟨(⟨#[]⟩ : ByteArray), 5, [(⟨0, 0⟩ : Fct)], [(⟨([] : List Fct), 0, 3⟩ : Eff)]⟩ : Opr)) h48 (Vb.ofAgg (cs := [(.string (⟨#[]⟩ : ByteArray)), (.int .i64 5), (.slice (some ⟨g89, 0, none⟩) [(⟨0, 0⟩ : Fct)].length 1), (.slice (some ⟨g95, 0, none⟩) [(⟨([] : List Fct), 0, 3⟩ : Eff)].length 1)]) (x := (⟨(⟨#[]⟩ : ByteArray), 5, [(⟨0, 0⟩ : Fct)], [(⟨([] : List Fct), 0, 3⟩ : Eff)]⟩ : Opr)) rfl ⟨_, _, rfl, h93, h99, (show inI64 (5) from by decide), (show (⟨#[]⟩ : ByteArray).size ≤ 9223372036854775807 from by decide)⟩) (fun _ => rfl) rfl (by decide) (by decide) e107 e108 ⟨rfl, rfl⟩ fun g109 A110 c111 w112 O113 S114 h115 => ?_
 rw [← e106] at h115 ⊢
 refine o_fa rfl rfl ?_
 replace h28 := ((((h28.st S92).st S98).st S102).st S104).st S114
 refine l_store h28 rfl rfl rfl (Nat.le_of_ble_eq_true rfl) (by first | exact allOne rfl | simp [Value.cells, Value.oneCell', errV_one]) fun w117 S118 h28 => ?_
 replace h28 : Lc 6 w117 O113 g24 26 [(.slice (some ⟨g6, 0, none⟩) ([4] : List Int).length 1), (.slice (some ⟨g12, 0, none⟩) ([0] : List Int).length 1), (.slice (some ⟨g18, 0, none⟩) [(⟨0, 3⟩ : Fct)].length 1), (.slice A110 u105.length c111)] := h28
 refine o_z ?_
 refine ewp_seq (ewp_region (o_la (hl := rfl) (hc := (h28.1).cellsAt) rfl rfl ?_))
 replace h5 := (((((h5.st S92).st S98).st S102).st S104).st S114).st S118
 refine l_store h5 rfl rfl rfl (Nat.le_of_ble_eq_true rfl) (by first | exact allOne rfl | simp [Value.cells, Value.oneCell', errV_one]) fun w119 S120 h5 => ?_
 replace h5 : Lc 2 w119 O113 g1 26 [(.slice (some ⟨g6, 0, none⟩) ([4] : List Int).length 1), (.slice (some ⟨g12, 0, none⟩) ([0] : List Int).length 1), (.slice (some ⟨g18, 0, none⟩) [(⟨0, 3⟩ : Fct)].length 1), (.slice A110 u105.length c111)] := h5
 refine o_z ?_
 refine ewp_ret ?_
 replace h10 := ((((((h10.st S92).st S98).st S102).st S104).st S114).st S118).st S120
 obtain ⟨O121, S122, h10⟩ := h10.freeze
 replace h16 := (((((((h16.st S92).st S98).st S102).st S104).st S114).st S118).st S120).st S122
 obtain ⟨O123, S124, h16⟩ := h16.freeze
 replace h22 := ((((((((h22.st S92).st S98).st S102).st S104).st S114).st S118).st S120).st S122).st S124
 obtain ⟨O125, S126, h22⟩ := h22.freeze
 replace h115 := ((((h115.st S118).st S120).st S122).st S124).st S126
 obtain ⟨O127, S128, h115⟩ := h115.freeze
 obtain rfl := sm hm
 replace hB := ((((((((((hB.st S92).st S98).st S102).st S104).st S114).st S118).st S120).st S122).st S124).st S126).st S128
 replace h5 := (((h5.st S122).st S124).st S126).st S128
 replace h10 := ((h10.st S124).st S126).st S128
 replace h16 := (h16.st S126).st S128
 replace h22 := h22.st S128
 exact ret1v rfl (res_cell (cs := [(.slice (some ⟨g6, 0, none⟩) ([4] : List Int).length 1), (.slice (some ⟨g12, 0, none⟩) ([0] : List Int).length 1), (.slice (some ⟨g18, 0, none⟩) [(⟨0, 3⟩ : Fct)].length 1), (.slice A110 u105.length c111)]) rfl rfl h5.1.cellsAt) ⟨hB.ext, (Vb.mono (F := Fr 0 w119 O127) (Vb.ofAgg (cs := [(.slice (some ⟨g6, 0, none⟩) ([4] : List Int).length 1), (.slice (some ⟨g12, 0, none⟩) ([0] : List Int).length 1), (.slice (some ⟨g18, 0, none⟩) [(⟨0, 3⟩ : Fct)].length 1), (.slice A110 u105.length c111)]) (x := (⟨([4] : List Int), ([0] : List Int), [(⟨0, 3⟩ : Fct)], u105⟩ : Tsk)) rfl ⟨_, _, _, _, rfl, h10, h16, h22, h115⟩) hB.out)⟩
noncomputable def m_law48_awake  : Option Bool :=
  bnd (m_law48_example) fun q1 => bnd (m_breadth_Search q1 100) fun q25 => bnd (m_law48_example) fun q52 => bnd (m_breadth_Uniform q52 100) fun q76 => bnd (m_law48_example) fun q103 => bnd (m_breadth_Reachable q103 100) fun q127 => bnd (if q25.2.n = 0 then (if q76.2.n = 0 then (if q127.2.n = 0 then (bnd (m_base_Ints q25.1.plan ([3] : List Int)) fun q153 => if q153 = true then if q25.1.cost = 5 then (if q25.1.expanded = 2 then (bnd (m_law48_example) fun q162 => bnd (m_base_Result q162 q76.1 3) fun q186 => if q186 = true then if q127.1 = 4 then (some true) else (some false) else some false) else (some false)) else (some false) else some false) else (some false)) else (some false)) else (some false) : Option Bool) fun y140 => some y140
theorem c_law48_awake {w : World} {A : Nat → Prop} (hA : ∀ k, A k → k < w.heap.size)  {r : Bool} (hm : m_law48_awake  = some r) :
    Fn Try.prog 12 [] w fun v w' => Ext w w' ∧ Vb w' (upA A w w') v r := by
 obtain ⟨O, hB, hA0⟩ := enter hA
 refine fn_enter Try.func12 rfl Try.ntmps12 rfl ?_
 unfold m_law48_awake at hm
 refine ewp_seq (ewp_region (o_as rfl rfl (o_z ?_)))
 refine ewp_seq (ewp_region ?_)
 obtain ⟨q1, e2, hm⟩ := bs hm
 refine l_call (O := O) (R := fun w' F v => Vb w' F v q1) (c_law48_example Fr.lt  e2) rfl rfl fun v7 w3 O4 S5 h6 => ?_
 obtain ⟨cs8, rfl, v9, v10, v11, v12, rfl, h13, h16, h19, h22⟩ := h6
 obtain ⟨A14, c15, rfl⟩ := h13.form
 obtain ⟨A17, c18, rfl⟩ := h16.form
 obtain ⟨A20, c21, rfl⟩ := h19.form
 obtain ⟨A23, c24, rfl⟩ := h22.form
 obtain ⟨q25, e26, hm⟩ := bs hm
 refine l_call (O := O4) (R := fun w' F v => T2 w' F v q25) (c_breadth_Search Fr.lt (Vb.ofAgg (cs := [(.slice A14 q1.vars.length c15), (.slice A17 q1.init.length c18), (.slice A20 q1.goal.length c21), (.slice A23 q1.ops.length c24)]) (x := q1) rfl ⟨_, _, _, _, rfl, h13, h16, h19, h22⟩) (show inI64 (100) from by decide) e26) rfl rfl fun v31 w27 O28 S29 h30 => ?_
 obtain ⟨v32, v33, rfl, h34, h35⟩ := h30
 obtain ⟨cs36, rfl, v37, rfl, h38, r41, r42, r43⟩ := h34
 obtain ⟨A39, c40, rfl⟩ := h38.form
 obtain ⟨rfl, r44⟩ := h35.err
 refine o_mv rfl rfl (o_ex rfl rfl rfl (o_ex rfl rfl rfl (l_alloc 2 O28 rfl fun g45 w46 O47 S48 h49 => ?_)))
 refine l_store h49 rfl rfl rfl (Nat.le_of_ble_eq_true rfl) (by first | exact allOne rfl | simp [Value.cells, Value.oneCell', errV_one]) fun w50 S51 h49 => ?_
 replace h49 : Lc 2 w50 O47 g45 30 [(.int .i64 q25.1.verdict), (.slice A39 q25.1.plan.length c40), (.int .i64 q25.1.cost), (.int .i64 q25.1.expanded)] := h49
 refine o_as rfl rfl (o_z ?_)
 refine ewp_seq (ewp_region ?_)
 obtain ⟨q52, e53, hm⟩ := bs hm
 refine l_call (O := O47) (R := fun w' F v => Vb w' F v q52) (c_law48_example Fr.lt  e53) rfl rfl fun v58 w54 O55 S56 h57 => ?_
 obtain ⟨cs59, rfl, v60, v61, v62, v63, rfl, h64, h67, h70, h73⟩ := h57
 obtain ⟨A65, c66, rfl⟩ := h64.form
 obtain ⟨A68, c69, rfl⟩ := h67.form
 obtain ⟨A71, c72, rfl⟩ := h70.form
 obtain ⟨A74, c75, rfl⟩ := h73.form
 obtain ⟨q76, e77, hm⟩ := bs hm
 refine l_call (O := O55) (R := fun w' F v => T2 w' F v q76) (c_breadth_Uniform Fr.lt (Vb.ofAgg (cs := [(.slice A65 q52.vars.length c66), (.slice A68 q52.init.length c69), (.slice A71 q52.goal.length c72), (.slice A74 q52.ops.length c75)]) (x := q52) rfl ⟨_, _, _, _, rfl, h64, h67, h70, h73⟩) (show inI64 (100) from by decide) e77) rfl rfl fun v82 w78 O79 S80 h81 => ?_
 obtain ⟨v83, v84, rfl, h85, h86⟩ := h81
 obtain ⟨cs87, rfl, v88, rfl, h89, r92, r93, r94⟩ := h85
 obtain ⟨A90, c91, rfl⟩ := h89.form
 obtain ⟨rfl, r95⟩ := h86.err
 refine o_mv rfl rfl (o_ex rfl rfl rfl (o_ex rfl rfl rfl (l_alloc 3 O79 rfl fun g96 w97 O98 S99 h100 => ?_)))
 refine l_store h100 rfl rfl rfl (Nat.le_of_ble_eq_true rfl) (by first | exact allOne rfl | simp [Value.cells, Value.oneCell', errV_one]) fun w101 S102 h100 => ?_
 replace h100 : Lc 3 w101 O98 g96 30 [(.int .i64 q76.1.verdict), (.slice A90 q76.1.plan.length c91), (.int .i64 q76.1.cost), (.int .i64 q76.1.expanded)] := h100
 refine o_as rfl rfl (o_z ?_)
 refine ewp_seq (ewp_region ?_)
 obtain ⟨q103, e104, hm⟩ := bs hm
 refine l_call (O := O98) (R := fun w' F v => Vb w' F v q103) (c_law48_example Fr.lt  e104) rfl rfl fun v109 w105 O106 S107 h108 => ?_
 obtain ⟨cs110, rfl, v111, v112, v113, v114, rfl, h115, h118, h121, h124⟩ := h108
 obtain ⟨A116, c117, rfl⟩ := h115.form
 obtain ⟨A119, c120, rfl⟩ := h118.form
 obtain ⟨A122, c123, rfl⟩ := h121.form
 obtain ⟨A125, c126, rfl⟩ := h124.form
 obtain ⟨q127, e128, hm⟩ := bs hm
 refine l_callA (O := O106) (A := All w105) (R := fun w' F v => T2 w' F v q127) (c_breadth_Reachable (fun _ h => h) (Vb.mono (F := Fr 0 w105 O106) (Vb.ofAgg (cs := [(.slice A116 q103.vars.length c117), (.slice A119 q103.init.length c120), (.slice A122 q103.goal.length c123), (.slice A125 q103.ops.length c126)]) (x := q103) rfl ⟨_, _, _, _, rfl, h115, h118, h121, h124⟩) Fr.lt) (show inI64 (100) from by decide) e128) rfl rfl fun v133 w129 O130 S131 h132 => ?_
 obtain ⟨v134, v135, rfl, h136, h137⟩ := h132
 obtain ⟨rfl, r138⟩ := h136.int
 obtain ⟨rfl, r139⟩ := h137.err
 refine o_mv rfl rfl (o_ex rfl rfl rfl (o_ex rfl rfl rfl (o_as rfl rfl (o_as rfl rfl (o_z ?_)))))
 refine ewp_seq ?_
 obtain ⟨y140, hy141, hm⟩ := bs hm
 refine ewp_join (fun l' w' => ∃ (x143 : Unit) (O' : Lab), subs l' [(0, (.bool y140))] ∧ Bs w A w' O') ?_ ?_
 ·
  refine ewp_drawX [(13, []), (14, []), (27, []), (29, [])] O130 ?_
  refine x_pre (fuel := 23) [] [(0, true), (1, true), (2, true), (3, true), (4, true), (5, true), (6, true), (7, true), (8, true), (9, true), (10, true), (11, true), (12, true)] (by kernel_rfl) rfl ?_
  refine h_mv rfl rfl rfl (hwp_o rfl (hwq_split (fun _ _ => ev_errE rfl) rfl (fun c144 => ?_) (fun c144 => ?_)))
  ·
   replace hy141 := ip hy141 c144
   refine h_mv rfl rfl rfl (hwp_o rfl (hwq_yes rfl rfl (g_mv rfl rfl (hwp_o rfl (hwq_yes rfl rfl (hwq_split (fun _ _ => ev_errE rfl) rfl (fun c145 => ?_) (fun c145 => ?_)))))))
   ·
    replace hy141 := ip hy141 c145
    refine h_pt rfl rfl rfl rfl (h_mv rfl rfl rfl (hwp_o rfl (hwq_yes rfl rfl (g_mv rfl rfl (hwp_o rfl (hwq_yes rfl rfl (hwq_split (fun _ _ => ev_errE rfl) rfl (fun c146 => ?_) (fun c146 => ?_))))))))
    ·
     replace hy141 := ip hy141 c146
     refine h_pt rfl rfl rfl rfl (h_mv rfl rfl rfl (hwp_o rfl (hwq_yes rfl rfl (g_fa rfl rfl (hwp_o rfl (hwq_yes rfl rfl ?_))))))
     replace h49 := (((((h49.st S56).st S80).st S99).st S102).st S107).st S131
     refine g_ldC (hc := fun w' ⟨O', hq⟩ => Blk.cell (i := 1) ((h49.st hq (by decide)).1) rfl) rfl rfl ?_
     refine hwp_nilT ?_
     refine x_one (i := 13) (by kernel_rfl) rfl ?_
     refine owp_yes rfl rfl (l_bslice 4 (by decide) O130 (xs := (([3] : List Int) : List Int)) rfl rfl rfl rfl ⟨(vInt (show inI64 (3) from by decide)), trivial⟩ (by decide) (by decide) rfl fun g147 w148 O149 S150 h151 => ?_)
     have hZ := S150.lst [] (fun _ h => h.elim)
     refine x_go [(14, []), (27, []), (29, [])] hZ (by kernel_rfl) ?_
     refine x_one (i := 14) (by kernel_rfl) rfl ?_
     refine owp_yes rfl rfl ?_
     obtain ⟨q153, e154, hy141⟩ := bs hy141
     replace h38 := ((((((((h38.st S48).st S51).st S56).st S80).st S99).st S102).st S107).st S131).st S150
     refine l_callA (O := O149) (A := All w148) (R := fun w' F v => Vb w' F v q153) (c_base_Ints (fun _ h => h) (Vb.mono (F := Fr 0 w148 O149) h38 Fr.lt) (h151).all e154) rfl rfl fun v159 w155 O156 S157 h158 => ?_
     obtain rfl := h158.bool
     have hZ := S157.lst [] (fun _ h => h.elim)
     cases q153
     case false =>
      replace hy141 := iF hy141
      refine x_go [(27, []), (29, [])] hZ (by kernel_rfl) ?_
      refine x_pre (fuel := 8) [] [(15, true), (16, true), (17, true), (18, true), (19, true), (20, true), (21, true), (22, true), (23, true), (24, true), (25, true), (26, true), (28, true)] (by kernel_rfl) rfl ?_
      refine h_pt rfl rfl rfl rfl (h_mv rfl rfl rfl (h_no rfl rfl rfl rfl rfl (h_no rfl rfl rfl rfl rfl (h_no rfl rfl rfl rfl rfl (h_pf rfl rfl rfl rfl (h_mv rfl rfl rfl (h_no rfl rfl rfl rfl rfl (h_no rfl rfl rfl rfl rfl (h_no rfl rfl rfl rfl rfl (h_pf rfl rfl rfl rfl (h_mv rfl rfl rfl (h_no rfl rfl rfl rfl rfl (hwp_nilT ?_)))))))))))))
      refine x_one (i := 27) (by kernel_rfl) rfl ?_
      refine owp_no rfl rfl rfl rfl (x_go [(29, [])] ((St.refl nT _ _).lst [] (fun _ h => h.elim)) (by kernel_rfl) ?_)
      refine x_one (i := 29) (by kernel_rfl) rfl ?_
      refine owp_no rfl rfl rfl rfl (x_go [] ((St.refl nT _ _).lst [] (fun _ h => h.elim)) (by kernel_rfl) ?_)
      refine x_pre (fuel := 0) [] [(30, true), (31, true), (32, true), (33, true), (34, true), (35, true)] (by kernel_rfl) rfl ?_
      refine h_pf rfl rfl rfl rfl (h_mv rfl rfl rfl (h_no rfl rfl rfl rfl rfl (h_no rfl rfl rfl rfl rfl (h_pf rfl rfl rfl rfl (h_as rfl rfl rfl (hwp_nilT ?_))))))
      refine x_nil (by kernel_rfl) ?_
      obtain rfl := sm hy141
      replace hB := (((((((((((hB.st S5).st S29).st S48).st S51).st S56).st S80).st S99).st S102).st S107).st S131).st S150).st S157
      exact ⟨(), _, ⟨rfl, trivial⟩, hB⟩
     replace hy141 := iT hy141
     refine x_go [(27, []), (29, [])] hZ (by kernel_rfl) ?_
     refine x_pre (fuel := 8) [] [(15, true), (16, true), (17, true), (18, true), (19, true), (20, true), (21, true), (22, true), (23, true), (24, true), (25, true), (26, true), (28, true)] (by kernel_rfl) rfl ?_
     refine h_pt rfl rfl rfl rfl (h_mv rfl rfl rfl (hwp_o rfl (hwq_yes rfl rfl (g_fa rfl rfl (hwp_o rfl (hwq_yes rfl rfl ?_))))))
     replace h49 := (h49.st S150).st S157
     refine g_ldC (hc := fun w' ⟨O', hq⟩ => Blk.cell (i := 2) ((h49.st hq (by decide)).1) rfl) rfl rfl ?_
     refine hwp_o rfl (hwq_yes rfl rfl (hwq_split (fun _ _ => ev_eql rfl rfl) rfl (fun c160 => ?_) (fun c160 => ?_)))
     ·
      replace hy141 := ip hy141 c160
      refine h_pt rfl rfl rfl rfl (h_mv rfl rfl rfl (hwp_o rfl (hwq_yes rfl rfl (g_fa rfl rfl (hwp_o rfl (hwq_yes rfl rfl (g_ldC (hc := fun w' ⟨O', hq⟩ => Blk.cell (i := 3) ((h49.st hq (by decide)).1) rfl) rfl rfl ?_)))))))
      refine hwp_o rfl (hwq_yes rfl rfl (hwq_split (fun _ _ => ev_eql rfl rfl) rfl (fun c161 => ?_) (fun c161 => ?_)))
      ·
       replace hy141 := ip hy141 c161
       refine h_pt rfl rfl rfl rfl (h_mv rfl rfl rfl (hwp_o rfl (hwq_yes rfl rfl ?_)))
       replace h100 := (((h100.st S107).st S131).st S150).st S157
       refine g_laB (hl := rfl) (hb := fun w' ⟨O', hq⟩ => ((h100.st hq (by decide)).1).cellsAt) rfl rfl ?_
       refine hwp_nilT ?_
       refine x_one (i := 27) (by kernel_rfl) rfl ?_
       refine owp_yes rfl rfl ?_
       obtain ⟨q162, e163, hy141⟩ := bs hy141
       refine l_call (O := O156) (R := fun w' F v => Vb w' F v q162) (c_law48_example Fr.lt  e163) rfl rfl fun v168 w164 O165 S166 h167 => ?_
       obtain ⟨cs169, rfl, v170, v171, v172, v173, rfl, h174, h177, h180, h183⟩ := h167
       obtain ⟨A175, c176, rfl⟩ := h174.form
       obtain ⟨A178, c179, rfl⟩ := h177.form
       obtain ⟨A181, c182, rfl⟩ := h180.form
       obtain ⟨A184, c185, rfl⟩ := h183.form
       have hZ := S166.lst [] (fun _ h => h.elim)
       refine x_go [(29, [])] hZ (by kernel_rfl) ?_
       refine x_one (i := 29) (by kernel_rfl) rfl ?_
       refine owp_yes rfl rfl ?_
       obtain ⟨q186, e187, hy141⟩ := bs hy141
       replace h89 := ((((((h89.st S99).st S102).st S107).st S131).st S150).st S157).st S166
       refine l_callA (O := O165) (A := All w164) (R := fun w' F v => Vb w' F v q186) (c_base_Result (fun _ h => h) (Vb.mono (F := Fr 0 w164 O165) (Vb.ofAgg (cs := [(.slice A175 q162.vars.length c176), (.slice A178 q162.init.length c179), (.slice A181 q162.goal.length c182), (.slice A184 q162.ops.length c185)]) (x := q162) rfl ⟨_, _, _, _, rfl, h174, h177, h180, h183⟩) Fr.lt) (Vb.mono (F := Fr 0 w164 O165) (Vb.ofAgg (cs := [(.int .i64 q76.1.verdict), (.slice A90 q76.1.plan.length c91), (.int .i64 q76.1.cost), (.int .i64 q76.1.expanded)]) (x := q76.1) rfl ⟨_, rfl, h89, r92, r93, r94⟩) Fr.lt) (show inI64 (3) from by decide) e187) rfl rfl fun v192 w188 O189 S190 h191 => ?_
       obtain rfl := h191.bool
       have hZ := S190.lst [] (fun _ h => h.elim)
       cases q186
       case false =>
        replace hy141 := iF hy141
        refine x_go [] hZ (by kernel_rfl) ?_
        refine x_pre (fuel := 0) [] [(30, true), (31, true), (32, true), (33, true), (34, true), (35, true)] (by kernel_rfl) rfl ?_
        refine h_pt rfl rfl rfl rfl (h_mv rfl rfl rfl (h_no rfl rfl rfl rfl rfl (h_no rfl rfl rfl rfl rfl (h_pf rfl rfl rfl rfl (h_as rfl rfl rfl (hwp_nilT ?_))))))
        refine x_nil (by kernel_rfl) ?_
        obtain rfl := sm hy141
        replace hB := (((((((((((((hB.st S5).st S29).st S48).st S51).st S56).st S80).st S99).st S102).st S107).st S131).st S150).st S157).st S166).st S190
        exact ⟨(), _, ⟨rfl, trivial⟩, hB⟩
       replace hy141 := iT hy141
       refine x_go [] hZ (by kernel_rfl) ?_
       refine x_pre (fuel := 0) [] [(30, true), (31, true), (32, true), (33, true), (34, true), (35, true)] (by kernel_rfl) rfl ?_
       refine h_pt rfl rfl rfl rfl (h_mv rfl rfl rfl (hwp_o rfl (hwq_yes rfl rfl (g_mv rfl rfl (hwp_o rfl (hwq_yes rfl rfl (hwq_split (fun _ _ => ev_eql rfl rfl) rfl (fun c193 => ?_) (fun c193 => ?_))))))))
       ·
        replace hy141 := ip hy141 c193
        refine h_pt rfl rfl rfl rfl (h_as rfl rfl rfl (hwp_nilT ?_))
        refine x_nil (by kernel_rfl) ?_
        obtain rfl := sm hy141
        replace hB := (((((((((((((hB.st S5).st S29).st S48).st S51).st S56).st S80).st S99).st S102).st S107).st S131).st S150).st S157).st S166).st S190
        exact ⟨(), _, ⟨rfl, trivial⟩, hB⟩
       ·
        replace hy141 := im hy141 c193
        refine h_pt rfl rfl rfl rfl (h_as rfl rfl rfl (hwp_nilT ?_))
        refine x_nil (by kernel_rfl) ?_
        obtain rfl := sm hy141
        replace hB := (((((((((((((hB.st S5).st S29).st S48).st S51).st S56).st S80).st S99).st S102).st S107).st S131).st S150).st S157).st S166).st S190
        exact ⟨(), _, ⟨rfl, trivial⟩, hB⟩
      ·
       replace hy141 := im hy141 c161
       refine h_pt rfl rfl rfl rfl (h_mv rfl rfl rfl (h_no rfl rfl rfl rfl rfl (hwp_nilT ?_)))
       refine x_one (i := 27) (by kernel_rfl) rfl ?_
       refine owp_no rfl rfl rfl rfl (x_go [(29, [])] ((St.refl nT _ _).lst [] (fun _ h => h.elim)) (by kernel_rfl) ?_)
       refine x_one (i := 29) (by kernel_rfl) rfl ?_
       refine owp_no rfl rfl rfl rfl (x_go [] ((St.refl nT _ _).lst [] (fun _ h => h.elim)) (by kernel_rfl) ?_)
       refine x_pre (fuel := 0) [] [(30, true), (31, true), (32, true), (33, true), (34, true), (35, true)] (by kernel_rfl) rfl ?_
       refine h_pf rfl rfl rfl rfl (h_mv rfl rfl rfl (h_no rfl rfl rfl rfl rfl (h_no rfl rfl rfl rfl rfl (h_pf rfl rfl rfl rfl (h_as rfl rfl rfl (hwp_nilT ?_))))))
       refine x_nil (by kernel_rfl) ?_
       obtain rfl := sm hy141
       replace hB := (((((((((((hB.st S5).st S29).st S48).st S51).st S56).st S80).st S99).st S102).st S107).st S131).st S150).st S157
       exact ⟨(), _, ⟨rfl, trivial⟩, hB⟩
     ·
      replace hy141 := im hy141 c160
      refine h_pt rfl rfl rfl rfl (h_mv rfl rfl rfl (h_no rfl rfl rfl rfl rfl (h_no rfl rfl rfl rfl rfl (h_no rfl rfl rfl rfl rfl (h_pf rfl rfl rfl rfl (h_mv rfl rfl rfl (h_no rfl rfl rfl rfl rfl (hwp_nilT ?_))))))))
      refine x_one (i := 27) (by kernel_rfl) rfl ?_
      refine owp_no rfl rfl rfl rfl (x_go [(29, [])] ((St.refl nT _ _).lst [] (fun _ h => h.elim)) (by kernel_rfl) ?_)
      refine x_one (i := 29) (by kernel_rfl) rfl ?_
      refine owp_no rfl rfl rfl rfl (x_go [] ((St.refl nT _ _).lst [] (fun _ h => h.elim)) (by kernel_rfl) ?_)
      refine x_pre (fuel := 0) [] [(30, true), (31, true), (32, true), (33, true), (34, true), (35, true)] (by kernel_rfl) rfl ?_
      refine h_pf rfl rfl rfl rfl (h_mv rfl rfl rfl (h_no rfl rfl rfl rfl rfl (h_no rfl rfl rfl rfl rfl (h_pf rfl rfl rfl rfl (h_as rfl rfl rfl (hwp_nilT ?_))))))
      refine x_nil (by kernel_rfl) ?_
      obtain rfl := sm hy141
      replace hB := (((((((((((hB.st S5).st S29).st S48).st S51).st S56).st S80).st S99).st S102).st S107).st S131).st S150).st S157
      exact ⟨(), _, ⟨rfl, trivial⟩, hB⟩
    ·
     replace hy141 := im hy141 c146
     refine h_pt rfl rfl rfl rfl (h_mv rfl rfl rfl (h_no rfl rfl rfl rfl rfl (h_no rfl rfl rfl rfl rfl (hwp_nilT ?_))))
     refine x_one (i := 13) (by kernel_rfl) rfl ?_
     refine owp_no rfl rfl rfl rfl (x_go [(14, []), (27, []), (29, [])] ((St.refl nT _ _).lst [] (fun _ h => h.elim)) (by kernel_rfl) ?_)
     refine x_one (i := 14) (by kernel_rfl) rfl ?_
     refine owp_no rfl rfl rfl rfl (x_go [(27, []), (29, [])] ((St.refl nT _ _).lst [] (fun _ h => h.elim)) (by kernel_rfl) ?_)
     refine x_pre (fuel := 8) [] [(15, true), (16, true), (17, true), (18, true), (19, true), (20, true), (21, true), (22, true), (23, true), (24, true), (25, true), (26, true), (28, true)] (by kernel_rfl) rfl ?_
     refine h_pf rfl rfl rfl rfl (h_mv rfl rfl rfl (h_no rfl rfl rfl rfl rfl (h_no rfl rfl rfl rfl rfl (h_no rfl rfl rfl rfl rfl (h_pf rfl rfl rfl rfl (h_mv rfl rfl rfl (h_no rfl rfl rfl rfl rfl (h_no rfl rfl rfl rfl rfl (h_no rfl rfl rfl rfl rfl (h_pf rfl rfl rfl rfl (h_mv rfl rfl rfl (h_no rfl rfl rfl rfl rfl (hwp_nilT ?_)))))))))))))
     refine x_one (i := 27) (by kernel_rfl) rfl ?_
     refine owp_no rfl rfl rfl rfl (x_go [(29, [])] ((St.refl nT _ _).lst [] (fun _ h => h.elim)) (by kernel_rfl) ?_)
     refine x_one (i := 29) (by kernel_rfl) rfl ?_
     refine owp_no rfl rfl rfl rfl (x_go [] ((St.refl nT _ _).lst [] (fun _ h => h.elim)) (by kernel_rfl) ?_)
     refine x_pre (fuel := 0) [] [(30, true), (31, true), (32, true), (33, true), (34, true), (35, true)] (by kernel_rfl) rfl ?_
     refine h_pf rfl rfl rfl rfl (h_mv rfl rfl rfl (h_no rfl rfl rfl rfl rfl (h_no rfl rfl rfl rfl rfl (h_pf rfl rfl rfl rfl (h_as rfl rfl rfl (hwp_nilT ?_))))))
     refine x_nil (by kernel_rfl) ?_
     obtain rfl := sm hy141
     replace hB := (((((((((hB.st S5).st S29).st S48).st S51).st S56).st S80).st S99).st S102).st S107).st S131
     exact ⟨(), _, ⟨rfl, trivial⟩, hB⟩
   ·
    replace hy141 := im hy141 c145
    refine h_pt rfl rfl rfl rfl (h_mv rfl rfl rfl (h_no rfl rfl rfl rfl rfl (h_no rfl rfl rfl rfl rfl (h_pf rfl rfl rfl rfl (h_mv rfl rfl rfl (h_no rfl rfl rfl rfl rfl (h_no rfl rfl rfl rfl rfl (hwp_nilT ?_))))))))
    refine x_one (i := 13) (by kernel_rfl) rfl ?_
    refine owp_no rfl rfl rfl rfl (x_go [(14, []), (27, []), (29, [])] ((St.refl nT _ _).lst [] (fun _ h => h.elim)) (by kernel_rfl) ?_)
    refine x_one (i := 14) (by kernel_rfl) rfl ?_
    refine owp_no rfl rfl rfl rfl (x_go [(27, []), (29, [])] ((St.refl nT _ _).lst [] (fun _ h => h.elim)) (by kernel_rfl) ?_)
    refine x_pre (fuel := 8) [] [(15, true), (16, true), (17, true), (18, true), (19, true), (20, true), (21, true), (22, true), (23, true), (24, true), (25, true), (26, true), (28, true)] (by kernel_rfl) rfl ?_
    refine h_pf rfl rfl rfl rfl (h_mv rfl rfl rfl (h_no rfl rfl rfl rfl rfl (h_no rfl rfl rfl rfl rfl (h_no rfl rfl rfl rfl rfl (h_pf rfl rfl rfl rfl (h_mv rfl rfl rfl (h_no rfl rfl rfl rfl rfl (h_no rfl rfl rfl rfl rfl (h_no rfl rfl rfl rfl rfl (h_pf rfl rfl rfl rfl (h_mv rfl rfl rfl (h_no rfl rfl rfl rfl rfl (hwp_nilT ?_)))))))))))))
    refine x_one (i := 27) (by kernel_rfl) rfl ?_
    refine owp_no rfl rfl rfl rfl (x_go [(29, [])] ((St.refl nT _ _).lst [] (fun _ h => h.elim)) (by kernel_rfl) ?_)
    refine x_one (i := 29) (by kernel_rfl) rfl ?_
    refine owp_no rfl rfl rfl rfl (x_go [] ((St.refl nT _ _).lst [] (fun _ h => h.elim)) (by kernel_rfl) ?_)
    refine x_pre (fuel := 0) [] [(30, true), (31, true), (32, true), (33, true), (34, true), (35, true)] (by kernel_rfl) rfl ?_
    refine h_pf rfl rfl rfl rfl (h_mv rfl rfl rfl (h_no rfl rfl rfl rfl rfl (h_no rfl rfl rfl rfl rfl (h_pf rfl rfl rfl rfl (h_as rfl rfl rfl (hwp_nilT ?_))))))
    refine x_nil (by kernel_rfl) ?_
    obtain rfl := sm hy141
    replace hB := (((((((((hB.st S5).st S29).st S48).st S51).st S56).st S80).st S99).st S102).st S107).st S131
    exact ⟨(), _, ⟨rfl, trivial⟩, hB⟩
  ·
   replace hy141 := im hy141 c144
   refine h_mv rfl rfl rfl (h_no rfl rfl rfl rfl rfl (h_no rfl rfl rfl rfl rfl (h_pf rfl rfl rfl rfl (h_mv rfl rfl rfl (h_no rfl rfl rfl rfl rfl (h_no rfl rfl rfl rfl rfl (h_pf rfl rfl rfl rfl (h_mv rfl rfl rfl (h_no rfl rfl rfl rfl rfl (h_no rfl rfl rfl rfl rfl (hwp_nilT ?_)))))))))))
   refine x_one (i := 13) (by kernel_rfl) rfl ?_
   refine owp_no rfl rfl rfl rfl (x_go [(14, []), (27, []), (29, [])] ((St.refl nT _ _).lst [] (fun _ h => h.elim)) (by kernel_rfl) ?_)
   refine x_one (i := 14) (by kernel_rfl) rfl ?_
   refine owp_no rfl rfl rfl rfl (x_go [(27, []), (29, [])] ((St.refl nT _ _).lst [] (fun _ h => h.elim)) (by kernel_rfl) ?_)
   refine x_pre (fuel := 8) [] [(15, true), (16, true), (17, true), (18, true), (19, true), (20, true), (21, true), (22, true), (23, true), (24, true), (25, true), (26, true), (28, true)] (by kernel_rfl) rfl ?_
   refine h_pf rfl rfl rfl rfl (h_mv rfl rfl rfl (h_no rfl rfl rfl rfl rfl (h_no rfl rfl rfl rfl rfl (h_no rfl rfl rfl rfl rfl (h_pf rfl rfl rfl rfl (h_mv rfl rfl rfl (h_no rfl rfl rfl rfl rfl (h_no rfl rfl rfl rfl rfl (h_no rfl rfl rfl rfl rfl (h_pf rfl rfl rfl rfl (h_mv rfl rfl rfl (h_no rfl rfl rfl rfl rfl (hwp_nilT ?_)))))))))))))
   refine x_one (i := 27) (by kernel_rfl) rfl ?_
   refine owp_no rfl rfl rfl rfl (x_go [(29, [])] ((St.refl nT _ _).lst [] (fun _ h => h.elim)) (by kernel_rfl) ?_)
   refine x_one (i := 29) (by kernel_rfl) rfl ?_
   refine owp_no rfl rfl rfl rfl (x_go [] ((St.refl nT _ _).lst [] (fun _ h => h.elim)) (by kernel_rfl) ?_)
   refine x_pre (fuel := 0) [] [(30, true), (31, true), (32, true), (33, true), (34, true), (35, true)] (by kernel_rfl) rfl ?_
   refine h_pf rfl rfl rfl rfl (h_mv rfl rfl rfl (h_no rfl rfl rfl rfl rfl (h_no rfl rfl rfl rfl rfl (h_pf rfl rfl rfl rfl (h_as rfl rfl rfl (hwp_nilT ?_))))))
   refine x_nil (by kernel_rfl) ?_
   obtain rfl := sm hy141
   replace hB := (((((((((hB.st S5).st S29).st S48).st S51).st S56).st S80).st S99).st S102).st S107).st S131
   exact ⟨(), _, ⟨rfl, trivial⟩, hB⟩
 replace hB := (((((((((hB.st S5).st S29).st S48).st S51).st S56).st S80).st S99).st S102).st S107).st S131
 rintro l194 w195 ⟨x143, O196, hs197, hB⟩
 refine ewp_sub _ hs197 ?_
 refine ewp_ret ?_
 obtain rfl := sm hm
 exact ret1v rfl (res_tmp rfl) ⟨hB.ext, vBool⟩
end
section
open Go Go.RowKit
theorem begin_ok {t : Tsk} (hok : TaskOk t) : ∃ reg, m_breadth_begin t = some (some ⟨t, reg, some ⟨t⟩⟩, ⟨0⟩) ∧ RegI t.vars reg [t.init] ∧ links reg = [⟨-1, -1, 0⟩] := by
  obtain ⟨rr, n1, reg, rfl, n2, n3⟩ := regNew_eq hok.1 hok.2.2.1
  rcases regAdd_eq hok.1 n2 hok.2.2.2.1 (by simp) with ⟨i, hi, _⟩ | ⟨_, r', hadd, hr', hlk⟩
  · simp at hi
  refine ⟨r', ?_, hr', by rw [hlk, n3]; rfl⟩
  unfold m_breadth_begin
  rw [new_ok hok, bnd_some, if_neg (by simp), n1, bnd_some, if_neg (by simp), bnd_some, hadd, bnd_some, if_neg (by simp)]
/-- The space holds these states, and its links these plans. -/
structure SR (t : Tsk) (lp : LP) (x : Spc) : Prop where
  tt : x.t = t
  gen : x.gen = some ⟨t⟩
  reg : RegI t.vars x.reg lp.1
  path : ∀ (j : Nat) p, lp.2[j]? = some p → PathL (links x.reg) j p
theorem PathL.pre {lk lk' : List RLk} (hp : ∃ A, lk' = lk ++ A) {j : Nat} {p : List Int} (h : PathL lk j p) : PathL lk' j p := by
  induction h with
  | root h1 h2 => exact .root (pre_get hp h1) h2
  | step h1 h2 _ ih => exact .step (pre_get hp h1) h2 ih
theorem links_len {vars : List Int} {r : Reg} {L : List (List Int)} (h : RegI vars r L) : (links r).length = L.length := by unfold links; rw [List.length_map, h.len]
theorem appN_take {t : Tsk} {s : List Int} {k : Nat} : ∀ {n j : Nat}, (appN t s n)[j]? = some k → (appN t s n).take j = appN t s k ∧ appB t s k = true
  | 0, j, h => by simp [appN] at h
  | n + 1, j, h => by
    have e : appN t s (n + 1) = appN t s n ++ if appB t s n = true then [n] else [] := by
      unfold appN
      rw [List.range_succ, List.filter_append]
      by_cases h : appB t s n = true <;> simp [h]
    rw [e] at h ⊢
    by_cases hj : j < (appN t s n).length
    · rw [List.getElem?_append_left hj] at h
      rw [List.take_append_of_le_length (by omega)]
      exact appN_take h
    · rw [List.getElem?_append_right (by omega)] at h
      by_cases ha : appB t s n = true
      · rw [if_pos ha] at h ⊢
        have h0 : j - (appN t s n).length = 0 := by have := lt_of_get h; simp at this; omega
        rw [h0] at h
        have hk : n = k := by simpa using h
        subst hk
        have hj2 : j = (appN t s n).length := by omega
        rw [hj2]
        exact ⟨by simp, ha⟩
      · rw [if_neg ha] at h; simp at h
noncomputable def innF (id : Int) (s171 : Spc) (a174 : Suc) : Option (Ctl Spc (Ctl (Int × Spc) (Rsl × Err))) := bnd (m_registry_Registry_Add s171.reg a174.state) fun q232 => if q232.2.2.1.n ≠ 0 then (bnd (chkI (id + 1)) fun n249 => bnd (m_breadth_failed 3 n249) fun q252 => some (.ret (.ret (q252.1, (⟨q252.2.n⟩ : Err))))) else (if q232.2.1 = true then (bnd (m_registry_Registry_SetLink q232.2.2.2 q232.1 id a174.op 0) fun q275 => if q275.1.n ≠ 0 then (some (.ret (.ret ((⟨0, ([] : List Int), 0, 0⟩ : Rsl), (⟨q275.1.n⟩ : Err))))) else (some (.next (⟨(⟨s171.t.vars, s171.t.init, s171.t.goal, s171.t.ops⟩ : Tsk), q275.2, s171.gen⟩ : Spc)))) else (some (.next (⟨(⟨s171.t.vars, s171.t.init, s171.t.goal, s171.t.ops⟩ : Tsk), q232.2.2.2, s171.gen⟩ : Spc))))
theorem inn_eq {t : Tsk} (hs : SmallOk t) {i : Nat} {lp : LP} {s p : List Int} (h : BI t i lp) (his : lp.1[i]? = some s) (hip : lp.2[i]? = some p) {k : Nat} (hk : appB t s k = true) {x : Spc} (hx : SR t (expN t s i k lp) x) : ∃ x', innF (i : Int) x ⟨(k : Int), sucN t s k⟩ = some (.next x') ∧ SR t (addK t s i (expN t s i k lp) k) x' := by
  have hJ := h.part his hip k
  have hi1 := pre_get hJ.pre1 his
  have hi2 := pre_get hJ.pre2 hip
  obtain ⟨o, ho, hpre, hsuc⟩ := appB_some hk
  have hsok : StateOk t.vars (sucN t s k) := by rw [hsuc]; exact succ_ok hs.ok ((h.rch his).ok hs.ok) ho
  have hfew : (expN t s i k lp).1.length ≤ 512 := by
    refine Nat.le_trans (nodup_len hJ.nodup fun s' hm => ?_) hs.many
    obtain ⟨j, hj⟩ := List.getElem?_of_mem hm
    exact mem_statesL.2 (hx.reg.st j s' hj)
  unfold innF
  dsimp only
  unfold addK
  rcases regAdd_eq hs.ok.1 hx.reg hsok (by omega) with ⟨j, hj, hadd⟩ | ⟨hno, r', hadd, hr', hlk⟩
  · rw [if_pos (List.mem_of_getElem? hj), hadd, bnd_some, if_neg (by simp)]
    dsimp only
    rw [if_f]
    exact ⟨_, rfl, hx⟩
  · have hnm : ¬ sucN t s k ∈ (expN t s i k lp).1 := fun hm => by
      obtain ⟨j, hj⟩ := List.getElem?_of_mem hm
      exact hno j hj
    have hil := lt_of_get hi1
    obtain ⟨r'', s1, s2, s3⟩ := setLink_eq hr' (i := (expN t s i k lp).1.length) (by simp) (p := (i : Int)) (o := (k : Int)) (c := 0) (.inr ⟨i, rfl, by simp; omega⟩)
    rw [if_neg hnm, hadd, bnd_some, if_neg (by simp)]
    dsimp only
    rw [if_t, s1, bnd_some, if_neg (by simp)]
    have hl2 : links r'' = links x.reg ++ [⟨(i : Int), (k : Int), 0⟩] := by
      rw [s3, hlk, ← links_len hx.reg]; simp
    refine ⟨_, rfl, hx.tt, hx.gen, s2, fun j q hq => ?_⟩
    dsimp only at hq ⊢
    rw [hl2]
    rcases app_get hq with hq | ⟨rfl, rfl⟩
    · exact (hx.path j q hq).pre ⟨_, rfl⟩
    · rw [hi2, Option.getD_some]
      refine PathL.step (j := i) (k := ⟨(i : Int), (k : Int), 0⟩) ?_ rfl ((hx.path i p hi2).pre ⟨_, rfl⟩)
      rw [hJ.len, ← links_len hx.reg]; simp
theorem sum_eq {t : Tsk} (h : TaskOk t) {s p s' : List Int} {C : Int} (hr : PlanR t s p s' C) : ∀ (j : Nat) (c : Int), 0 ≤ c → c + p.length * 1048576 ≤ 1000000000000000 →
    rng (ρ := Rsl × Err) (fun (_ : Nat) (a78 : Int) (s75 : Int) => bnd (atI t.ops a78) fun a125 => bnd (chkI (s75 + a125.cost)) fun n146 => some (.next n146)) p j c = some (.done (c + C)) := by
  induction hr with
  | nil => intro j c _ _; simp [rng]
  | @cons s rest s' k o C ho hp hr ih =>
    intro j c hc hb
    simp only [List.length_cons] at hb
    have hoo := h.2.2.2.2.2 k o ho
    have h1 := hoo.1
    have h2 := hoo.2.1
    have e2 : (bnd (atI t.ops (k : Int)) fun a125 => bnd (chkI (c + a125.cost)) fun n146 => some (Ctl.next (ρ := Rsl × Err) n146)) = some (.next (c + o.cost)) := by
      rw [atI_eq, ho, bnd_some, chkI_eq (by unfold inI64; omega), bnd_some]
    simp only [rng, e2]
    rw [ih (j + 1) (c + o.cost) (by omega) (by omega), Int.add_assoc]
theorem solved_eq {t : Tsk} (hs : SmallOk t) {lp : LP} {x : Spc} (hx : SR t lp x) (hl : lp.1.length ≤ 512) {i : Nat} {s p : List Int} {C e : Int} (hp : lp.2[i]? = some p) (hpl : p.length ≤ lp.1.length) (hC : PlanR t t.init p s C) : m_breadth_space_solved x (i : Int) e = some (⟨1, p, C, e⟩, ⟨0⟩) := by
  unfold m_breadth_space_solved
  rw [path_eq hx.reg (by omega) (hx.path i p hp) hpl, bnd_some, if_neg (by simp), hx.tt, sum_eq hs.ok hC 0 0 (by omega) (by omega), bnd_some, fin_d, Int.zero_add]
noncomputable def schF (x0 : Tsk) (x1 : Int) : Int × Spc → Option (Ctl (Int × Spc) (Rsl × Err)) := fun s50 => bnd (m_registry_Registry_Len s50.2.reg) fun q94 => if s50.1 < q94 then (bnd (m_registry_Registry_State s50.2.reg s50.1) fun q105 => if q105.2.n ≠ 0 then (some (.ret ((⟨0, ([] : List Int), 0, 0⟩ : Rsl), (⟨q105.2.n⟩ : Err)))) else (bnd (m_task_Holds x0.goal q105.1) fun q123 => if q123 = true then bnd (m_breadth_space_solved s50.2 s50.1 s50.1) fun q312 => some (.ret (q312.1, (⟨q312.2.n⟩ : Err))) else if x1 ≤ s50.1 then (bnd (m_breadth_failed 3 s50.1) fun q131 => some (.ret (q131.1, (⟨q131.2.n⟩ : Err)))) else (bnd (m_succgen_Generator_Successors s50.2.gen q105.1) fun q153 => bnd (rng (ρ := Ctl (Int × Spc) (Rsl × Err)) (fun (_ : Nat) (a174 : Suc) (s171 : Spc) => innF s50.1 s171 a174) q153 0 s50.2) fun res169 => fin res169 fun (s302 : Spc) => bnd (chkI (s50.1 + 1)) fun n304 => some (.next (n304, s302))))) else (some (.brk (s50.1, s50.2)))
noncomputable def schE : Fin (Int × Spc) (Rsl × Err) → Option (Rsl × Err) := fun res48 => fin res48 fun (s344 : Int × Spc) => bnd (m_registry_Registry_Len s344.2.reg) fun q373 => bnd (m_breadth_failed 2 q373) fun q383 => some (q383.1, (⟨q383.2.n⟩ : Err))
theorem sch_unf (t : Tsk) (lim : Int) : m_breadth_Search t lim = bnd (m_breadth_begin t) fun q30 => if q30.2.n ≠ 0 then (some ((⟨0, ([] : List Int), 0, 0⟩ : Rsl), (⟨q30.2.n⟩ : Err))) else (bnd q30.1 fun o45 => bnd (lop (schF t lim) (0, o45)) schE) := rfl
theorem state_len {t : Tsk} {s : List Int} (h : TaskOk t) (hs : StateOk t.vars s) : s.length ≤ 1000000 := by have := hs.1; have := h.1; omega
/-- One state's successors are added. -/
theorem exp_eq {t : Tsk} (hs : SmallOk t) {i : Nat} {lp : LP} {s p : List Int} (h : BI t i lp) (his : lp.1[i]? = some s) (hip : lp.2[i]? = some p) {x : Spc} (hx : SR t lp x) : ∃ x', rng (ρ := Ctl (Int × Spc) (Rsl × Err)) (fun (_ : Nat) (a174 : Suc) (s171 : Spc) => innF (i : Int) s171 a174) ((appS t s).map (sucOf t s)) 0 x = some (.done x') ∧ SR t (expN t s i t.ops.length lp) x' := by
  have hsok := (h.rch his).ok hs.ok
  have hap : (appS t s).map (sucOf t s) = (appN t s t.ops.length).map fun k : Nat => (⟨(k : Int), sucN t s k⟩ : Suc) := by
    rw [appS_ok hsok, appl_N, List.map_map]; rfl
  rw [hap]
  obtain ⟨x', h1, h2⟩ := rng_all (ρ := Ctl (Int × Spc) (Rsl × Err)) (f := fun (_ : Nat) (a174 : Suc) (s171 : Spc) => innF (i : Int) s171 a174) (xs := (appN t s t.ops.length).map fun k : Nat => (⟨(k : Int), sucN t s k⟩ : Suc)) (s₀ := x) (fun j y => SR t (((appN t s t.ops.length).take j).foldl (addK t s i) lp) y) (by simpa using hx) (fun j a y hj hy => by
    rw [List.getElem?_map] at hj
    obtain ⟨k, hk, rfl⟩ := Option.map_eq_some_iff.1 hj
    obtain ⟨t1, t2⟩ := appN_take hk
    rw [t1] at hy
    obtain ⟨y', e1, e2⟩ := inn_eq hs h his hip t2 (x := y) hy
    refine ⟨y', e1, ?_⟩
    rw [List.take_add_one, hk, List.foldl_append, t1]
    exact e2)
  refine ⟨x', h1, ?_⟩
  rw [List.length_map, List.take_length] at h2
  exact h2
theorem prog_bfs {t : Tsk} (hs : SmallOk t) {lim : Int} {i : Nat} {lp : LP} {r : Rsl} (hb : Bfs t lim i lp r) : ∀ x, BI t i lp → SR t lp x → bnd (lop (schF t lim) ((i : Int), x)) schE = some (r, ⟨0⟩) := by
  have hok := hs.ok
  induction hb with
  | @none i lp he =>
    intro x h hx
    have : schF t lim ((i : Int), x) = some (.brk ((i : Int), x)) := by
      unfold schF m_registry_Registry_Len
      dsimp only
      rw [bnd_some, hx.reg.len, if_neg (by omega)]
    rw [lop_eq, this, bnd_some]
    unfold schE m_registry_Registry_Len m_breadth_failed
    rw [fin_d, bnd_some, bnd_some, hx.reg.len]
  | @goal i lp s p C hsi hpi hg hC =>
    intro x h hx
    have hf := h.few hs
    have hil := lt_of_get hsi
    have : schF t lim ((i : Int), x) = some (.ret (⟨1, p, C, (i : Int)⟩, ⟨0⟩)) := by
      unfold schF m_registry_Registry_Len
      dsimp only
      rw [bnd_some, hx.reg.len, if_pos (by omega), regState_eq hok.1 hx.reg hsi, bnd_some, if_neg (by simp), tholds_eq, bnd_some, if_pos hg, solved_eq hs hx hf hpi (by have := (h.pl i s p hsi hpi).2; omega) hC, bnd_some]
    rw [lop_eq, this, bnd_some]
    rfl
  | @full i lp s hsi hg hl =>
    intro x h hx
    have hil := lt_of_get hsi
    have : schF t lim ((i : Int), x) = some (.ret (⟨3, [], 0, (i : Int)⟩, ⟨0⟩)) := by
      unfold schF m_registry_Registry_Len m_breadth_failed
      dsimp only
      rw [bnd_some, hx.reg.len, if_pos (by omega), regState_eq hok.1 hx.reg hsi, bnd_some, if_neg (by simp), tholds_eq, bnd_some, hg, if_f, if_pos hl, bnd_some]
    rw [lop_eq, this, bnd_some]
    rfl
  | @step i lp s r hsi hg hl hb ih =>
    intro x h hx
    have hf := h.few hs
    have hil := lt_of_get hsi
    obtain ⟨p, hpi⟩ := some_of_lt (l := lp.2) (k := i) (by rw [h.len]; exact hil)
    obtain ⟨x', e1, e2⟩ := exp_eq hs h hsi hpi hx
    have : schF t lim ((i : Int), x) = some (.next (((i + 1 : Nat) : Int), x')) := by
      unfold schF m_registry_Registry_Len
      dsimp only
      rw [bnd_some, hx.reg.len, if_pos (by omega), regState_eq hok.1 hx.reg hsi, bnd_some, if_neg (by simp), tholds_eq, bnd_some, hg, if_f, if_neg (by omega), hx.gen, succ_eq hok (state_len hok ((h.rch hsi).ok hok)), bnd_some, e1, bnd_some, fin_d, chkI_eq (by unfold inI64; omega), bnd_some]
      rfl
    rw [lop_eq, this]
    exact ih x' (h.next hsi hpi) e2
theorem search_bfs {t : Tsk} (hs : SmallOk t) (lim : Int) : ∃ r, m_breadth_Search t lim = some (r, ⟨0⟩) ∧ Bfs t lim 0 ([t.init], [[]]) r := by
  obtain ⟨r, hr⟩ := bfs_some hs lim 513 0 ([t.init], [[]]) (by omega) (by simp) (bi_init t)
  obtain ⟨reg, b1, b2, b3⟩ := begin_ok hs.ok
  refine ⟨r, ?_, hr⟩
  rw [sch_unf, b1, bnd_some, if_neg (by simp), bnd_some]
  refine prog_bfs hs hr _ (bi_init t) ⟨rfl, rfl, b2, fun j p hj => ?_⟩
  have : j = 0 ∧ p = [] := by
    cases j with
    | zero => simp at hj; exact ⟨rfl, hj⟩
    | succ j => simp at hj
  obtain ⟨rfl, rfl⟩ := this
  dsimp only
  rw [b3]
  exact .root rfl (by decide)
theorem find_eq (l : List (List Int)) (x : List Int) : ∃ r, m_ref48_find l x = some r ∧ (r < 0 ↔ ¬ x ∈ l) := by
  unfold m_ref48_find
  refine rng_ex (fun k _ => ¬ x ∈ l.take k) (fun r => 0 ≤ r ∧ x ∈ l) (by simp) (fun k a s hk hI => ?_) (fun s hI => ⟨_, rfl, ?_⟩) (fun r hr => ⟨_, rfl, ?_⟩)
  · unfold m_base_Ints
    rw [bnd_some]
    by_cases e : a = x
    · rw [bof_t e, if_t]
      exact .inr ⟨_, rfl, by omega, e ▸ List.mem_of_getElem? hk⟩
    · rw [bof_f e, if_f]
      refine .inl ⟨(), rfl, fun hm => ?_⟩
      rcases (take_mem hk).1 hm with hm | rfl
      · exact hI hm
      · exact e rfl
  · rw [List.take_length] at hI; exact ⟨fun _ => hI, fun _ => by omega⟩
  · exact ⟨fun h => by omega, fun h => absurd hr.2 h⟩
noncomputable def refF (x0 : Tsk) (x1 : Int) : (List (List Int)) × (List (List Int)) × Int → Option (Ctl ((List (List Int)) × (List (List Int)) × Int) Rsl) := fun s44 => if s44.2.2 < (s44.1.length : Int) then (bnd (atI s44.1 s44.2.2) fun a70 => bnd (m_base_Holds x0.goal a70) fun q85 => if q85 = true then bnd (atI s44.2.1 s44.2.2) fun a231 => bnd (m_base_Cost x0 x0.init a231) fun q246 => bnd (atI s44.2.1 s44.2.2) fun a258 => some (.ret (⟨1, a258, q246.1, s44.2.2⟩ : Rsl)) else if x1 ≤ s44.2.2 then (some (.ret (⟨3, ([] : List Int), 0, s44.2.2⟩ : Rsl))) else (bnd (rng (ρ := Ctl ((List (List Int)) × (List (List Int)) × Int) Rsl) (fun (k101 : Nat) (_ : Opr) (s99 : (List (List Int)) × (List (List Int))) => bnd (m_base_Apply x0 a70 (k101 : Int)) fun q120 => bnd (if q120.2 = true then (bnd (m_ref48_find s99.1 q120.1) fun q138 => if q138 < 0 then (some true) else (some false)) else (some false) : Option Bool) fun y133 => if y133 = true then (bnd (appI 24 s99.1 [q120.1]) fun u152 => bnd (atI s99.2 s44.2.2) fun a170 => bnd (appI 8 ([] : List Int) a170) fun u185 => bnd (appI 8 u185 [(k101 : Int)]) fun u196 => bnd (appI 24 s99.2 [u196]) fun u210 => some (.next (u152, u210))) else (some (.next (s99.1, s99.2)))) x0.ops 0 (s44.1, s44.2.1)) fun res97 => fin res97 fun (s226 : (List (List Int)) × (List (List Int))) => bnd (chkI (s44.2.2 + 1)) fun n228 => some (.next (s226.1, s226.2, n228)))) else (some (.brk (s44.1, s44.2.1, s44.2.2)))
noncomputable def refE : Fin ((List (List Int)) × (List (List Int)) × Int) Rsl → Option Rsl := fun res42 => fin res42 fun (s279 : (List (List Int)) × (List (List Int)) × Int) => some (⟨2, ([] : List Int), 0, (s279.1.length : Int)⟩ : Rsl)
theorem ref_unf (t : Tsk) (lim : Int) : m_ref48_Search t lim = bnd (lop (refF t lim) ([t.init], [([] : List Int)], 0)) refE := rfl
theorem refInn {t : Tsk} (hs : SmallOk t) {i : Nat} {lp : LP} {s p : List Int} (h : BI t i lp) (his : lp.1[i]? = some s) (hip : lp.2[i]? = some p) : rng (ρ := Ctl ((List (List Int)) × (List (List Int)) × Int) Rsl) (fun (k101 : Nat) (_ : Opr) (s99 : (List (List Int)) × (List (List Int))) => bnd (m_base_Apply t s (k101 : Int)) fun q120 => bnd (if q120.2 = true then (bnd (m_ref48_find s99.1 q120.1) fun q138 => if q138 < 0 then (some true) else (some false)) else (some false) : Option Bool) fun y133 => if y133 = true then (bnd (appI 24 s99.1 [q120.1]) fun u152 => bnd (atI s99.2 (i : Int)) fun a170 => bnd (appI 8 ([] : List Int) a170) fun u185 => bnd (appI 8 u185 [(k101 : Int)]) fun u196 => bnd (appI 24 s99.2 [u196]) fun u210 => some (.next (u152, u210))) else (some (.next (s99.1, s99.2)))) t.ops 0 (lp.1, lp.2) = some (.done (expN t s i t.ops.length lp)) := by
  refine rng_from (fun m => expN t s i m lp) rfl fun k o ho => ?_
  have hJ := h.part his hip k
  have hi2 := pre_get hJ.pre2 hip
  obtain ⟨e1, e2⟩ := appB_of (s := s) ho
  have hsok := (h.rch his).ok hs.ok
  have hfew : (expN t s i k lp).1.length ≤ 512 := by
    refine Nat.le_trans (nodup_len hJ.nodup fun s' hm => ?_) hs.many
    obtain ⟨j, hj⟩ := List.getElem?_of_mem hm
    obtain ⟨q, hq⟩ := some_of_lt (l := (expN t s i k lp).2) (k := j) (by rw [hJ.len]; exact lt_of_get hj)
    obtain ⟨⟨C, hC⟩, _⟩ := hJ.pl j s' q hj hq
    exact mem_statesL.2 ((hC.rch .init).ok hs.ok)
  have hpl := (hJ.pl i s p (pre_get hJ.pre1 his) hi2).2
  have hil := lt_of_get (pre_get hJ.pre1 his)
  have hlen := hJ.len
  rw [expN_succ, e1, apply_all hs.ok hsok ho]
  by_cases hp : holdsB o.pre s = true
  · rw [if_pos hp, if_pos hp, bnd_some]
    dsimp only
    rw [if_t]
    obtain ⟨q, q1, q2⟩ := find_eq (expN t s i k lp).1 (succ o s)
    rw [q1, bnd_some]
    unfold addK
    rw [e2]
    by_cases hm : succ o s ∈ (expN t s i k lp).1
    · rw [if_neg (fun h => (q2.1 h) hm), bnd_some, if_f, if_pos hm]
    · rw [if_pos (q2.2 hm), bnd_some, if_t, appI_eq (by simp; omega) (by simp; omega), bnd_some, atI_eq, hi2, bnd_some, appI_eq (by simp; omega) (by simp; omega), bnd_some, appI_eq (by simp; omega) (by simp; omega), bnd_some, appI_eq (by simp; omega) (by simp; omega), bnd_some, if_neg hm]
      rfl
  · rw [if_neg hp, if_neg hp, bnd_some]
    dsimp only
    rw [if_f, bnd_some, if_f]
theorem ref_bfs {t : Tsk} (hs : SmallOk t) {lim : Int} {i : Nat} {lp : LP} {r : Rsl} (hb : Bfs t lim i lp r) : BI t i lp → bnd (lop (refF t lim) (lp.1, lp.2, (i : Int))) refE = some r := by
  have hok := hs.ok
  induction hb with
  | @none i lp he =>
    intro h
    have : refF t lim (lp.1, lp.2, (i : Int)) = some (.brk (lp.1, lp.2, (i : Int))) := by
      unfold refF
      dsimp only
      rw [if_neg (by omega)]
    rw [lop_eq, this, bnd_some]
    rfl
  | @goal i lp s p C hsi hpi hg hC =>
    intro h
    have hf := h.few hs
    have hil := lt_of_get hsi
    have hpl := (h.pl i s p hsi hpi).2
    have : refF t lim (lp.1, lp.2, (i : Int)) = some (.ret ⟨1, p, C, (i : Int)⟩) := by
      unfold refF
      dsimp only
      rw [if_pos (by omega), atI_eq, hsi, bnd_some, holds_eq, bnd_some, if_pos hg, atI_eq, hpi, bnd_some, cost_eq hok hok.2.2.2.1 hC (by omega), bnd_some, bnd_some]
    rw [lop_eq, this, bnd_some]
    rfl
  | @full i lp s hsi hg hl =>
    intro h
    have hil := lt_of_get hsi
    have : refF t lim (lp.1, lp.2, (i : Int)) = some (.ret ⟨3, [], 0, (i : Int)⟩) := by
      unfold refF
      dsimp only
      rw [if_pos (by omega), atI_eq, hsi, bnd_some, holds_eq, bnd_some, hg, if_f, if_pos hl]
    rw [lop_eq, this, bnd_some]
    rfl
  | @step i lp s r hsi hg hl hb ih =>
    intro h
    have hf := h.few hs
    have hil := lt_of_get hsi
    obtain ⟨p, hpi⟩ := some_of_lt (l := lp.2) (k := i) (by rw [h.len]; exact hil)
    have e1 := refInn hs h hsi hpi
    have : refF t lim (lp.1, lp.2, (i : Int)) = some (.next ((expN t s i t.ops.length lp).1, (expN t s i t.ops.length lp).2, ((i + 1 : Nat) : Int))) := by
      unfold refF
      dsimp only
      rw [if_pos (by omega), atI_eq, hsi, bnd_some, holds_eq, bnd_some, hg, if_f, if_neg (by omega), e1, bnd_some, fin_d, chkI_eq (by unfold inI64; omega), bnd_some]
      rfl
    rw [lop_eq, this]
    exact ih (h.next hsi hpi)
theorem bfs_max {t : Tsk} {lim : Int} {i : Nat} {lp : LP} {r : Rsl} (hb : Bfs t lim i lp r) : Bfs t (max lim 0) i lp r := by
  induction hb with
  | none he => exact .none he
  | goal h1 h2 h3 h4 => exact .goal h1 h2 h3 h4
  | full h1 h2 h3 => exact .full h1 h2 (by omega)
  | step h1 h2 h3 _ ih => exact .step h1 h2 (by omega) ih
end
section
open Go Go.RowKit
attribute [local irreducible] ewp owp hwp hwq hws Ev Evg Fn retPost loud loudS Res1
attribute [local irreducible] hwx loudX
noncomputable def m_law48_BreadthSearches (x0 : Tsk) (x1 : Int) : Option Bool :=
  bnd (bnd (m_base_Small x0) fun q29 => if q29 = true then bnd (m_law48_awake) fun q36 => if q36 = true then some false else some true else some true : Option Bool) fun y25 => if y25 = true then (bnd (bnd (m_law48_awake) fun q52 => if q52 = true then some true else some false : Option Bool) fun y48 => some y48) else (bnd (m_breadth_Search x0 x1) fun q63 => bnd (if q63.2.n = 0 then (bnd (m_ref48_Search x0 (max x1 0)) fun q95 => bnd (m_ref48_Same q63.1 q95) fun q110 => if q110 = true then some true else some false) else (some false) : Option Bool) fun y90 => some y90)
theorem c_law48_BreadthSearches {w : World} {A : Nat → Prop} (hA : ∀ k, A k → k < w.heap.size) {vx0 : Value} {x0 : Tsk} (hx0 : Vb w A vx0 x0) {x1 : Int} (rx1 : inI64 x1) {r : Bool} (hm : m_law48_BreadthSearches x0 x1 = some r) :
    Fn Try.prog 3 [vx0, (.int .i64 x1)] w fun v w' => Ext w w' ∧ Vb w' (upA A w w') v r := by
 obtain ⟨O, hB, hA0⟩ := enter hA
 replace hx0 := hx0.mono hA0
 obtain ⟨cs3, rfl, v4, v5, v6, v7, rfl, h8, h11, h14, h17⟩ := hx0
 obtain ⟨A9, c10, rfl⟩ := h8.form
 obtain ⟨A12, c13, rfl⟩ := h11.form
 obtain ⟨A15, c16, rfl⟩ := h14.form
 obtain ⟨A18, c19, rfl⟩ := h17.form
 refine fn_enter Try.func3 rfl Try.ntmps3 rfl ?_
 unfold m_law48_BreadthSearches at hm
 refine ewp_seq (ewp_region (l_box 2 O rfl rfl fun g20 w21 O22 S23 h24 => ?_))
 replace h24 : Lc 2 w21 O22 g20 26 [(.slice A9 x0.vars.length c10), (.slice A12 x0.init.length c13), (.slice A15 x0.goal.length c16), (.slice A18 x0.ops.length c19)] := h24
 refine o_as rfl rfl (o_z ?_)
 refine ewp_seq (ewp_seq ?_)
 obtain ⟨y25, hy26, hm⟩ := bs hm
 refine ewp_join (fun l' w' => ∃ (x28 : Unit) (O' : Lab), subs l' [(1, (.int .i64 x1)), (2, (.pointer (some ⟨g20, 0, none⟩))), (13, (.bool y25))] ∧ Bs w A w' O' ∧ Lc 2 w' O' g20 26 [(.slice A9 x0.vars.length c10), (.slice A12 x0.init.length c13), (.slice A15 x0.goal.length c16), (.slice A18 x0.ops.length c19)] ∧ Vb w' (Fr 0 w' O') (.slice A9 x0.vars.length c10) x0.vars ∧ Vb w' (Fr 0 w' O') (.slice A12 x0.init.length c13) x0.init ∧ Vb w' (Fr 0 w' O') (.slice A15 x0.goal.length c16) x0.goal ∧ Vb w' (Fr 0 w' O') (.slice A18 x0.ops.length c19) x0.ops) ?_ ?_
 ·
  refine ewp_region (o_la (hl := rfl) (hc := (h24.1).cellsAt) rfl rfl ?_)
  obtain ⟨q29, e30, hy26⟩ := bs hy26
  replace h8 := h8.st S23
  replace h11 := h11.st S23
  replace h14 := h14.st S23
  replace h17 := h17.st S23
  refine l_callA (O := O22) (A := All w21) (R := fun w' F v => Vb w' F v q29) (c_base_Small (fun _ h => h) (Vb.mono (F := Fr 0 w21 O22) (Vb.ofAgg (cs := [(.slice A9 x0.vars.length c10), (.slice A12 x0.init.length c13), (.slice A15 x0.goal.length c16), (.slice A18 x0.ops.length c19)]) (x := x0) rfl ⟨_, _, _, _, rfl, h8, h11, h14, h17⟩) Fr.lt) e30) rfl rfl fun v35 w31 O32 S33 h34 => ?_
  obtain rfl := h34.bool
  cases q29
  case false =>
   replace hy26 := iF hy26
   refine o_nf rfl rfl (o_mv rfl rfl (owp_no rfl rfl rfl rfl (owp_no rfl rfl rfl rfl (o_pt rfl rfl rfl (o_z ?_)))))
   obtain rfl := sm hy26
   replace hB := (hB.st S23).st S33
   replace h8 := h8.st S33
   replace h11 := h11.st S33
   replace h14 := h14.st S33
   replace h17 := h17.st S33
   replace h24 := h24.st S33
   exact ⟨(), _, ⟨rfl, rfl, rfl, trivial⟩, hB, h24, h8, h11, h14, h17⟩
  replace hy26 := iT hy26
  refine o_nt rfl rfl (o_mv rfl rfl (owp_yes rfl rfl ?_))
  obtain ⟨q36, e37, hy26⟩ := bs hy26
  refine l_callA (O := O32) (A := All w31) (R := fun w' F v => Vb w' F v q36) (c_law48_awake (fun _ h => h)  e37) rfl rfl fun v42 w38 O39 S40 h41 => ?_
  obtain rfl := h41.bool
  cases q36
  case false =>
   replace hy26 := iF hy26
   refine owp_yes rfl rfl (o_nf rfl rfl (o_pf rfl rfl rfl (o_z ?_)))
   obtain rfl := sm hy26
   replace hB := ((hB.st S23).st S33).st S40
   replace h8 := (h8.st S33).st S40
   replace h11 := (h11.st S33).st S40
   replace h14 := (h14.st S33).st S40
   replace h17 := (h17.st S33).st S40
   replace h24 := (h24.st S33).st S40
   exact ⟨(), _, ⟨rfl, rfl, rfl, trivial⟩, hB, h24, h8, h11, h14, h17⟩
  replace hy26 := iT hy26
  refine owp_yes rfl rfl (o_nt rfl rfl (o_pf rfl rfl rfl (o_z ?_)))
  obtain rfl := sm hy26
  replace hB := ((hB.st S23).st S33).st S40
  replace h8 := (h8.st S33).st S40
  replace h11 := (h11.st S33).st S40
  replace h14 := (h14.st S33).st S40
  replace h17 := (h17.st S33).st S40
  replace h24 := (h24.st S33).st S40
  exact ⟨(), _, ⟨rfl, rfl, rfl, trivial⟩, hB, h24, h8, h11, h14, h17⟩
 replace hB := hB.st S23
 replace h8 := h8.st S23
 replace h11 := h11.st S23
 replace h14 := h14.st S23
 replace h17 := h17.st S23
 rintro l43 w44 ⟨x28, O45, hs46, hB, h24, h8, h11, h14, h17⟩
 refine ewp_sub _ hs46 ?_
 refine ewp_cond rfl (fun c47 => ?_) (fun c47 => ?_)
 ·
  replace hm := ip hm c47
  refine ewp_seq ?_
  obtain ⟨y48, hy49, hm⟩ := bs hm
  refine ewp_join (fun l' w' => ∃ (x51 : Unit) (O' : Lab), subs l' [(4, (.bool y48))] ∧ Bs w A w' O') ?_ ?_
  ·
   refine ewp_region ?_
   obtain ⟨q52, e53, hy49⟩ := bs hy49
   refine l_callA (O := O45) (A := All w44) (R := fun w' F v => Vb w' F v q52) (c_law48_awake (fun _ h => h)  e53) rfl rfl fun v58 w54 O55 S56 h57 => ?_
   obtain rfl := h57.bool
   cases q52
   case false =>
    replace hy49 := iF hy49
    refine o_as rfl rfl (o_z ?_)
    obtain rfl := sm hy49
    replace hB := hB.st S56
    exact ⟨(), _, ⟨rfl, trivial⟩, hB⟩
   replace hy49 := iT hy49
   refine o_as rfl rfl (o_z ?_)
   obtain rfl := sm hy49
   replace hB := hB.st S56
   exact ⟨(), _, ⟨rfl, trivial⟩, hB⟩
  rintro l59 w60 ⟨x51, O61, hs62, hB⟩
  refine ewp_sub _ hs62 ?_
  refine ewp_ret ?_
  obtain rfl := sm hm
  exact ret1v rfl (res_tmp rfl) ⟨hB.ext, vBool⟩
 ·
  replace hm := im' hm c47
  refine ewp_skip (ewp_seq (ewp_region (o_la (hl := rfl) (hc := (h24.1).cellsAt) rfl rfl ?_)))
  refine o_mv rfl rfl ?_
  obtain ⟨q63, e64, hm⟩ := bs hm
  refine l_call (O := O45) (R := fun w' F v => T2 w' F v q63) (c_breadth_Search Fr.lt (Vb.ofAgg (cs := [(.slice A9 x0.vars.length c10), (.slice A12 x0.init.length c13), (.slice A15 x0.goal.length c16), (.slice A18 x0.ops.length c19)]) (x := x0) rfl ⟨_, _, _, _, rfl, h8, h11, h14, h17⟩) rx1 e64) rfl rfl fun v69 w65 O66 S67 h68 => ?_
  obtain ⟨v70, v71, rfl, h72, h73⟩ := h68
  obtain ⟨cs74, rfl, v75, rfl, h76, r79, r80, r81⟩ := h72
  obtain ⟨A77, c78, rfl⟩ := h76.form
  obtain ⟨rfl, r82⟩ := h73.err
  refine o_mv rfl rfl (o_ex rfl rfl rfl (o_ex rfl rfl rfl (l_alloc 3 O66 rfl fun g83 w84 O85 S86 h87 => ?_)))
  refine l_store h87 rfl rfl rfl (Nat.le_of_ble_eq_true rfl) (by first | exact allOne rfl | simp [Value.cells, Value.oneCell', errV_one]) fun w88 S89 h87 => ?_
  replace h87 : Lc 3 w88 O85 g83 30 [(.int .i64 q63.1.verdict), (.slice A77 q63.1.plan.length c78), (.int .i64 q63.1.cost), (.int .i64 q63.1.expanded)] := h87
  refine o_as rfl rfl (o_z ?_)
  refine ewp_seq ?_
  obtain ⟨y90, hy91, hm⟩ := bs hm
  refine ewp_join (fun l' w' => ∃ (x93 : Unit) (O' : Lab), subs l' [(4, (.bool y90))] ∧ Bs w A w' O') ?_ ?_
  ·
   refine ewp_drawX [(7, []), (8, [])] O85 ?_
   refine x_pre (fuel := 4) [] [(0, true), (1, true), (2, true), (3, true), (4, true), (5, true), (6, true)] (by kernel_rfl) rfl ?_
   refine h_mv rfl rfl rfl (hwp_o rfl (hwq_split (fun _ _ => ev_errE rfl) rfl (fun c94 => ?_) (fun c94 => ?_)))
   ·
    replace hy91 := ip hy91 c94
    refine h_mv rfl rfl rfl (hwp_o rfl (hwq_yes rfl rfl (g_laB (hl := rfl) (hb := fun w' ⟨O', hq⟩ => ((h87.st hq (by decide)).1).cellsAt) rfl rfl ?_)))
    refine hwp_o rfl (hwq_yes rfl rfl ?_)
    replace h24 := ((h24.st S67).st S86).st S89
    refine g_laB (hl := rfl) (hb := fun w' ⟨O', hq⟩ => ((h24.st hq (by decide)).1).cellsAt) rfl rfl ?_
    refine hwp_o rfl (hwq_yes rfl rfl (g_mv rfl rfl (hwp_o rfl (hwq_yes rfl rfl (g_max rfl rfl rfl ?_)))))
    refine hwp_nilT ?_
    refine x_one (i := 7) (by kernel_rfl) rfl ?_
    refine owp_yes rfl rfl ?_
    obtain ⟨q95, e96, hy91⟩ := bs hy91
    replace h8 := ((h8.st S67).st S86).st S89
    replace h11 := ((h11.st S67).st S86).st S89
    replace h14 := ((h14.st S67).st S86).st S89
    replace h17 := ((h17.st S67).st S86).st S89
    refine l_call (O := O85) (R := fun w' F v => Vb w' F v q95) (c_ref48_Search Fr.lt (Vb.ofAgg (cs := [(.slice A9 x0.vars.length c10), (.slice A12 x0.init.length c13), (.slice A15 x0.goal.length c16), (.slice A18 x0.ops.length c19)]) (x := x0) rfl ⟨_, _, _, _, rfl, h8, h11, h14, h17⟩) (rngMax rx1 (show inI64 (0) from by decide)) e96) rfl rfl fun v101 w97 O98 S99 h100 => ?_
    obtain ⟨cs102, rfl, v103, rfl, h104, r107, r108, r109⟩ := h100
    obtain ⟨A105, c106, rfl⟩ := h104.form
    have hZ := S99.lst [] (fun _ h => h.elim)
    refine x_go [(8, [])] hZ (by kernel_rfl) ?_
    refine x_one (i := 8) (by kernel_rfl) rfl ?_
    refine owp_yes rfl rfl ?_
    obtain ⟨q110, e111, hy91⟩ := bs hy91
    replace h76 := ((h76.st S86).st S89).st S99
    refine l_callA (O := O98) (A := All w97) (R := fun w' F v => Vb w' F v q110) (c_ref48_Same (fun _ h => h) (Vb.mono (F := Fr 0 w97 O98) (Vb.ofAgg (cs := [(.int .i64 q63.1.verdict), (.slice A77 q63.1.plan.length c78), (.int .i64 q63.1.cost), (.int .i64 q63.1.expanded)]) (x := q63.1) rfl ⟨_, rfl, h76, r79, r80, r81⟩) Fr.lt) (Vb.mono (F := Fr 0 w97 O98) (Vb.ofAgg (cs := [(.int .i64 q95.verdict), (.slice A105 q95.plan.length c106), (.int .i64 q95.cost), (.int .i64 q95.expanded)]) (x := q95) rfl ⟨_, rfl, h104, r107, r108, r109⟩) Fr.lt) e111) rfl rfl fun v116 w112 O113 S114 h115 => ?_
    obtain rfl := h115.bool
    have hZ := S114.lst [] (fun _ h => h.elim)
    cases q110
    case false =>
     replace hy91 := iF hy91
     refine x_go [] hZ (by kernel_rfl) ?_
     refine x_pre (fuel := 0) [] [(9, true), (10, true)] (by kernel_rfl) rfl ?_
     refine h_pt rfl rfl rfl rfl (h_as rfl rfl rfl (hwp_nilT ?_))
     refine x_nil (by kernel_rfl) ?_
     obtain rfl := sm hy91
     replace hB := ((((hB.st S67).st S86).st S89).st S99).st S114
     exact ⟨(), _, ⟨rfl, trivial⟩, hB⟩
    replace hy91 := iT hy91
    refine x_go [] hZ (by kernel_rfl) ?_
    refine x_pre (fuel := 0) [] [(9, true), (10, true)] (by kernel_rfl) rfl ?_
    refine h_pt rfl rfl rfl rfl (h_as rfl rfl rfl (hwp_nilT ?_))
    refine x_nil (by kernel_rfl) ?_
    obtain rfl := sm hy91
    replace hB := ((((hB.st S67).st S86).st S89).st S99).st S114
    exact ⟨(), _, ⟨rfl, trivial⟩, hB⟩
   ·
    replace hy91 := im hy91 c94
    refine h_mv rfl rfl rfl (h_no rfl rfl rfl rfl rfl (h_no rfl rfl rfl rfl rfl (h_no rfl rfl rfl rfl rfl (h_no rfl rfl rfl rfl rfl (hwp_nilT ?_)))))
    refine x_one (i := 7) (by kernel_rfl) rfl ?_
    refine owp_no rfl rfl rfl rfl (x_go [(8, [])] ((St.refl nT _ _).lst [] (fun _ h => h.elim)) (by kernel_rfl) ?_)
    refine x_one (i := 8) (by kernel_rfl) rfl ?_
    refine owp_no rfl rfl rfl rfl (x_go [] ((St.refl nT _ _).lst [] (fun _ h => h.elim)) (by kernel_rfl) ?_)
    refine x_pre (fuel := 0) [] [(9, true), (10, true)] (by kernel_rfl) rfl ?_
    refine h_pf rfl rfl rfl rfl (h_as rfl rfl rfl (hwp_nilT ?_))
    refine x_nil (by kernel_rfl) ?_
    obtain rfl := sm hy91
    replace hB := ((hB.st S67).st S86).st S89
    exact ⟨(), _, ⟨rfl, trivial⟩, hB⟩
  replace hB := ((hB.st S67).st S86).st S89
  rintro l117 w118 ⟨x93, O119, hs120, hB⟩
  refine ewp_sub _ hs120 ?_
  refine ewp_ret ?_
  obtain rfl := sm hm
  exact ret1v rfl (res_tmp rfl) ⟨hB.ext, vBool⟩
end
section
open Go Go.RowKit
def Le {α : Type} (x y : Option α) : Prop := ∀ r, x = some r → y = some r
theorem Le.rf {α : Type} {x : Option α} : Le x x := fun _ h => h
theorem Le.bnd {α β : Type} {x x' : Option α} {f f' : α → Option β} (h : Le x x') (hf : ∀ a, Le (f a) (f' a)) : Le (bnd x f) (bnd x' f') := fun r hr => by
  obtain ⟨a, ha, hb⟩ := bs hr
  rw [h a ha, bnd_some]
  exact hf a r hb
theorem Le.ite {α : Type} {p : Prop} [Decidable p] {x x' y y' : Option α} (h : Le x x') (k : Le y y') : Le (if p then x else y) (if p then x' else y') := by
  by_cases hp : p
  · rw [if_pos hp, if_pos hp]; exact h
  · rw [if_neg hp, if_neg hp]; exact k
theorem Le.fin {σ κ : Type} {y : Fin σ κ} {f f' : σ → Option κ} (hf : ∀ a, Le (f a) (f' a)) : Le (fin y f) (fin y f') := by
  cases y with
  | done s => exact hf s
  | ret c => exact Le.rf
theorem Le.rng {α σ ρ : Type} {f f' : Nat → α → σ → Option (Ctl σ ρ)} (hf : ∀ k a s, Le (f k a s) (f' k a s)) : ∀ {xs : List α} {k : Nat} {s : σ}, Le (rng f xs k s) (rng f' xs k s)
  | [], _, _ => Le.rf
  | x :: xs, k, s => fun r hr => by
    simp only [Proofs.Ythomfnkaicjmbaa.rng] at hr ⊢
    cases hc : f k x s with
    | none => rw [hc] at hr; cases hr
    | some c =>
      rw [hc] at hr
      rw [hf k x s c hc]
      cases c with
      | next s' => exact Le.rng hf r hr
      | brk s' => exact hr
      | ret q => exact hr
theorem Le.rngN {σ ρ : Type} {f f' : Nat → σ → Option (Ctl σ ρ)} {n : Nat} {s : σ} (hf : ∀ k s, Le (f k s) (f' k s)) : Le (rngN f n s) (rngN f' n s) := Le.rng fun _ k s => hf k s
theorem Le.itr {σ ρ : Type} {f f' : σ → Option (Ctl σ ρ)} (hf : ∀ s, Le (f s) (f' s)) : ∀ (n : Nat) (s : σ), Le (itr f n s) (itr f' n s)
  | 0, _ => Le.rf
  | n + 1, s => fun r hr => by
    simp only [Proofs.Ythomfnkaicjmbaa.itr] at hr ⊢
    cases hc : f s with
    | none => rw [hc] at hr; cases hr
    | some c =>
      rw [hc] at hr
      rw [hf s c hc]
      cases c with
      | next s' => exact Le.itr hf n s' r hr
      | brk s' => exact hr
      | ret q => exact hr
def lopE {σ ρ : Type} (f : σ → Option (Ctl σ ρ)) (s : σ) : Option (Fin σ ρ) := itr f 600 s
theorem Le.lop {σ ρ : Type} {f f' : σ → Option (Ctl σ ρ)} {s : σ} (hf : ∀ s, Le (f s) (f' s)) : Le (lopE f s) (lop f' s) := fun r hr => lop_some.2 ⟨600, Le.itr hf 600 s r hr⟩
end
section
open Go Go.RowKit
def factB (vars : List Int) (x : Fct) : Bool := decide (0 ≤ x.var) && (decide (0 ≤ x.val) && (match vars[x.var.toNat]? with | some y => decide (x.val < y) | none => false))
theorem factB_ok {vars : List Int} {x : Fct} (h : factB vars x = true) : FactOk vars x := by
  unfold factB at h
  simp only [Bool.and_eq_true, decide_eq_true_eq] at h
  obtain ⟨h1, h2, h3⟩ := h
  cases hv : vars[x.var.toNat]? with
  | none => rw [hv] at h3; cases h3
  | some y => rw [hv] at h3; exact ⟨h1, h2, y, hv, by simpa using h3⟩
def ascB : List Fct → Bool
  | x :: y :: r => decide (x.var < y.var) && ascB (y :: r)
  | _ => true
theorem ascB_ok : ∀ {f : List Fct}, ascB f = true → ∀ (i : Nat) x y, f[i]? = some x → f[i + 1]? = some y → x.var < y.var
  | [], _, i, x, y, h, _ => by simp at h
  | [_], _, i, x, y, _, h => by simp at h
  | a :: b :: r, h, i, x, y, h1, h2 => by
    simp only [ascB, Bool.and_eq_true, decide_eq_true_eq] at h
    cases i with
    | zero => simp at h1 h2; subst h1; subst h2; exact h.1
    | succ i => exact ascB_ok h.2 i x y (by simpa using h1) (by simpa using h2)
def factsB (vars : List Int) (f : List Fct) : Bool := f.all (factB vars) && ascB f
theorem factsB_ok {vars : List Int} {f : List Fct} (h : factsB vars f = true) : FactsOk vars f := by
  unfold factsB at h
  rw [Bool.and_eq_true, List.all_eq_true] at h
  exact ⟨fun i x hx => factB_ok (h.1 x (List.mem_of_getElem? hx)), ascB_ok h.2⟩
def stateB : List Int → List Int → Bool
  | [], [] => true
  | y :: vars, x :: s => decide (0 ≤ x) && (decide (x < y) && stateB vars s)
  | _, _ => false
theorem stateB_ok : ∀ {vars s : List Int}, stateB vars s = true → StateOk vars s
  | [], [], _ => ⟨rfl, fun i x y h => by simp at h⟩
  | y :: vars, x :: s, h => by
    simp only [stateB, Bool.and_eq_true, decide_eq_true_eq] at h
    obtain ⟨h1, h2⟩ := stateB_ok h.2.2
    refine ⟨by simp [h1], fun i a b ha hb => ?_⟩
    cases i with
    | zero => simp at ha hb; subst ha; subst hb; exact ⟨h.1, h.2.1⟩
    | succ i => exact h2 i a b (by simpa using ha) (by simpa using hb)
  | [], _ :: _, h => by simp [stateB] at h
  | _ :: _, [], h => by simp [stateB] at h
def nameB (s : ByteArray) : Bool := decide (s.size ≤ 256) && s.data.toList.all fun c => decide (32 ≤ c.toNat) && decide (c.toNat ≤ 126)
theorem nameB_ok {s : ByteArray} (h : nameB s = true) : NameOk s := by
  unfold nameB at h
  simp only [Bool.and_eq_true, decide_eq_true_eq, List.all_eq_true] at h
  refine ⟨h.1, fun i hi => h.2 _ ?_⟩
  show s.data[i] ∈ _
  simp
def opB (vars : List Int) (o : Opr) : Bool := decide (0 ≤ o.cost) && (decide (o.cost ≤ 1048576) && (decide (o.effs.length ≤ 64) && (nameB o.name && (factsB vars o.pre && o.effs.all fun e => factsB vars e.cond && factB vars ⟨e.var, e.val⟩))))
theorem opB_ok {vars : List Int} {o : Opr} (h : opB vars o = true) : OpOk vars o := by
  unfold opB at h
  simp only [Bool.and_eq_true, decide_eq_true_eq, List.all_eq_true] at h
  obtain ⟨h1, h2, h3, h4, h5, h6⟩ := h
  exact ⟨h1, h2, h3, nameB_ok h4, factsB_ok h5, fun i e he => ⟨factsB_ok (h6 e (List.mem_of_getElem? he)).1, factB_ok (h6 e (List.mem_of_getElem? he)).2⟩⟩
def taskB (t : Tsk) : Bool := decide (t.vars.length ≤ 64) && (decide (t.ops.length ≤ 4096) && ((t.vars.all fun n => decide (1 ≤ n) && decide (n ≤ 64)) && (stateB t.vars t.init && (factsB t.vars t.goal && t.ops.all (opB t.vars)))))
theorem taskB_ok {t : Tsk} (h : taskB t = true) : TaskOk t := by
  unfold taskB at h
  simp only [Bool.and_eq_true, decide_eq_true_eq, List.all_eq_true] at h
  obtain ⟨h1, h2, h3, h4, h5, h6⟩ := h
  exact ⟨h1, h2, fun i n hn => h3 n (List.mem_of_getElem? hn), stateB_ok h4, factsB_ok h5, fun i o ho => opB_ok (h6 o (List.mem_of_getElem? ho))⟩
def e_base_Ints (x y : List Int) : Option Bool := some (decide (x = y))
theorem le_base_Ints (x y : List Int) : Le (e_base_Ints x y) (m_base_Ints x y) := fun r h => by
  unfold e_base_Ints at h
  unfold m_base_Ints
  rw [← h]
  by_cases hx : x = y
  · rw [bof_t hx]; simp [hx]
  · rw [bof_f hx]; simp [hx]
def e_task_Holds (f : List Fct) (s : List Int) : Option Bool := m_task_Holds f s
theorem le_task_Holds (f : List Fct) (s : List Int) : Le (e_task_Holds f s) (m_task_Holds f s) := Le.rf
def e_base_Holds (f : List Fct) (s : List Int) : Option Bool := m_base_Holds f s
theorem le_base_Holds (f : List Fct) (s : List Int) : Le (e_base_Holds f s) (m_base_Holds f s) := Le.rf
def e_slices_Clone_Lint_int (x : List Int) : Option (List Int) := m_slices_Clone_Lint_int x
theorem le_slices_Clone_Lint_int (x : List Int) : Le (e_slices_Clone_Lint_int x) (m_slices_Clone_Lint_int x) := Le.rf
end
end Go.Proofs.Ythomfnkaicjmbaa

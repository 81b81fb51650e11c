/- Own text: models of more functions of chapter 51 and their proofs (written by gen2.py). -/
import Derived.Test.YtdhaelekmjgbmaaSym1
import Derived.Test.YtdhaelekmjgbmaaSortF
namespace Go.Proofs.Ytdhaelekmjgbmaa
open Go Go.RowKit
attribute [local irreducible] ewp owp hwp hwq hws Ev Evg Fn retPost loud loudS Res1
noncomputable def m_symmetry_mapped (x0 : Swp) (x1 : List Fct) : Option (List Fct) :=
  bnd (rng (ρ := (List Fct)) (fun (k27 : Nat) (a28 : Fct) (s25 : (List Fct)) => bnd (atI x0.vars a28.var) fun a58 => bnd (atI x0.vals a28.var) fun a70 => bnd (atI a70 a28.val) fun a85 => bnd (appI 16 s25 [(⟨a58, a85⟩ : Fct)]) fun u103 => some (.next u103)) x1 0 ([] : List Fct)) fun res23 => fin res23 fun (s118 : (List Fct)) => bnd (if s118.length < 4611686018427387904 then some (srt_symmetry_mapped_l1 s118) else none) fun u125 => some u125
theorem c_symmetry_mapped {w : World} {A : Nat → Prop} (hA : ∀ k, A k → k < w.heap.size) {vx0 : Value} {x0 : Swp} (hx0 : Vb w A vx0 x0) {vx1 : Value} {x1 : List Fct} (hx1 : Vb w A vx1 x1) {r : (List Fct)} (hm : m_symmetry_mapped x0 x1 = some r) :
    Fn Try.prog 72 [vx0, vx1] w fun v w' => Ext w w' ∧ Vb w' (upA A w w') v r := by
  obtain ⟨O, hB, hA0⟩ := enter hA
  replace hx0 := hx0.mono hA0
  obtain ⟨cs1, rfl, v2, v3, v4, rfl, h5, h8, h11⟩ := hx0
  obtain ⟨A6, c7, rfl⟩ := h5.form
  obtain ⟨A9, c10, rfl⟩ := h8.form
  obtain ⟨A12, c13, rfl⟩ := h11.form
  replace hx1 := hx1.mono hA0
  obtain ⟨A14, c15, rfl⟩ := hx1.form
  refine fn_enter Try.func72 rfl Try.ntmps72 rfl ?_
  unfold m_symmetry_mapped at hm
  refine ewp_seq ?_
  refine ewp_region ?_
  refine l_box 2 O rfl rfl fun g16 w17 O18 S19 h20 => ?_
  replace h20 : Lc 2 w17 O18 g16 29 [(.slice A6 x0.vars.length c7), (.slice A9 x0.vals.length c10), (.slice A12 x0.ops.length c13)] := h20
  replace hB := hB.st S19 (fun h => h) (fun h => h)
  replace hx1 := hx1.st S19 (fun h => h)
  replace h5 := h5.st S19 (fun h => h)
  replace h8 := h8.st S19 (fun h => h)
  replace h11 := h11.st S19 (fun h => h)
  refine o_as rfl rfl  ?_
  (first | refine owp_nilT ?_ | refine owp_nilB ?_ | refine owp_nilBB ?_ | refine owp_nil ?_)
  refine ewp_seq ?_
  refine ewp_region ?_
  refine o_as rfl rfl  ?_
  (first | refine owp_nilT ?_ | refine owp_nilB ?_ | refine owp_nilBB ?_ | refine owp_nil ?_)
  refine ewp_seq ?_
  refine ewp_seq ?_
  refine ewp_region ?_
  refine o_mv rfl rfl  ?_
  refine o_ln rfl rfl  ?_
  have l22 : x1.length ≤ 9223372036854775807 := Nat.le_trans hx1.len.2.1 hx1.len.2.2
  have r21 : inI64 (x1.length : Int) := rngNat l22
  refine o_mv rfl rfl  ?_
  (first | refine owp_nilT ?_ | refine owp_nilB ?_ | refine owp_nilBB ?_ | refine owp_nil ?_)
  obtain ⟨res23, hL24, hm⟩ := bs hm
  refine ewp_join (aft res23 (fun (s25 : (List Fct)) (x26 : (Option Addr × Nat)) => [(5, (.slice x26.1 s25.length x26.2))]) (fun s25 x26 w' => ∃ O' : Lab, Bs w A w' O' ∧ Rw 5 w' O' 103 (.slice x26.1 s25.length x26.2) s25)) ?_ ?_
  · refine ewp_block ?_
    refine ewp_rng (σ := (List Fct)) (X := (Option Addr × Nat)) (x1.length) hL24 rfl l22 (fun (s25 : (List Fct)) (x26 : (Option Addr × Nat)) => [(2, (.pointer (some ⟨g16, 0, none⟩))), (5, (.slice x26.1 s25.length x26.2)), (8, (.slice A14 x1.length c15))]) _ (fun s25 x26 w' => ∃ O' : Lab, Bs w A w' O' ∧ Lc 2 w' O' g16 29 [(.slice A6 x0.vars.length c7), (.slice A9 x0.vals.length c10), (.slice A12 x0.ops.length c13)] ∧ Vb w' (Fr 0 w' O') (.slice A6 x0.vars.length c7) x0.vars ∧ Vb w' (Fr 0 w' O') (.slice A9 x0.vals.length c10) x0.vals ∧ Vb w' (Fr 0 w' O') (.slice A12 x0.ops.length c13) x0.ops ∧ Rw 5 w' O' 103 (.slice x26.1 s25.length x26.2) s25 ∧ Vb w' (Fr 0 w' O') (.slice A14 x1.length c15) x1) _ (none, 0) ⟨O18, hB, h20, h5, h8, h11, (Rw.nil 5 (by decide)), hx1⟩ ⟨rfl, rfl, rfl, rfl, rfl, trivial⟩ (fun _ _ => ⟨rfl, rfl⟩) (fun _ _ => ⟨rfl, trivial⟩) (fun _ _ _ ⟨O', hB, h20, h5, h8, h11, h40, hx1⟩ => ⟨O', hB, h40⟩) ⟨rfl, rfl, rfl⟩ ⟨rfl, rfl⟩ ?_
    rintro k27 a28 s25 x26 w29 cc31 hx32 ⟨O30, hB, h20, h5, h8, h11, h40, hx1⟩ hf33 hret34 hbrk35
    have rk27 : inI64 (k27 : Int) := rngK hx32 l22
    refine ewp_seq ?_
    refine ewp_region ?_
    obtain ⟨b42, o43, ce44, hA45, hl46, hd47, rfl, r49, r50⟩ := hx1.elem' hx32
    refine o_iaE (hA := hA45) (hj := rfl) (hlt := hl46) rfl rfl rfl  ?_
    refine o_la (hl := rfl) (hc := hd47) rfl rfl  ?_
    refine l_alloc 3 O30 rfl fun g51 w52 O53 S54 h55 => ?_
    replace hB := hB.st S54 (fun h => h) (fun h => h)
    replace h20 := h20.st S54 (fun h => h)
    replace h5 := h5.st S54 (fun h => h)
    replace h8 := h8.st S54 (fun h => h)
    replace h11 := h11.st S54 (fun h => h)
    replace h40 := h40.st S54 (fun h => h) (fun h => h)
    replace hx1 := hx1.st S54 (fun h => h)
    refine l_store h55 rfl rfl rfl (Nat.le_of_ble_eq_true rfl) (by first | exact allOne rfl | simp [Value.cells, Value.oneCell', errV_one]) fun w56 S57 h55 => ?_
    replace h55 : Lc 3 w56 O53 g51 103 [(.int .i64 a28.var), (.int .i64 a28.val)] := h55
    replace hB := hB.st S57 (by decide) (by decide)
    replace h20 := h20.st S57 (by decide)
    replace h5 := h5.st S57 (by decide)
    replace h8 := h8.st S57 (by decide)
    replace h11 := h11.st S57 (by decide)
    replace h40 := h40.st S57 (by decide) (by decide)
    replace hx1 := hx1.st S57 (by decide)
    (first | refine owp_nilT ?_ | refine owp_nilB ?_ | refine owp_nilBB ?_ | refine owp_nil ?_)
    have hZ := St.refl (eT 5) w56 O53
    have zh20 := h20
    have zh5 := h5
    have zh8 := h8
    have zh11 := h11
    have zh40 := h40
    have zh55 := h55
    have zhx1 := hx1
    refine ewp_drawS (fun w' => ∃ O', St (eT 5) w56 O53 w' O') ?_
    refine hws_pre (fuel := 3) [(0, true), (1, true), (2, true), (3, true), (4, true), (5, true), (6, true), (7, true), (8, true), (9, true), (10, true), (11, true), (12, true), (13, true), (14, true), (15, true), (16, true), (17, true)] (by kernel_rfl) (by kernel_rfl) (by kernel_rfl) ⟨_, hZ⟩ ?_
    refine h_mv rfl rfl rfl  ?_
    refine h_fa rfl rfl rfl  ?_
    refine h_ldC (hc := fun w' ⟨O', hq⟩ => Blk.cell (i := 0) ((zh20.st hq (by decide)).1) rfl) rfl rfl rfl  ?_
    refine h_fa rfl rfl rfl  ?_
    refine h_ldC (hc := fun w' ⟨O', hq⟩ => Blk.cell (i := 0) ((zh55.st hq (by decide)).1) rfl) rfl rfl rfl  ?_
    obtain ⟨a58, e59, hf33⟩ := bs hf33
    obtain ⟨p61, x60⟩ := atI_some' e59
    obtain ⟨b62, o63, ce64, hA65, hF68, hl66, hd67, rfl, r69⟩ := zh5.elem x60
    refine h_iaE (hA := hA65) (hj := (Int.toNat_of_nonneg p61).symm) (hlt := hl66) rfl rfl rfl rfl  ?_
    refine h_ldC (hc := fun w' ⟨O', hq⟩ => cat0 (cellsAt_agree (hq.agree (i := 0) (by decide)) hF68 hd67)) rfl rfl rfl  ?_
    refine h_fa rfl rfl rfl  ?_
    refine h_ldC (hc := fun w' ⟨O', hq⟩ => Blk.cell (i := 1) ((zh20.st hq (by decide)).1) rfl) rfl rfl rfl  ?_
    refine h_fa rfl rfl rfl  ?_
    refine h_ldC (hc := fun w' ⟨O', hq⟩ => Blk.cell (i := 0) ((zh55.st hq (by decide)).1) rfl) rfl rfl rfl  ?_
    obtain ⟨a70, e71, hf33⟩ := bs hf33
    obtain ⟨p73, x72⟩ := atI_some' e71
    obtain ⟨b74, o75, ce76, hA77, hF80, hl78, hd79, v81, rfl, h82⟩ := zh8.elem x72
    replace h82 := Vb.of_slice h82
    obtain ⟨A83, c84, rfl⟩ := h82.form
    have zh82 := h82
    refine h_iaE (hA := hA77) (hj := (Int.toNat_of_nonneg p73).symm) (hlt := hl78) rfl rfl rfl rfl  ?_
    refine h_ldC (hc := fun w' ⟨O', hq⟩ => cat0 (cellsAt_agree (hq.agree (i := 0) (by decide)) hF80 hd79)) rfl rfl rfl  ?_
    refine h_fa rfl rfl rfl  ?_
    refine h_ldC (hc := fun w' ⟨O', hq⟩ => Blk.cell (i := 1) ((zh55.st hq (by decide)).1) rfl) rfl rfl rfl  ?_
    obtain ⟨a85, e86, hf33⟩ := bs hf33
    obtain ⟨p88, x87⟩ := atI_some' e86
    obtain ⟨b89, o90, ce91, hA92, hF95, hl93, hd94, rfl, r96⟩ := zh82.elem x87
    refine h_iaE (hA := hA92) (hj := (Int.toNat_of_nonneg p88).symm) (hlt := hl93) rfl rfl rfl rfl  ?_
    refine h_ldC (hc := fun w' ⟨O', hq⟩ => cat0 (cellsAt_agree (hq.agree (i := 0) (by decide)) hF95 hd94)) rfl rfl rfl  ?_
    refine h_bd rfl rfl rfl rfl  ?_
    refine hwp_nilT ?_
    refine hws_one (i := 18) (by kernel_rfl) rfl ?_
    refine l_bslice 4 (by decide) O53 (xs := ([(⟨a58, a85⟩ : Fct)] : List Fct)) rfl rfl rfl rfl ⟨(Vb.ofAgg (cs := [(.int .i64 a58), (.int .i64 a85)]) (x := (⟨a58, a85⟩ : Fct)) rfl ⟨rfl, r69, r96⟩), trivial⟩ (by decide) (by decide) rfl fun g97 w98 O99 S100 h101 => ?_
    replace hZ := hZ.comp S100 (fun _ h => h.elim)
    replace hB := hB.st S100 (fun h => h) (fun h => h)
    replace h20 := h20.st S100 (fun h => h)
    replace h5 := h5.st S100 (fun h => h)
    replace h8 := h8.st S100 (fun h => h)
    replace h11 := h11.st S100 (fun h => h)
    replace h40 := h40.st S100 (fun h => h) (fun h => h)
    replace hx1 := hx1.st S100 (fun h => h)
    refine owp_loudS ⟨_, hZ⟩ ?_
    refine hws_one (i := 19) (by kernel_rfl) rfl ?_
    obtain ⟨u103, e104, hf33⟩ := bs hf33
    obtain ⟨e104, e105, e106⟩ := appI_some e104
    refine l_append rfl h40 (h101.rd) rfl rfl (by decide) e105 e106 rfl fun A107 c108 w109 O110 S111 h112 => ?_
    rw [← e104] at h112 ⊢
    replace hZ := hZ.comp S111 (fun _ h => by cases h; decide)
    replace hB := hB.st S111 (by decide) (by decide)
    replace h20 := h20.st S111 (by decide)
    replace h5 := h5.st S111 (by decide)
    replace h8 := h8.st S111 (by decide)
    replace h11 := h11.st S111 (by decide)
    replace hx1 := hx1.st S111 (by decide)
    refine owp_loudS ⟨_, hZ⟩ ?_
    refine hws_pre (fuel := 0) [(20, true)] (by kernel_rfl) (by kernel_rfl) (by kernel_rfl) ⟨_, hZ⟩ ?_
    refine h_as rfl rfl rfl  ?_
    refine hwp_nilT ?_
    refine hws_nil (by kernel_rfl) ?_
    obtain rfl := sm hf33
    refine (?_ : Exists _)
    exact ⟨_, (A107, c108), rfl, ⟨rfl, rfl, rfl, rfl, rfl, trivial⟩, _, hB, h20, h5, h8, h11, h112, hx1⟩
  rintro l114 w115 ⟨s118, x119, rfl, hs117, O116, hB, h40⟩
  replace hm := fin_done hm
  refine ewp_sub _ hs117 ?_
  refine ewp_seq ?_
  refine ewp_region ?_
  refine o_mv rfl rfl  ?_
  obtain ⟨u125, e124, hm⟩ := bs hm
  obtain ⟨e126, e124⟩ := ite_some e124
  refine l_callMut (s_symmetry_mapped_l1 h40 e126) rfl rfl fun v123 w120 O121 S122 h40 => ?_
  rw [e124] at h40
  replace hB := hB.st S122 (by decide) (by decide)
  (first | refine owp_nilT ?_ | refine owp_nilB ?_ | refine owp_nilBB ?_ | refine owp_nil ?_)
  refine ewp_seq ?_
  refine ewp_region ?_
  refine o_mv rfl rfl  ?_
  refine o_as rfl rfl  ?_
  (first | refine owp_nilT ?_ | refine owp_nilB ?_ | refine owp_nilBB ?_ | refine owp_nil ?_)
  refine ewp_ret ?_
  obtain ⟨O127, S128, h40⟩ := h40.freeze
  replace hB := hB.st S128 (by decide) (by decide)
  obtain rfl := sm hm
  exact ret1v rfl (res_tmp rfl) ⟨hB.ext, (Vb.mono (F := Fr 0 w120 O127) h40 hB.out)⟩
noncomputable def m_symmetry_image (x0 : Swp) (x1 : Opr) : Option Opr :=
  bnd (bnd (m_symmetry_mapped x0 x1.pre) fun q46 => some q46 : Option (List Fct)) fun y40 => bnd (rng (ρ := Opr) (fun (k88 : Nat) (a89 : Eff) (s86 : (List Eff)) => bnd (atI x0.vars a89.var) fun a123 => bnd (atI x0.vals a89.var) fun a135 => bnd (atI a135 a89.val) fun a150 => bnd (m_symmetry_mapped x0 a89.cond) fun q162 => bnd (appI 40 s86 [(⟨q162, a123, a150⟩ : Eff)]) fun u177 => some (.next u177)) x1.effs 0 ([] : List Eff)) fun res84 => fin res84 fun (s194 : (List Eff)) => some (⟨(⟨#[]⟩ : ByteArray), x1.cost, y40, s194⟩ : Opr)
theorem c_symmetry_image {w : World} {A : Nat → Prop} (hA : ∀ k, A k → k < w.heap.size) {vx0 : Value} {x0 : Swp} (hx0 : Vb w A vx0 x0) {vx1 : Value} {x1 : Opr} (hx1 : Vb w A vx1 x1) {r : Opr} (hm : m_symmetry_image x0 x1 = some r) :
    Fn Try.prog 74 [vx0, vx1] w fun v w' => Ext w w' ∧ Vb w' (upA A w w') v r := by
  obtain ⟨O, hB, hA0⟩ := enter hA
  replace hx0 := hx0.mono hA0
  obtain ⟨cs1, rfl, v2, v3, v4, rfl, h5, h8, h11⟩ := hx0
  obtain ⟨A6, c7, rfl⟩ := h5.form
  obtain ⟨A9, c10, rfl⟩ := h8.form
  obtain ⟨A12, c13, rfl⟩ := h11.form
  replace hx1 := hx1.mono hA0
  obtain ⟨cs14, rfl, v15, v16, rfl, h17, h20, r23, z24⟩ := hx1
  obtain ⟨A18, c19, rfl⟩ := h17.form
  obtain ⟨A21, c22, rfl⟩ := h20.form
  refine fn_enter Try.func74 rfl Try.ntmps74 rfl ?_
  unfold m_symmetry_image at hm
  refine ewp_seq ?_
  refine ewp_region ?_
  refine l_box 2 O rfl rfl fun g25 w26 O27 S28 h29 => ?_
  replace h29 : Lc 2 w26 O27 g25 29 [(.slice A6 x0.vars.length c7), (.slice A9 x0.vals.length c10), (.slice A12 x0.ops.length c13)] := h29
  replace hB := hB.st S28 (fun h => h) (fun h => h)
  replace h17 := h17.st S28 (fun h => h)
  replace h20 := h20.st S28 (fun h => h)
  replace h5 := h5.st S28 (fun h => h)
  replace h8 := h8.st S28 (fun h => h)
  replace h11 := h11.st S28 (fun h => h)
  refine l_box 3 O27 rfl rfl fun g30 w31 O32 S33 h34 => ?_
  replace h34 : Lc 3 w31 O32 g30 77 [(.string x1.name), (.int .i64 x1.cost), (.slice A18 x1.pre.length c19), (.slice A21 x1.effs.length c22)] := h34
  replace hB := hB.st S33 (fun h => h) (fun h => h)
  replace h29 := h29.st S33 (fun h => h)
  replace h5 := h5.st S33 (fun h => h)
  replace h8 := h8.st S33 (fun h => h)
  replace h11 := h11.st S33 (fun h => h)
  replace h17 := h17.st S33 (fun h => h)
  replace h20 := h20.st S33 (fun h => h)
  refine l_alloc 4 O32 rfl fun g35 w36 O37 S38 h39 => ?_
  replace hB := hB.st S38 (fun h => h) (fun h => h)
  replace h29 := h29.st S38 (fun h => h)
  replace h5 := h5.st S38 (fun h => h)
  replace h8 := h8.st S38 (fun h => h)
  replace h11 := h11.st S38 (fun h => h)
  replace h34 := h34.st S38 (fun h => h)
  replace h17 := h17.st S38 (fun h => h)
  replace h20 := h20.st S38 (fun h => h)
  (first | refine owp_nilT ?_ | refine owp_nilB ?_ | refine owp_nilBB ?_ | refine owp_nil ?_)
  refine ewp_seq ?_
  obtain ⟨y40, hy41, hm⟩ := bs hm
  refine ewp_join (fun l' w' => ∃ (x43 : Nat × (Option Addr × Nat)) (O' : Lab), subs l' [(2, (.pointer (some ⟨g25, 0, none⟩))), (3, (.pointer (some ⟨g30, 0, none⟩))), (4, (.pointer (some ⟨g35, 0, none⟩))), (5, (.pointer (some ⟨x43.1, 0, none⟩)))] ∧ Bs w A w' O' ∧ Lc 2 w' O' g25 29 [(.slice A6 x0.vars.length c7), (.slice A9 x0.vals.length c10), (.slice A12 x0.ops.length c13)] ∧ Vb w' (Fr 0 w' O') (.slice A6 x0.vars.length c7) x0.vars ∧ Vb w' (Fr 0 w' O') (.slice A9 x0.vals.length c10) x0.vals ∧ Vb w' (Fr 0 w' O') (.slice A12 x0.ops.length c13) x0.ops ∧ Lc 3 w' O' g30 77 [(.string x1.name), (.int .i64 x1.cost), (.slice A18 x1.pre.length c19), (.slice A21 x1.effs.length c22)] ∧ Vb w' (Fr 0 w' O') (.slice A18 x1.pre.length c19) x1.pre ∧ Vb w' (Fr 0 w' O') (.slice A21 x1.effs.length c22) x1.effs ∧ Lc 4 w' O' g35 77 [(.string (⟨#[]⟩ : ByteArray)), (.int .i64 0), (.slice none 0 0), (.slice none 0 0)] ∧ Lc 5 w' O' x43.1 77 [(.string (⟨#[]⟩ : ByteArray)), (.int .i64 x1.cost), (.slice x43.2.1 y40.length x43.2.2), (.slice none 0 0)] ∧ Vb w' (Fr 0 w' O') (.slice x43.2.1 y40.length x43.2.2) y40) ?_ ?_
  · skip
    have hZ := St.refl (nT) w36 O37
    have zh29 := h29
    have zh5 := h5
    have zh8 := h8
    have zh11 := h11
    have zh34 := h34
    have zh17 := h17
    have zh20 := h20
    have zh39 := h39
    refine ewp_drawS (fun w' => ∃ O', St (nT) w36 O37 w' O') ?_
    refine hws_pre (fuel := 4) [(0, true), (1, true), (2, true), (3, true), (4, true)] (by kernel_rfl) (by kernel_rfl) (by kernel_rfl) ⟨_, hZ⟩ ?_
    refine h_fa rfl rfl rfl  ?_
    refine h_ldC (hc := fun w' ⟨O', hq⟩ => Blk.cell (i := 1) ((zh34.st hq (by decide)).1) rfl) rfl rfl rfl  ?_
    refine h_laB (hl := rfl) (hb := fun w' ⟨O', hq⟩ => ((zh29.st hq (by decide)).1).cellsAt) rfl rfl rfl  ?_
    refine h_fa rfl rfl rfl  ?_
    refine h_ldC (hc := fun w' ⟨O', hq⟩ => Blk.cell (i := 2) ((zh34.st hq (by decide)).1) rfl) rfl rfl rfl  ?_
    refine hwp_nilT ?_
    refine hws_two (i := 5) (j := 7) (by kernel_rfl) rfl rfl ?_ ?_
    · skip
      obtain ⟨q46, e47, hy41⟩ := bs hy41
      refine l_call (O := O37) (R := fun w' F v => Vb w' F v q46) (c_symmetry_mapped Fr.lt (Vb.ofAgg (cs := [(.slice A6 x0.vars.length c7), (.slice A9 x0.vals.length c10), (.slice A12 x0.ops.length c13)]) (x := x0) rfl ⟨_, _, _, rfl, h5, h8, h11⟩) h17 e47) rfl rfl fun v52 w48 O49 S50 h51 => ?_
      obtain ⟨A53, c54, rfl⟩ := h51.form
      replace hZ := hZ.comp S50 (fun _ h => h.elim)
      replace hB := hB.st S50 (fun h => h) (fun h => h)
      replace h29 := h29.st S50 (fun h => h)
      replace h5 := h5.st S50 (fun h => h)
      replace h8 := h8.st S50 (fun h => h)
      replace h11 := h11.st S50 (fun h => h)
      replace h34 := h34.st S50 (fun h => h)
      replace h17 := h17.st S50 (fun h => h)
      replace h20 := h20.st S50 (fun h => h)
      replace h39 := h39.st S50 (fun h => h)
      refine owp_loudS ⟨_, hZ⟩ ?_
      refine hws_pre (fuel := 2) [(6, true)] (by kernel_rfl) (by kernel_rfl) (by kernel_rfl) ⟨_, hZ⟩ ?_
      refine h_bd rfl rfl rfl rfl  ?_
      refine hwp_nilT ?_
      refine hws_one (i := 7) (by kernel_rfl) rfl ?_
      refine l_alloc 5 O49 rfl fun g55 w56 O57 S58 h59 => ?_
      replace hZ := hZ.comp S58 (fun _ h => h.elim)
      replace hB := hB.st S58 (fun h => h) (fun h => h)
      replace h29 := h29.st S58 (fun h => h)
      replace h5 := h5.st S58 (fun h => h)
      replace h8 := h8.st S58 (fun h => h)
      replace h11 := h11.st S58 (fun h => h)
      replace h34 := h34.st S58 (fun h => h)
      replace h17 := h17.st S58 (fun h => h)
      replace h20 := h20.st S58 (fun h => h)
      replace h39 := h39.st S58 (fun h => h)
      replace h51 := h51.st S58 (fun h => h)
      refine owp_loudS ⟨_, hZ⟩ ?_
      refine hws_one (i := 8) (by kernel_rfl) rfl ?_
      refine l_store h59 rfl rfl rfl (Nat.le_of_ble_eq_true rfl) (by first | exact allOne rfl | simp [Value.cells, Value.oneCell', errV_one]) fun w60 S61 h59 => ?_
      replace h59 : Lc 5 w60 O57 g55 77 [(.string (⟨#[]⟩ : ByteArray)), (.int .i64 x1.cost), (.slice A53 q46.length c54), (.slice none 0 0)] := h59
      replace hB := hB.st S61 (by decide) (by decide)
      replace h29 := h29.st S61 (by decide)
      replace h5 := h5.st S61 (by decide)
      replace h8 := h8.st S61 (by decide)
      replace h11 := h11.st S61 (by decide)
      replace h34 := h34.st S61 (by decide)
      replace h17 := h17.st S61 (by decide)
      replace h20 := h20.st S61 (by decide)
      replace h39 := h39.st S61 (by decide)
      replace h51 := h51.st S61 (by decide)
      refine owp_loudSE (by kernel_rfl) ?_
      refine hws_nil (by kernel_rfl) ?_
      obtain rfl := sm hy41
      exact ⟨(g55, (A53, c54)), _, ⟨rfl, rfl, rfl, rfl, trivial⟩, hB, h29, h5, h8, h11, h34, h17, h20, h39, h59, h51⟩
    · skip
      refine l_alloc 5 O37 rfl fun g62 w63 O64 S65 h66 => ?_
      replace hZ := hZ.comp S65 (fun _ h => h.elim)
      replace hB := hB.st S65 (fun h => h) (fun h => h)
      replace h29 := h29.st S65 (fun h => h)
      replace h5 := h5.st S65 (fun h => h)
      replace h8 := h8.st S65 (fun h => h)
      replace h11 := h11.st S65 (fun h => h)
      replace h34 := h34.st S65 (fun h => h)
      replace h17 := h17.st S65 (fun h => h)
      replace h20 := h20.st S65 (fun h => h)
      replace h39 := h39.st S65 (fun h => h)
      refine owp_loudS ⟨_, hZ⟩ ?_
      refine hws_one (i := 5) (by kernel_rfl) rfl ?_
      obtain ⟨q67, e68, hy41⟩ := bs hy41
      refine l_call (O := O64) (R := fun w' F v => Vb w' F v q67) (c_symmetry_mapped Fr.lt (Vb.ofAgg (cs := [(.slice A6 x0.vars.length c7), (.slice A9 x0.vals.length c10), (.slice A12 x0.ops.length c13)]) (x := x0) rfl ⟨_, _, _, rfl, h5, h8, h11⟩) h17 e68) rfl rfl fun v73 w69 O70 S71 h72 => ?_
      obtain ⟨A74, c75, rfl⟩ := h72.form
      replace hZ := hZ.comp S71 (fun _ h => h.elim)
      replace hB := hB.st S71 (fun h => h) (fun h => h)
      replace h29 := h29.st S71 (fun h => h)
      replace h5 := h5.st S71 (fun h => h)
      replace h8 := h8.st S71 (fun h => h)
      replace h11 := h11.st S71 (fun h => h)
      replace h34 := h34.st S71 (fun h => h)
      replace h17 := h17.st S71 (fun h => h)
      replace h20 := h20.st S71 (fun h => h)
      replace h39 := h39.st S71 (fun h => h)
      replace h66 := h66.st S71 (fun h => h)
      refine owp_loudS ⟨_, hZ⟩ ?_
      refine hws_pre (fuel := 1) [(6, true)] (by kernel_rfl) (by kernel_rfl) (by kernel_rfl) ⟨_, hZ⟩ ?_
      refine h_bd rfl rfl rfl rfl  ?_
      refine hwp_nilT ?_
      refine hws_one (i := 8) (by kernel_rfl) rfl ?_
      refine l_store h66 rfl rfl rfl (Nat.le_of_ble_eq_true rfl) (by first | exact allOne rfl | simp [Value.cells, Value.oneCell', errV_one]) fun w76 S77 h66 => ?_
      replace h66 : Lc 5 w76 O70 g62 77 [(.string (⟨#[]⟩ : ByteArray)), (.int .i64 x1.cost), (.slice A74 q67.length c75), (.slice none 0 0)] := h66
      replace hB := hB.st S77 (by decide) (by decide)
      replace h29 := h29.st S77 (by decide)
      replace h5 := h5.st S77 (by decide)
      replace h8 := h8.st S77 (by decide)
      replace h11 := h11.st S77 (by decide)
      replace h34 := h34.st S77 (by decide)
      replace h17 := h17.st S77 (by decide)
      replace h20 := h20.st S77 (by decide)
      replace h39 := h39.st S77 (by decide)
      replace h72 := h72.st S77 (by decide)
      refine owp_loudSE (by kernel_rfl) ?_
      refine hws_nil (by kernel_rfl) ?_
      obtain rfl := sm hy41
      exact ⟨(g62, (A74, c75)), _, ⟨rfl, rfl, rfl, rfl, trivial⟩, hB, h29, h5, h8, h11, h34, h17, h20, h39, h66, h72⟩
  rintro l78 w79 ⟨x43, O80, hs81, hB, h29, h5, h8, h11, h34, h17, h20, h39, h44, h45⟩
  refine ewp_sub _ hs81 ?_
  refine ewp_seq ?_
  refine ewp_seq ?_
  refine ewp_region ?_
  refine o_fa rfl rfl  ?_
  refine o_ld (hc := Blk.cell (i := 3) (h34.1) rfl) rfl rfl  ?_
  refine o_ln rfl rfl  ?_
  have l83 : x1.effs.length ≤ 9223372036854775807 := Nat.le_trans h20.len.2.1 h20.len.2.2
  have r82 : inI64 (x1.effs.length : Int) := rngNat l83
  refine o_mv rfl rfl  ?_
  (first | refine owp_nilT ?_ | refine owp_nilB ?_ | refine owp_nilBB ?_ | refine owp_nil ?_)
  obtain ⟨res84, hL85, hm⟩ := bs hm
  refine ewp_join (aft res84 (fun (s86 : (List Eff)) (x87 : (Option Addr × Nat)) => [(4, (.pointer (some ⟨g35, 0, none⟩))), (5, (.pointer (some ⟨x43.1, 0, none⟩)))]) (fun s86 x87 w' => ∃ O' : Lab, Bs w A w' O' ∧ Lc 4 w' O' g35 77 [(.string (⟨#[]⟩ : ByteArray)), (.int .i64 0), (.slice none 0 0), (.slice none 0 0)] ∧ Lc 5 w' O' x43.1 77 [(.string (⟨#[]⟩ : ByteArray)), (.int .i64 x1.cost), (.slice x43.2.1 y40.length x43.2.2), (.slice x87.1 s86.length x87.2)] ∧ Vb w' (Fr 0 w' O') (.slice x43.2.1 y40.length x43.2.2) y40 ∧ Rw 8 w' O' 74 (.slice x87.1 s86.length x87.2) s86)) ?_ ?_
  · refine ewp_block ?_
    refine ewp_rng (σ := (List Eff)) (X := (Option Addr × Nat)) (x1.effs.length) hL85 rfl l83 (fun (s86 : (List Eff)) (x87 : (Option Addr × Nat)) => [(2, (.pointer (some ⟨g25, 0, none⟩))), (4, (.pointer (some ⟨g35, 0, none⟩))), (5, (.pointer (some ⟨x43.1, 0, none⟩))), (16, (.slice A21 x1.effs.length c22))]) _ (fun s86 x87 w' => ∃ O' : Lab, Bs w A w' O' ∧ Lc 2 w' O' g25 29 [(.slice A6 x0.vars.length c7), (.slice A9 x0.vals.length c10), (.slice A12 x0.ops.length c13)] ∧ Vb w' (Fr 0 w' O') (.slice A6 x0.vars.length c7) x0.vars ∧ Vb w' (Fr 0 w' O') (.slice A9 x0.vals.length c10) x0.vals ∧ Vb w' (Fr 0 w' O') (.slice A12 x0.ops.length c13) x0.ops ∧ Lc 4 w' O' g35 77 [(.string (⟨#[]⟩ : ByteArray)), (.int .i64 0), (.slice none 0 0), (.slice none 0 0)] ∧ Lc 5 w' O' x43.1 77 [(.string (⟨#[]⟩ : ByteArray)), (.int .i64 x1.cost), (.slice x43.2.1 y40.length x43.2.2), (.slice x87.1 s86.length x87.2)] ∧ Vb w' (Fr 0 w' O') (.slice x43.2.1 y40.length x43.2.2) y40 ∧ Rw 8 w' O' 74 (.slice x87.1 s86.length x87.2) s86 ∧ Vb w' (Fr 0 w' O') (.slice A21 x1.effs.length c22) x1.effs) _ (none, 0) ⟨O80, hB, h29, h5, h8, h11, h39, h44, h45, (Rw.nil 8 (by decide)), h20⟩ ⟨rfl, rfl, rfl, rfl, rfl, rfl, trivial⟩ (fun _ _ => ⟨rfl, rfl⟩) (fun _ _ => ⟨rfl, rfl, trivial⟩) (fun _ _ _ ⟨O', hB, h29, h5, h8, h11, h39, h44, h45, h101, h20⟩ => ⟨O', hB, h39, h44, h45, h101⟩) ⟨rfl, rfl, rfl⟩ ⟨rfl, rfl⟩ ?_
    rintro k88 a89 s86 x87 w90 cc92 hx93 ⟨O91, hB, h29, h5, h8, h11, h39, h44, h45, h101, h20⟩ hf94 hret95 hbrk96
    have rk88 : inI64 (k88 : Int) := rngK hx93 l83
    refine ewp_seq ?_
    refine ewp_region ?_
    obtain ⟨b103, o104, ce105, hA106, hl107, hd108, v110, rfl, h111, r114, r115⟩ := h20.elem' hx93
    obtain ⟨A112, c113, rfl⟩ := h111.form
    refine o_iaE (hA := hA106) (hj := rfl) (hlt := hl107) rfl rfl rfl  ?_
    refine o_la (hl := rfl) (hc := hd108) rfl rfl  ?_
    refine l_alloc 6 O91 rfl fun g116 w117 O118 S119 h120 => ?_
    replace hB := hB.st S119 (fun h => h) (fun h => h)
    replace h29 := h29.st S119 (fun h => h)
    replace h5 := h5.st S119 (fun h => h)
    replace h8 := h8.st S119 (fun h => h)
    replace h11 := h11.st S119 (fun h => h)
    replace h39 := h39.st S119 (fun h => h)
    replace h44 := h44.st S119 (fun h => h)
    replace h45 := h45.st S119 (fun h => h)
    replace h101 := h101.st S119 (fun h => h) (fun h => h)
    replace h20 := h20.st S119 (fun h => h)
    replace h111 := h111.st S119 (fun h => h)
    refine l_store h120 rfl rfl rfl (Nat.le_of_ble_eq_true rfl) (by first | exact allOne rfl | simp [Value.cells, Value.oneCell', errV_one]) fun w121 S122 h120 => ?_
    replace h120 : Lc 6 w121 O118 g116 74 [(.slice A112 a89.cond.length c113), (.int .i64 a89.var), (.int .i64 a89.val)] := h120
    replace hB := hB.st S122 (by decide) (by decide)
    replace h29 := h29.st S122 (by decide)
    replace h5 := h5.st S122 (by decide)
    replace h8 := h8.st S122 (by decide)
    replace h11 := h11.st S122 (by decide)
    replace h39 := h39.st S122 (by decide)
    replace h44 := h44.st S122 (by decide)
    replace h45 := h45.st S122 (by decide)
    replace h101 := h101.st S122 (by decide) (by decide)
    replace h111 := h111.st S122 (by decide)
    replace h20 := h20.st S122 (by decide)
    (first | refine owp_nilT ?_ | refine owp_nilB ?_ | refine owp_nilBB ?_ | refine owp_nil ?_)
    have hZ := St.refl (eT 8) w121 O118
    have zh29 := h29
    have zh5 := h5
    have zh8 := h8
    have zh11 := h11
    have zh39 := h39
    have zh44 := h44
    have zh45 := h45
    have zh101 := h101
    have zh120 := h120
    have zh111 := h111
    have zh20 := h20
    refine ewp_drawS (fun w' => ∃ O', St (eT 8) w121 O118 w' O') ?_
    refine hws_pre (fuel := 6) [(0, true), (1, true), (2, true), (3, true), (4, true), (6, true), (7, true), (8, true), (9, true), (10, true), (11, true), (12, true), (13, true), (14, true), (15, true), (16, true), (17, true), (18, true), (19, true), (20, true), (21, true)] (by kernel_rfl) (by kernel_rfl) (by kernel_rfl) ⟨_, hZ⟩ ?_
    refine h_fa rfl rfl rfl  ?_
    refine h_ldC (hc := fun w' ⟨O', hq⟩ => Blk.cell (i := 3) ((zh44.st hq (by decide)).1) rfl) rfl rfl rfl  ?_
    refine h_laB (hl := rfl) (hb := fun w' ⟨O', hq⟩ => ((zh29.st hq (by decide)).1).cellsAt) rfl rfl rfl  ?_
    refine h_fa rfl rfl rfl  ?_
    refine h_ldC (hc := fun w' ⟨O', hq⟩ => Blk.cell (i := 0) ((zh120.st hq (by decide)).1) rfl) rfl rfl rfl  ?_
    refine h_fa rfl rfl rfl  ?_
    refine h_ldC (hc := fun w' ⟨O', hq⟩ => Blk.cell (i := 0) ((zh29.st hq (by decide)).1) rfl) rfl rfl rfl  ?_
    refine h_fa rfl rfl rfl  ?_
    refine h_ldC (hc := fun w' ⟨O', hq⟩ => Blk.cell (i := 1) ((zh120.st hq (by decide)).1) rfl) rfl rfl rfl  ?_
    obtain ⟨a123, e124, hf94⟩ := bs hf94
    obtain ⟨p126, x125⟩ := atI_some' e124
    obtain ⟨b127, o128, ce129, hA130, hF133, hl131, hd132, rfl, r134⟩ := zh5.elem x125
    refine h_iaE (hA := hA130) (hj := (Int.toNat_of_nonneg p126).symm) (hlt := hl131) rfl rfl rfl rfl  ?_
    refine h_ldC (hc := fun w' ⟨O', hq⟩ => cat0 (cellsAt_agree (hq.agree (i := 0) (by decide)) hF133 hd132)) rfl rfl rfl  ?_
    refine h_fa rfl rfl rfl  ?_
    refine h_ldC (hc := fun w' ⟨O', hq⟩ => Blk.cell (i := 1) ((zh29.st hq (by decide)).1) rfl) rfl rfl rfl  ?_
    refine h_fa rfl rfl rfl  ?_
    refine h_ldC (hc := fun w' ⟨O', hq⟩ => Blk.cell (i := 1) ((zh120.st hq (by decide)).1) rfl) rfl rfl rfl  ?_
    obtain ⟨a135, e136, hf94⟩ := bs hf94
    obtain ⟨p138, x137⟩ := atI_some' e136
    obtain ⟨b139, o140, ce141, hA142, hF145, hl143, hd144, v146, rfl, h147⟩ := zh8.elem x137
    replace h147 := Vb.of_slice h147
    obtain ⟨A148, c149, rfl⟩ := h147.form
    have zh147 := h147
    refine h_iaE (hA := hA142) (hj := (Int.toNat_of_nonneg p138).symm) (hlt := hl143) rfl rfl rfl rfl  ?_
    refine h_ldC (hc := fun w' ⟨O', hq⟩ => cat0 (cellsAt_agree (hq.agree (i := 0) (by decide)) hF145 hd144)) rfl rfl rfl  ?_
    refine h_fa rfl rfl rfl  ?_
    refine h_ldC (hc := fun w' ⟨O', hq⟩ => Blk.cell (i := 2) ((zh120.st hq (by decide)).1) rfl) rfl rfl rfl  ?_
    obtain ⟨a150, e151, hf94⟩ := bs hf94
    obtain ⟨p153, x152⟩ := atI_some' e151
    obtain ⟨b154, o155, ce156, hA157, hF160, hl158, hd159, rfl, r161⟩ := zh147.elem x152
    refine h_iaE (hA := hA157) (hj := (Int.toNat_of_nonneg p153).symm) (hlt := hl158) rfl rfl rfl rfl  ?_
    refine h_ldC (hc := fun w' ⟨O', hq⟩ => cat0 (cellsAt_agree (hq.agree (i := 0) (by decide)) hF160 hd159)) rfl rfl rfl  ?_
    refine hwp_nilT ?_
    refine hws_one (i := 5) (by kernel_rfl) rfl ?_
    obtain ⟨q162, e163, hf94⟩ := bs hf94
    refine l_call (O := O118) (R := fun w' F v => Vb w' F v q162) (c_symmetry_mapped Fr.lt (Vb.ofAgg (cs := [(.slice A6 x0.vars.length c7), (.slice A9 x0.vals.length c10), (.slice A12 x0.ops.length c13)]) (x := x0) rfl ⟨_, _, _, rfl, h5, h8, h11⟩) h111 e163) rfl rfl fun v168 w164 O165 S166 h167 => ?_
    obtain ⟨A169, c170, rfl⟩ := h167.form
    replace hZ := hZ.comp S166 (fun _ h => h.elim)
    replace hB := hB.st S166 (fun h => h) (fun h => h)
    replace h29 := h29.st S166 (fun h => h)
    replace h5 := h5.st S166 (fun h => h)
    replace h8 := h8.st S166 (fun h => h)
    replace h11 := h11.st S166 (fun h => h)
    replace h39 := h39.st S166 (fun h => h)
    replace h44 := h44.st S166 (fun h => h)
    replace h45 := h45.st S166 (fun h => h)
    replace h101 := h101.st S166 (fun h => h) (fun h => h)
    replace h20 := h20.st S166 (fun h => h)
    refine owp_loudS ⟨_, hZ⟩ ?_
    refine hws_pre (fuel := 4) [(22, true)] (by kernel_rfl) (by kernel_rfl) (by kernel_rfl) ⟨_, hZ⟩ ?_
    refine h_bd rfl rfl rfl rfl  ?_
    refine hwp_nilT ?_
    refine hws_one (i := 23) (by kernel_rfl) rfl ?_
    refine l_bslice 7 (by decide) O165 (xs := ([(⟨q162, a123, a150⟩ : Eff)] : List Eff)) rfl rfl rfl rfl ⟨(Vb.ofAgg (cs := [(.slice A169 q162.length c170), (.int .i64 a123), (.int .i64 a150)]) (x := (⟨q162, a123, a150⟩ : Eff)) rfl ⟨_, rfl, h167, r134, r161⟩), trivial⟩ (by decide) (by decide) rfl fun g171 w172 O173 S174 h175 => ?_
    replace hZ := hZ.comp S174 (fun _ h => h.elim)
    replace hB := hB.st S174 (fun h => h) (fun h => h)
    replace h29 := h29.st S174 (fun h => h)
    replace h5 := h5.st S174 (fun h => h)
    replace h8 := h8.st S174 (fun h => h)
    replace h11 := h11.st S174 (fun h => h)
    replace h39 := h39.st S174 (fun h => h)
    replace h44 := h44.st S174 (fun h => h)
    replace h45 := h45.st S174 (fun h => h)
    replace h101 := h101.st S174 (fun h => h) (fun h => h)
    replace h20 := h20.st S174 (fun h => h)
    refine owp_loudS ⟨_, hZ⟩ ?_
    refine hws_one (i := 24) (by kernel_rfl) rfl ?_
    obtain ⟨u177, e178, hf94⟩ := bs hf94
    obtain ⟨e178, e179, e180⟩ := appI_some e178
    refine l_append rfl h101 (h175.rd) rfl rfl (by decide) e179 e180 rfl fun A181 c182 w183 O184 S185 h186 => ?_
    rw [← e178] at h186 ⊢
    replace hZ := hZ.comp S185 (fun _ h => by cases h; decide)
    replace hB := hB.st S185 (by decide) (by decide)
    replace h29 := h29.st S185 (by decide)
    replace h5 := h5.st S185 (by decide)
    replace h8 := h8.st S185 (by decide)
    replace h11 := h11.st S185 (by decide)
    replace h39 := h39.st S185 (by decide)
    replace h44 := h44.st S185 (by decide)
    replace h45 := h45.st S185 (by decide)
    replace h20 := h20.st S185 (by decide)
    refine owp_loudS ⟨_, hZ⟩ ?_
    refine hws_pre (fuel := 1) [(25, true)] (by kernel_rfl) (by kernel_rfl) (by kernel_rfl) ⟨_, hZ⟩ ?_
    refine h_fa rfl rfl rfl  ?_
    refine hwp_nilT ?_
    refine hws_one (i := 26) (by kernel_rfl) rfl ?_
    refine l_store h44 rfl rfl rfl (Nat.le_of_ble_eq_true rfl) (by first | exact allOne rfl | simp [Value.cells, Value.oneCell', errV_one]) fun w188 S189 h44 => ?_
    replace h44 : Lc 5 w188 O184 x43.1 77 [(.string (⟨#[]⟩ : ByteArray)), (.int .i64 x1.cost), (.slice x43.2.1 y40.length x43.2.2), (.slice A181 u177.length c182)] := h44
    replace hB := hB.st S189 (by decide) (by decide)
    replace h29 := h29.st S189 (by decide)
    replace h5 := h5.st S189 (by decide)
    replace h8 := h8.st S189 (by decide)
    replace h11 := h11.st S189 (by decide)
    replace h39 := h39.st S189 (by decide)
    replace h45 := h45.st S189 (by decide)
    replace h186 := h186.st S189 (by decide) (by decide)
    replace h20 := h20.st S189 (by decide)
    refine owp_loudSE (by kernel_rfl) ?_
    refine hws_nil (by kernel_rfl) ?_
    obtain rfl := sm hf94
    refine (?_ : Exists _)
    exact ⟨_, (A181, c182), rfl, ⟨rfl, rfl, rfl, rfl, rfl, rfl, trivial⟩, _, hB, h29, h5, h8, h11, h39, h44, h45, h186, h20⟩
  rintro l190 w191 ⟨s194, x195, rfl, hs193, O192, hB, h39, h44, h45, h101⟩
  replace hm := fin_done hm
  refine ewp_sub _ hs193 ?_
  refine ewp_seq ?_
  refine ewp_region ?_
  refine o_la (hl := rfl) (hc := (h44.1).cellsAt) rfl rfl  ?_
  refine l_store h39 rfl rfl rfl (Nat.le_of_ble_eq_true rfl) (by first | exact allOne rfl | simp [Value.cells, Value.oneCell', errV_one]) fun w196 S197 h39 => ?_
  replace h39 : Lc 4 w196 O192 g35 77 [(.string (⟨#[]⟩ : ByteArray)), (.int .i64 x1.cost), (.slice x43.2.1 y40.length x43.2.2), (.slice x195.1 s194.length x195.2)] := h39
  replace hB := hB.st S197 (by decide) (by decide)
  replace h45 := h45.st S197 (by decide)
  replace h101 := h101.st S197 (by decide) (by decide)
  (first | refine owp_nilT ?_ | refine owp_nilB ?_ | refine owp_nilBB ?_ | refine owp_nil ?_)
  refine ewp_ret ?_
  obtain ⟨O198, S199, h101⟩ := h101.freeze
  replace hB := hB.st S199 (by decide) (by decide)
  replace h39 := h39.st S199 (by decide)
  replace h45 := h45.st S199 (by decide)
  obtain rfl := sm hm
  exact ret1v rfl (res_cell (cs := [(.string (⟨#[]⟩ : ByteArray)), (.int .i64 x1.cost), (.slice x43.2.1 y40.length x43.2.2), (.slice x195.1 s194.length x195.2)]) rfl rfl h39.1.cellsAt) ⟨hB.ext, (Vb.mono (F := Fr 0 w196 O198) (Vb.ofAgg (cs := [(.string (⟨#[]⟩ : ByteArray)), (.int .i64 x1.cost), (.slice x43.2.1 y40.length x43.2.2), (.slice x195.1 s194.length x195.2)]) (x := (⟨(⟨#[]⟩ : ByteArray), x1.cost, y40, s194⟩ : Opr)) rfl ⟨_, _, rfl, h45, h101, r23, (show (⟨#[]⟩ : ByteArray).size ≤ 9223372036854775807 from by decide)⟩) hB.out)⟩
noncomputable def m_symmetry_is (x0 : Tsk) (x1 : Swp) : Option Bool :=
  bnd (bnd (m_symmetry_facts x0 x1) fun q45 => if q45 = true then bnd (m_symmetry_permutation x1.ops (x0.ops.length : Int)) fun q54 => if q54 = true then bnd (m_symmetry_mapped x1 x0.goal) fun q61 => bnd (m_slices_Equal_Lapi_Fact_api_Fact q61 x0.goal) fun q70 => if q70 = true then some false else some true else some true else some true : Option Bool) fun y41 => if y41 = true then (some false) else (bnd (rng (ρ := Bool) (fun (k88 : Nat) (a89 : Opr) (s86 : Unit) => bnd (x1.ops[k88]?) fun a123 => bnd (atI x0.ops a123) fun a133 => bnd (m_symmetry_image x1 a89) fun q154 => bnd (m_symmetry_alike q154 a133) fun q172 => if q172 = true then some (.next ()) else some (.ret false)) x0.ops 0 ()) fun res84 => fin res84 fun (s183 : Unit) => some true)
theorem c_symmetry_is {w : World} {A : Nat → Prop} (hA : ∀ k, A k → k < w.heap.size) {vx0 : Value} {x0 : Tsk} (hx0 : Vb w A vx0 x0) {vx1 : Value} {x1 : Swp} (hx1 : Vb w A vx1 x1) {r : Bool} (hm : m_symmetry_is x0 x1 = some r) :
    Fn Try.prog 39 [vx0, vx1] w fun v w' => Ext w w' ∧ Vb w' (upA A w w') v r := by
  obtain ⟨O, hB, hA0⟩ := enter hA
  replace hx0 := hx0.mono hA0
  obtain ⟨cs1, rfl, v2, v3, v4, v5, rfl, h6, h9, h12, h15⟩ := hx0
  obtain ⟨A7, c8, rfl⟩ := h6.form
  obtain ⟨A10, c11, rfl⟩ := h9.form
  obtain ⟨A13, c14, rfl⟩ := h12.form
  obtain ⟨A16, c17, rfl⟩ := h15.form
  replace hx1 := hx1.mono hA0
  obtain ⟨cs18, rfl, v19, v20, v21, rfl, h22, h25, h28⟩ := hx1
  obtain ⟨A23, c24, rfl⟩ := h22.form
  obtain ⟨A26, c27, rfl⟩ := h25.form
  obtain ⟨A29, c30, rfl⟩ := h28.form
  refine fn_enter Try.func39 rfl Try.ntmps39 rfl ?_
  unfold m_symmetry_is at hm
  refine ewp_seq ?_
  refine ewp_region ?_
  refine l_box 2 O rfl rfl fun g31 w32 O33 S34 h35 => ?_
  replace h35 : Lc 2 w32 O33 g31 26 [(.slice A7 x0.vars.length c8), (.slice A10 x0.init.length c11), (.slice A13 x0.goal.length c14), (.slice A16 x0.ops.length c17)] := h35
  replace hB := hB.st S34 (fun h => h) (fun h => h)
  replace h22 := h22.st S34 (fun h => h)
  replace h25 := h25.st S34 (fun h => h)
  replace h28 := h28.st S34 (fun h => h)
  replace h6 := h6.st S34 (fun h => h)
  replace h9 := h9.st S34 (fun h => h)
  replace h12 := h12.st S34 (fun h => h)
  replace h15 := h15.st S34 (fun h => h)
  refine l_box 3 O33 rfl rfl fun g36 w37 O38 S39 h40 => ?_
  replace h40 : Lc 3 w37 O38 g36 29 [(.slice A23 x1.vars.length c24), (.slice A26 x1.vals.length c27), (.slice A29 x1.ops.length c30)] := h40
  replace hB := hB.st S39 (fun h => h) (fun h => h)
  replace h35 := h35.st S39 (fun h => h)
  replace h6 := h6.st S39 (fun h => h)
  replace h9 := h9.st S39 (fun h => h)
  replace h12 := h12.st S39 (fun h => h)
  replace h15 := h15.st S39 (fun h => h)
  replace h22 := h22.st S39 (fun h => h)
  replace h25 := h25.st S39 (fun h => h)
  replace h28 := h28.st S39 (fun h => h)
  refine o_as rfl rfl  ?_
  (first | refine owp_nilT ?_ | refine owp_nilB ?_ | refine owp_nilBB ?_ | refine owp_nil ?_)
  refine ewp_seq ?_
  refine ewp_seq ?_
  obtain ⟨y41, hy42, hm⟩ := bs hm
  refine ewp_join (fun l' w' => ∃ (x44 : Unit) (O' : Lab), subs l' [(2, (.pointer (some ⟨g31, 0, none⟩))), (3, (.pointer (some ⟨g36, 0, none⟩))), (29, (.bool y41))] ∧ Bs w A w' O' ∧ Lc 2 w' O' g31 26 [(.slice A7 x0.vars.length c8), (.slice A10 x0.init.length c11), (.slice A13 x0.goal.length c14), (.slice A16 x0.ops.length c17)] ∧ Vb w' (Fr 0 w' O') (.slice A7 x0.vars.length c8) x0.vars ∧ Vb w' (Fr 0 w' O') (.slice A10 x0.init.length c11) x0.init ∧ Vb w' (Fr 0 w' O') (.slice A13 x0.goal.length c14) x0.goal ∧ Vb w' (Fr 0 w' O') (.slice A16 x0.ops.length c17) x0.ops ∧ Lc 3 w' O' g36 29 [(.slice A23 x1.vars.length c24), (.slice A26 x1.vals.length c27), (.slice A29 x1.ops.length c30)] ∧ Vb w' (Fr 0 w' O') (.slice A23 x1.vars.length c24) x1.vars ∧ Vb w' (Fr 0 w' O') (.slice A26 x1.vals.length c27) x1.vals ∧ Vb w' (Fr 0 w' O') (.slice A29 x1.ops.length c30) x1.ops) ?_ ?_
  · skip
    have hZ := St.refl (nT) w37 O38
    have zh35 := h35
    have zh6 := h6
    have zh9 := h9
    have zh12 := h12
    have zh15 := h15
    have zh40 := h40
    have zh22 := h22
    have zh25 := h25
    have zh28 := h28
    refine ewp_drawS (fun w' => ∃ O', St (nT) w37 O38 w' O') ?_
    refine hws_pre (fuel := 21) [(0, true), (1, true)] (by kernel_rfl) (by kernel_rfl) (by kernel_rfl) ⟨_, hZ⟩ ?_
    refine h_laB (hl := rfl) (hb := fun w' ⟨O', hq⟩ => ((zh35.st hq (by decide)).1).cellsAt) rfl rfl rfl  ?_
    refine h_laB (hl := rfl) (hb := fun w' ⟨O', hq⟩ => ((zh40.st hq (by decide)).1).cellsAt) rfl rfl rfl  ?_
    refine hwp_nilT ?_
    refine hws_one (i := 2) (by kernel_rfl) rfl ?_
    obtain ⟨q45, e46, hy42⟩ := bs hy42
    refine l_callA (O := O38) (A := All w37) (R := fun w' F v => Vb w' F v q45) (c_symmetry_facts (fun _ h => h) (Vb.mono (F := Fr 0 w37 O38) (Vb.ofAgg (cs := [(.slice A7 x0.vars.length c8), (.slice A10 x0.init.length c11), (.slice A13 x0.goal.length c14), (.slice A16 x0.ops.length c17)]) (x := x0) rfl ⟨_, _, _, _, rfl, h6, h9, h12, h15⟩) Fr.lt) (Vb.mono (F := Fr 0 w37 O38) (Vb.ofAgg (cs := [(.slice A23 x1.vars.length c24), (.slice A26 x1.vals.length c27), (.slice A29 x1.ops.length c30)]) (x := x1) rfl ⟨_, _, _, rfl, h22, h25, h28⟩) Fr.lt) e46) rfl rfl fun v51 w47 O48 S49 h50 => ?_
    obtain rfl := h50.bool
    replace hZ := hZ.comp S49 (fun _ h => h.elim)
    replace hB := hB.st S49 (fun h => h) (fun h => h)
    replace h35 := h35.st S49 (fun h => h)
    replace h6 := h6.st S49 (fun h => h)
    replace h9 := h9.st S49 (fun h => h)
    replace h12 := h12.st S49 (fun h => h)
    replace h15 := h15.st S49 (fun h => h)
    replace h40 := h40.st S49 (fun h => h)
    replace h22 := h22.st S49 (fun h => h)
    replace h25 := h25.st S49 (fun h => h)
    replace h28 := h28.st S49 (fun h => h)
    cases q45
    case false =>
      replace hy42 := iF hy42
      refine owp_loudS ⟨_, hZ⟩ ?_
      refine hws_pre (fuel := 13) [(3, true), (4, true), (5, true), (6, true), (7, true), (8, true), (9, true)] (by kernel_rfl) (by kernel_rfl) (by kernel_rfl) ⟨_, hZ⟩ ?_
      refine h_nf rfl rfl rfl  ?_
      refine h_mv rfl rfl rfl  ?_
      refine h_no rfl rfl rfl rfl rfl ?_
      refine h_no rfl rfl rfl rfl rfl ?_
      refine h_no rfl rfl rfl rfl rfl ?_
      refine h_no rfl rfl rfl rfl rfl ?_
      refine h_no rfl rfl rfl rfl rfl ?_
      refine hwp_nilT ?_
      refine hws_one (i := 10) (by kernel_rfl) rfl ?_
      refine owp_no rfl rfl rfl rfl ?_
      refine owp_loudS ⟨_, hZ⟩ ?_
      refine hws_pre (fuel := 4) [(11, true), (12, true), (13, true), (14, true), (15, true), (16, true), (18, true), (19, true)] (by kernel_rfl) (by kernel_rfl) (by kernel_rfl) ⟨_, hZ⟩ ?_
      refine h_no rfl rfl rfl rfl rfl ?_
      refine h_pt rfl rfl rfl rfl  ?_
      refine h_mv rfl rfl rfl  ?_
      refine h_no rfl rfl rfl rfl rfl ?_
      refine h_no rfl rfl rfl rfl rfl ?_
      refine h_no rfl rfl rfl rfl rfl ?_
      refine h_no rfl rfl rfl rfl rfl ?_
      refine h_no rfl rfl rfl rfl rfl ?_
      refine hwp_nilT ?_
      refine hws_one (i := 17) (by kernel_rfl) rfl ?_
      refine owp_no rfl rfl rfl rfl ?_
      refine owp_loudS ⟨_, hZ⟩ ?_
      refine hws_one (i := 20) (by kernel_rfl) rfl ?_
      refine owp_no rfl rfl rfl rfl ?_
      refine owp_loudS ⟨_, hZ⟩ ?_
      refine hws_pre (fuel := 0) [(21, true), (22, true)] (by kernel_rfl) (by kernel_rfl) (by kernel_rfl) ⟨_, hZ⟩ ?_
      refine h_no rfl rfl rfl rfl rfl ?_
      refine h_pt rfl rfl rfl rfl  ?_
      refine hwp_nilT ?_
      refine hws_nil (by kernel_rfl) ?_
      obtain rfl := sm hy42
      exact ⟨(), _, ⟨rfl, rfl, rfl, trivial⟩, hB, h35, h6, h9, h12, h15, h40, h22, h25, h28⟩
    replace hy42 := iT hy42
    refine owp_loudS ⟨_, hZ⟩ ?_
    refine hws_pre (fuel := 13) [(3, true), (4, true), (5, true), (6, true), (7, true), (8, true), (9, true)] (by kernel_rfl) (by kernel_rfl) (by kernel_rfl) ⟨_, hZ⟩ ?_
    refine h_nt rfl rfl rfl  ?_
    refine h_mv rfl rfl rfl  ?_
    refine hwp_o rfl ?_
    refine hwq_yes rfl rfl ?_
    refine g_fa rfl rfl  ?_
    refine hwp_o rfl ?_
    refine hwq_yes rfl rfl ?_
    refine g_ldC (hc := fun w' ⟨O', hq⟩ => Blk.cell (i := 2) ((zh40.st hq (by decide)).1) rfl) rfl rfl  ?_
    refine hwp_o rfl ?_
    refine hwq_yes rfl rfl ?_
    refine g_fa rfl rfl  ?_
    refine hwp_o rfl ?_
    refine hwq_yes rfl rfl ?_
    refine g_ldC (hc := fun w' ⟨O', hq⟩ => Blk.cell (i := 3) ((zh35.st hq (by decide)).1) rfl) rfl rfl  ?_
    refine hwp_o rfl ?_
    refine hwq_yes rfl rfl ?_
    refine g_ln rfl rfl  ?_
    have l53 : x0.ops.length ≤ 9223372036854775807 := Nat.le_trans h15.len.2.1 h15.len.2.2
    have r52 : inI64 (x0.ops.length : Int) := rngNat l53
    refine hwp_nilT ?_
    refine hws_one (i := 10) (by kernel_rfl) rfl ?_
    refine owp_yes rfl rfl ?_
    obtain ⟨q54, e55, hy42⟩ := bs hy42
    refine l_callA (O := O48) (A := All w47) (R := fun w' F v => Vb w' F v q54) (c_symmetry_permutation (fun _ h => h) (Vb.mono (F := Fr 0 w47 O48) h28 Fr.lt) r52 e55) rfl rfl fun v60 w56 O57 S58 h59 => ?_
    obtain rfl := h59.bool
    replace hZ := hZ.comp S58 (fun _ h => h.elim)
    replace hB := hB.st S58 (fun h => h) (fun h => h)
    replace h35 := h35.st S58 (fun h => h)
    replace h6 := h6.st S58 (fun h => h)
    replace h9 := h9.st S58 (fun h => h)
    replace h12 := h12.st S58 (fun h => h)
    replace h15 := h15.st S58 (fun h => h)
    replace h40 := h40.st S58 (fun h => h)
    replace h22 := h22.st S58 (fun h => h)
    replace h25 := h25.st S58 (fun h => h)
    replace h28 := h28.st S58 (fun h => h)
    cases q54
    case false =>
      replace hy42 := iF hy42
      refine owp_loudS ⟨_, hZ⟩ ?_
      refine hws_pre (fuel := 4) [(11, true), (12, true), (13, true), (14, true), (15, true), (16, true), (18, true), (19, true)] (by kernel_rfl) (by kernel_rfl) (by kernel_rfl) ⟨_, hZ⟩ ?_
      refine hwp_o rfl ?_
      refine hwq_yes rfl rfl ?_
      refine g_nf rfl rfl  ?_
      refine h_pf rfl rfl rfl rfl  ?_
      refine h_mv rfl rfl rfl  ?_
      refine h_no rfl rfl rfl rfl rfl ?_
      refine h_no rfl rfl rfl rfl rfl ?_
      refine h_no rfl rfl rfl rfl rfl ?_
      refine h_no rfl rfl rfl rfl rfl ?_
      refine h_no rfl rfl rfl rfl rfl ?_
      refine hwp_nilT ?_
      refine hws_one (i := 17) (by kernel_rfl) rfl ?_
      refine owp_no rfl rfl rfl rfl ?_
      refine owp_loudS ⟨_, hZ⟩ ?_
      refine hws_one (i := 20) (by kernel_rfl) rfl ?_
      refine owp_no rfl rfl rfl rfl ?_
      refine owp_loudS ⟨_, hZ⟩ ?_
      refine hws_pre (fuel := 0) [(21, true), (22, true)] (by kernel_rfl) (by kernel_rfl) (by kernel_rfl) ⟨_, hZ⟩ ?_
      refine h_no rfl rfl rfl rfl rfl ?_
      refine h_pt rfl rfl rfl rfl  ?_
      refine hwp_nilT ?_
      refine hws_nil (by kernel_rfl) ?_
      obtain rfl := sm hy42
      exact ⟨(), _, ⟨rfl, rfl, rfl, trivial⟩, hB, h35, h6, h9, h12, h15, h40, h22, h25, h28⟩
    replace hy42 := iT hy42
    refine owp_loudS ⟨_, hZ⟩ ?_
    refine hws_pre (fuel := 4) [(11, true), (12, true), (13, true), (14, true), (15, true), (16, true), (18, true), (19, true)] (by kernel_rfl) (by kernel_rfl) (by kernel_rfl) ⟨_, hZ⟩ ?_
    refine hwp_o rfl ?_
    refine hwq_yes rfl rfl ?_
    refine g_nt rfl rfl  ?_
    refine h_pf rfl rfl rfl rfl  ?_
    refine h_mv rfl rfl rfl  ?_
    refine hwp_o rfl ?_
    refine hwq_yes rfl rfl ?_
    refine g_laB (hl := rfl) (hb := fun w' ⟨O', hq⟩ => ((zh40.st hq (by decide)).1).cellsAt) rfl rfl  ?_
    refine hwp_o rfl ?_
    refine hwq_yes rfl rfl ?_
    refine g_fa rfl rfl  ?_
    refine hwp_o rfl ?_
    refine hwq_yes rfl rfl ?_
    refine g_ldC (hc := fun w' ⟨O', hq⟩ => Blk.cell (i := 2) ((zh35.st hq (by decide)).1) rfl) rfl rfl  ?_
    refine hwp_o rfl ?_
    refine hwq_yes rfl rfl ?_
    refine g_fa rfl rfl  ?_
    refine hwp_o rfl ?_
    refine hwq_yes rfl rfl ?_
    refine g_ldC (hc := fun w' ⟨O', hq⟩ => Blk.cell (i := 2) ((zh35.st hq (by decide)).1) rfl) rfl rfl  ?_
    refine hwp_nilT ?_
    refine hws_one (i := 17) (by kernel_rfl) rfl ?_
    refine owp_yes rfl rfl ?_
    obtain ⟨q61, e62, hy42⟩ := bs hy42
    refine l_call (O := O57) (R := fun w' F v => Vb w' F v q61) (c_symmetry_mapped Fr.lt (Vb.ofAgg (cs := [(.slice A23 x1.vars.length c24), (.slice A26 x1.vals.length c27), (.slice A29 x1.ops.length c30)]) (x := x1) rfl ⟨_, _, _, rfl, h22, h25, h28⟩) h12 e62) rfl rfl fun v67 w63 O64 S65 h66 => ?_
    obtain ⟨A68, c69, rfl⟩ := h66.form
    replace hZ := hZ.comp S65 (fun _ h => h.elim)
    replace hB := hB.st S65 (fun h => h) (fun h => h)
    replace h35 := h35.st S65 (fun h => h)
    replace h6 := h6.st S65 (fun h => h)
    replace h9 := h9.st S65 (fun h => h)
    replace h12 := h12.st S65 (fun h => h)
    replace h15 := h15.st S65 (fun h => h)
    replace h40 := h40.st S65 (fun h => h)
    replace h22 := h22.st S65 (fun h => h)
    replace h25 := h25.st S65 (fun h => h)
    replace h28 := h28.st S65 (fun h => h)
    refine owp_loudS ⟨_, hZ⟩ ?_
    refine hws_one (i := 20) (by kernel_rfl) rfl ?_
    refine owp_yes rfl rfl ?_
    obtain ⟨q70, e71, hy42⟩ := bs hy42
    refine l_callA (O := O64) (A := All w63) (R := fun w' F v => Vb w' F v q70) (c_slices_Equal_Lapi_Fact_api_Fact (fun _ h => h) (Vb.mono (F := Fr 0 w63 O64) h66 Fr.lt) (Vb.mono (F := Fr 0 w63 O64) h12 Fr.lt) e71) rfl rfl fun v76 w72 O73 S74 h75 => ?_
    obtain rfl := h75.bool
    replace hZ := hZ.comp S74 (fun _ h => h.elim)
    replace hB := hB.st S74 (fun h => h) (fun h => h)
    replace h35 := h35.st S74 (fun h => h)
    replace h6 := h6.st S74 (fun h => h)
    replace h9 := h9.st S74 (fun h => h)
    replace h12 := h12.st S74 (fun h => h)
    replace h15 := h15.st S74 (fun h => h)
    replace h40 := h40.st S74 (fun h => h)
    replace h22 := h22.st S74 (fun h => h)
    replace h25 := h25.st S74 (fun h => h)
    replace h28 := h28.st S74 (fun h => h)
    cases q70
    case false =>
      replace hy42 := iF hy42
      refine owp_loudS ⟨_, hZ⟩ ?_
      refine hws_pre (fuel := 0) [(21, true), (22, true)] (by kernel_rfl) (by kernel_rfl) (by kernel_rfl) ⟨_, hZ⟩ ?_
      refine hwp_o rfl ?_
      refine hwq_yes rfl rfl ?_
      refine g_nf rfl rfl  ?_
      refine h_pf rfl rfl rfl rfl  ?_
      refine hwp_nilT ?_
      refine hws_nil (by kernel_rfl) ?_
      obtain rfl := sm hy42
      exact ⟨(), _, ⟨rfl, rfl, rfl, trivial⟩, hB, h35, h6, h9, h12, h15, h40, h22, h25, h28⟩
    replace hy42 := iT hy42
    refine owp_loudS ⟨_, hZ⟩ ?_
    refine hws_pre (fuel := 0) [(21, true), (22, true)] (by kernel_rfl) (by kernel_rfl) (by kernel_rfl) ⟨_, hZ⟩ ?_
    refine hwp_o rfl ?_
    refine hwq_yes rfl rfl ?_
    refine g_nt rfl rfl  ?_
    refine h_pf rfl rfl rfl rfl  ?_
    refine hwp_nilT ?_
    refine hws_nil (by kernel_rfl) ?_
    obtain rfl := sm hy42
    exact ⟨(), _, ⟨rfl, rfl, rfl, trivial⟩, hB, h35, h6, h9, h12, h15, h40, h22, h25, h28⟩
  rintro l77 w78 ⟨x44, O79, hs80, hB, h35, h6, h9, h12, h15, h40, h22, h25, h28⟩
  refine ewp_sub _ hs80 ?_
  refine ewp_cond rfl (fun c81 => ?_) (fun c81 => ?_)
  · replace hm := ip hm c81
    refine ewp_seq ?_
    refine ewp_region ?_
    refine o_as rfl rfl  ?_
    (first | refine owp_nilT ?_ | refine owp_nilB ?_ | refine owp_nilBB ?_ | refine owp_nil ?_)
    refine ewp_ret ?_
    obtain rfl := sm hm
    exact ret1v rfl (res_tmp rfl) ⟨hB.ext, vBool⟩
  · replace hm := im' hm c81
    refine ewp_skip ?_
    refine ewp_seq ?_
    refine ewp_seq ?_
    refine ewp_region ?_
    refine o_fa rfl rfl  ?_
    refine o_ld (hc := Blk.cell (i := 3) (h35.1) rfl) rfl rfl  ?_
    refine o_ln rfl rfl  ?_
    have l83 : x0.ops.length ≤ 9223372036854775807 := Nat.le_trans h15.len.2.1 h15.len.2.2
    have r82 : inI64 (x0.ops.length : Int) := rngNat l83
    refine o_mv rfl rfl  ?_
    (first | refine owp_nilT ?_ | refine owp_nilB ?_ | refine owp_nilBB ?_ | refine owp_nil ?_)
    obtain ⟨res84, hL85, hm⟩ := bs hm
    refine ewp_join (aft res84 (fun (s86 : Unit) (x87 : Unit) => []) (fun s86 x87 w' => ∃ O' : Lab, Bs w A w' O')) ?_ ?_
    · refine ewp_block ?_
      refine ewp_rng (σ := Unit) (X := Unit) (x0.ops.length) hL85 rfl l83 (fun (s86 : Unit) (x87 : Unit) => [(2, (.pointer (some ⟨g31, 0, none⟩))), (3, (.pointer (some ⟨g36, 0, none⟩))), (31, (.slice A16 x0.ops.length c17))]) _ (fun s86 x87 w' => ∃ O' : Lab, Bs w A w' O' ∧ Lc 2 w' O' g31 26 [(.slice A7 x0.vars.length c8), (.slice A10 x0.init.length c11), (.slice A13 x0.goal.length c14), (.slice A16 x0.ops.length c17)] ∧ Vb w' (Fr 0 w' O') (.slice A7 x0.vars.length c8) x0.vars ∧ Vb w' (Fr 0 w' O') (.slice A10 x0.init.length c11) x0.init ∧ Vb w' (Fr 0 w' O') (.slice A13 x0.goal.length c14) x0.goal ∧ Vb w' (Fr 0 w' O') (.slice A16 x0.ops.length c17) x0.ops ∧ Lc 3 w' O' g36 29 [(.slice A23 x1.vars.length c24), (.slice A26 x1.vals.length c27), (.slice A29 x1.ops.length c30)] ∧ Vb w' (Fr 0 w' O') (.slice A23 x1.vars.length c24) x1.vars ∧ Vb w' (Fr 0 w' O') (.slice A26 x1.vals.length c27) x1.vals ∧ Vb w' (Fr 0 w' O') (.slice A29 x1.ops.length c30) x1.ops) _ () ⟨O79, hB, h35, h6, h9, h12, h15, h40, h22, h25, h28⟩ ⟨rfl, rfl, rfl, rfl, rfl, trivial⟩ (fun _ _ => ⟨rfl, rfl⟩) (fun _ _ => trivial) (fun _ _ _ ⟨O', hB, h35, h6, h9, h12, h15, h40, h22, h25, h28⟩ => ⟨O', hB⟩) ⟨rfl, rfl, rfl⟩ ⟨rfl, rfl⟩ ?_
      rintro k88 a89 s86 x87 w90 cc92 hx93 ⟨O91, hB, h35, h6, h9, h12, h15, h40, h22, h25, h28⟩ hf94 hret95 hbrk96
      have rk88 : inI64 (k88 : Int) := rngK hx93 l83
      refine ewp_seq ?_
      refine ewp_region ?_
      refine o_mv rfl rfl  ?_
      obtain ⟨b99, o100, ce101, hA102, hl103, hd104, v106, v107, rfl, h108, h111, r114, z115⟩ := h15.elem' hx93
      obtain ⟨A109, c110, rfl⟩ := h108.form
      obtain ⟨A112, c113, rfl⟩ := h111.form
      refine o_iaE (hA := hA102) (hj := rfl) (hlt := hl103) rfl rfl rfl  ?_
      refine o_la (hl := rfl) (hc := hd104) rfl rfl  ?_
      refine l_alloc 4 O91 rfl fun g116 w117 O118 S119 h120 => ?_
      replace hB := hB.st S119 (fun h => h) (fun h => h)
      replace h35 := h35.st S119 (fun h => h)
      replace h6 := h6.st S119 (fun h => h)
      replace h9 := h9.st S119 (fun h => h)
      replace h12 := h12.st S119 (fun h => h)
      replace h15 := h15.st S119 (fun h => h)
      replace h40 := h40.st S119 (fun h => h)
      replace h22 := h22.st S119 (fun h => h)
      replace h25 := h25.st S119 (fun h => h)
      replace h28 := h28.st S119 (fun h => h)
      replace h108 := h108.st S119 (fun h => h)
      replace h111 := h111.st S119 (fun h => h)
      refine o_as rfl rfl  ?_
      refine l_store h120 rfl rfl rfl (Nat.le_of_ble_eq_true rfl) (by first | exact allOne rfl | simp [Value.cells, Value.oneCell', errV_one]) fun w121 S122 h120 => ?_
      replace h120 : Lc 4 w121 O118 g116 77 [(.string a89.name), (.int .i64 a89.cost), (.slice A109 a89.pre.length c110), (.slice A112 a89.effs.length c113)] := h120
      replace hB := hB.st S122 (by decide) (by decide)
      replace h35 := h35.st S122 (by decide)
      replace h6 := h6.st S122 (by decide)
      replace h9 := h9.st S122 (by decide)
      replace h12 := h12.st S122 (by decide)
      replace h15 := h15.st S122 (by decide)
      replace h40 := h40.st S122 (by decide)
      replace h22 := h22.st S122 (by decide)
      replace h25 := h25.st S122 (by decide)
      replace h28 := h28.st S122 (by decide)
      replace h108 := h108.st S122 (by decide)
      replace h111 := h111.st S122 (by decide)
      (first | refine owp_nilT ?_ | refine owp_nilB ?_ | refine owp_nilBB ?_ | refine owp_nil ?_)
      refine ewp_seq ?_
      have hZ := St.refl (nT) w121 O118
      have zh35 := h35
      have zh6 := h6
      have zh9 := h9
      have zh12 := h12
      have zh15 := h15
      have zh40 := h40
      have zh22 := h22
      have zh25 := h25
      have zh28 := h28
      have zh120 := h120
      have zh108 := h108
      have zh111 := h111
      refine ewp_drawS (fun w' => ∃ O', St (nT) w121 O118 w' O') ?_
      refine hws_pre (fuel := 3) [(0, true), (1, true), (3, true), (4, true), (5, true), (6, true), (7, true), (8, true), (9, true), (10, true), (11, true)] (by kernel_rfl) (by kernel_rfl) (by kernel_rfl) ⟨_, hZ⟩ ?_
      refine h_laB (hl := rfl) (hb := fun w' ⟨O', hq⟩ => ((zh40.st hq (by decide)).1).cellsAt) rfl rfl rfl  ?_
      refine h_laB (hl := rfl) (hb := fun w' ⟨O', hq⟩ => ((zh120.st hq (by decide)).1).cellsAt) rfl rfl rfl  ?_
      refine h_fa rfl rfl rfl  ?_
      refine h_ldC (hc := fun w' ⟨O', hq⟩ => Blk.cell (i := 3) ((zh35.st hq (by decide)).1) rfl) rfl rfl rfl  ?_
      refine h_fa rfl rfl rfl  ?_
      refine h_ldC (hc := fun w' ⟨O', hq⟩ => Blk.cell (i := 2) ((zh40.st hq (by decide)).1) rfl) rfl rfl rfl  ?_
      refine h_mv rfl rfl rfl  ?_
      obtain ⟨a123, e124, hf94⟩ := bs hf94
      obtain ⟨b125, o126, ce127, hA128, hF131, hl129, hd130, rfl, r132⟩ := zh28.elem e124
      refine h_iaE (hA := hA128) (hj := rfl) (hlt := hl129) rfl rfl rfl rfl  ?_
      refine h_ldC (hc := fun w' ⟨O', hq⟩ => cat0 (cellsAt_agree (hq.agree (i := 0) (by decide)) hF131 hd130)) rfl rfl rfl  ?_
      obtain ⟨a133, e134, hf94⟩ := bs hf94
      obtain ⟨p136, x135⟩ := atI_some' e134
      obtain ⟨b137, o138, ce139, hA140, hF143, hl141, hd142, v144, v145, rfl, h146, h149, r152, z153⟩ := zh15.elem x135
      obtain ⟨A147, c148, rfl⟩ := h146.form
      obtain ⟨A150, c151, rfl⟩ := h149.form
      have zh146 := h146
      have zh149 := h149
      refine h_iaE (hA := hA140) (hj := (Int.toNat_of_nonneg p136).symm) (hlt := hl141) rfl rfl rfl rfl  ?_
      refine h_laB (hl := rfl) (hb := fun w' ⟨O', hq⟩ => (cellsAt_agree (hq.agree (i := 0) (by decide)) hF143 hd142)) rfl rfl rfl  ?_
      refine hwp_nilT ?_
      refine hws_one (i := 2) (by kernel_rfl) rfl ?_
      obtain ⟨q154, e155, hf94⟩ := bs hf94
      refine l_call (O := O118) (R := fun w' F v => Vb w' F v q154) (c_symmetry_image Fr.lt (Vb.ofAgg (cs := [(.slice A23 x1.vars.length c24), (.slice A26 x1.vals.length c27), (.slice A29 x1.ops.length c30)]) (x := x1) rfl ⟨_, _, _, rfl, h22, h25, h28⟩) (Vb.ofAgg (cs := [(.string a89.name), (.int .i64 a89.cost), (.slice A109 a89.pre.length c110), (.slice A112 a89.effs.length c113)]) (x := a89) rfl ⟨_, _, rfl, h108, h111, r114, z115⟩) e155) rfl rfl fun v160 w156 O157 S158 h159 => ?_
      obtain ⟨cs161, rfl, v162, v163, rfl, h164, h167, r170, z171⟩ := h159
      obtain ⟨A165, c166, rfl⟩ := h164.form
      obtain ⟨A168, c169, rfl⟩ := h167.form
      replace hZ := hZ.comp S158 (fun _ h => h.elim)
      replace hB := hB.st S158 (fun h => h) (fun h => h)
      replace h35 := h35.st S158 (fun h => h)
      replace h6 := h6.st S158 (fun h => h)
      replace h9 := h9.st S158 (fun h => h)
      replace h12 := h12.st S158 (fun h => h)
      replace h15 := h15.st S158 (fun h => h)
      replace h40 := h40.st S158 (fun h => h)
      replace h22 := h22.st S158 (fun h => h)
      replace h25 := h25.st S158 (fun h => h)
      replace h28 := h28.st S158 (fun h => h)
      replace h146 := h146.st S158 (fun h => h)
      replace h149 := h149.st S158 (fun h => h)
      refine owp_loudS ⟨_, hZ⟩ ?_
      refine hws_one (i := 12) (by kernel_rfl) rfl ?_
      obtain ⟨q172, e173, hf94⟩ := bs hf94
      refine l_callA (O := O157) (A := All w156) (R := fun w' F v => Vb w' F v q172) (c_symmetry_alike (fun _ h => h) (Vb.mono (F := Fr 0 w156 O157) (Vb.ofAgg (cs := [(.string q154.name), (.int .i64 q154.cost), (.slice A165 q154.pre.length c166), (.slice A168 q154.effs.length c169)]) (x := q154) rfl ⟨_, _, rfl, h164, h167, r170, z171⟩) Fr.lt) (Vb.mono (F := Fr 0 w156 O157) (Vb.ofAgg (cs := [(.string a133.name), (.int .i64 a133.cost), (.slice A147 a133.pre.length c148), (.slice A150 a133.effs.length c151)]) (x := a133) rfl ⟨_, _, rfl, h146, h149, r152, z153⟩) Fr.lt) e173) rfl rfl fun v178 w174 O175 S176 h177 => ?_
      obtain rfl := h177.bool
      replace hZ := hZ.comp S176 (fun _ h => h.elim)
      replace hB := hB.st S176 (fun h => h) (fun h => h)
      replace h35 := h35.st S176 (fun h => h)
      replace h6 := h6.st S176 (fun h => h)
      replace h9 := h9.st S176 (fun h => h)
      replace h12 := h12.st S176 (fun h => h)
      replace h15 := h15.st S176 (fun h => h)
      replace h40 := h40.st S176 (fun h => h)
      replace h22 := h22.st S176 (fun h => h)
      replace h25 := h25.st S176 (fun h => h)
      replace h28 := h28.st S176 (fun h => h)
      cases q172
      case false =>
        replace hf94 := iF hf94
        refine owp_loudS ⟨_, hZ⟩ ?_
        refine hws_pre (fuel := 0) [(13, true)] (by kernel_rfl) (by kernel_rfl) (by kernel_rfl) ⟨_, hZ⟩ ?_
        refine h_nf rfl rfl rfl  ?_
        refine hwp_nilT ?_
        refine hws_nil (by kernel_rfl) ?_
        refine ewp_true rfl ?_
        refine ewp_seq ?_
        refine ewp_region ?_
        refine o_as rfl rfl  ?_
        (first | refine owp_nilT ?_ | refine owp_nilB ?_ | refine owp_nilBB ?_ | refine owp_nil ?_)
        refine ewp_ret ?_
        obtain rfl := sm hf94
        obtain rfl := hret95 _ rfl
        obtain rfl := sm (fin_ret hm)
        exact ret1v rfl (res_tmp rfl) ⟨hB.ext, vBool⟩
      replace hf94 := iT hf94
      refine owp_loudS ⟨_, hZ⟩ ?_
      refine hws_pre (fuel := 0) [(13, true)] (by kernel_rfl) (by kernel_rfl) (by kernel_rfl) ⟨_, hZ⟩ ?_
      refine h_nt rfl rfl rfl  ?_
      refine hwp_nilT ?_
      refine hws_nil (by kernel_rfl) ?_
      refine ewp_false rfl ?_
      refine ewp_skip ?_
      obtain rfl := sm hf94
      refine (?_ : Exists _)
      exact ⟨_, (), rfl, ⟨rfl, rfl, rfl, rfl, rfl, trivial⟩, _, hB, h35, h6, h9, h12, h15, h40, h22, h25, h28⟩
    rintro l179 w180 ⟨s183, x184, rfl, hs182, O181, hB⟩
    replace hm := fin_done hm
    refine ewp_sub _ hs182 ?_
    refine ewp_seq ?_
    refine ewp_region ?_
    refine o_as rfl rfl  ?_
    (first | refine owp_nilT ?_ | refine owp_nilB ?_ | refine owp_nilBB ?_ | refine owp_nil ?_)
    refine ewp_ret ?_
    obtain rfl := sm hm
    exact ret1v rfl (res_tmp rfl) ⟨hB.ext, vBool⟩
noncomputable def m_symmetry_Check (x0 : Tsk) (x1 : Swp) : Option Bool :=
  bnd (bnd (m_task_Check x0) fun q45 => if q45.n = 0 then (bnd (m_symmetry_is x0 x1) fun q54 => if q54 = true then some true else some false) else (some false) : Option Bool) fun y41 => some y41
theorem c_symmetry_Check {w : World} {A : Nat → Prop} (hA : ∀ k, A k → k < w.heap.size) {vx0 : Value} {x0 : Tsk} (hx0 : Vb w A vx0 x0) {vx1 : Value} {x1 : Swp} (hx1 : Vb w A vx1 x1) {r : Bool} (hm : m_symmetry_Check x0 x1 = some r) :
    Fn Try.prog 11 [vx0, vx1] w fun v w' => Ext w w' ∧ Vb w' (upA A w w') v r := by
  obtain ⟨O, hB, hA0⟩ := enter hA
  replace hx0 := hx0.mono hA0
  obtain ⟨cs1, rfl, v2, v3, v4, v5, rfl, h6, h9, h12, h15⟩ := hx0
  obtain ⟨A7, c8, rfl⟩ := h6.form
  obtain ⟨A10, c11, rfl⟩ := h9.form
  obtain ⟨A13, c14, rfl⟩ := h12.form
  obtain ⟨A16, c17, rfl⟩ := h15.form
  replace hx1 := hx1.mono hA0
  obtain ⟨cs18, rfl, v19, v20, v21, rfl, h22, h25, h28⟩ := hx1
  obtain ⟨A23, c24, rfl⟩ := h22.form
  obtain ⟨A26, c27, rfl⟩ := h25.form
  obtain ⟨A29, c30, rfl⟩ := h28.form
  refine fn_enter Try.func11 rfl Try.ntmps11 rfl ?_
  unfold m_symmetry_Check at hm
  refine ewp_seq ?_
  refine ewp_region ?_
  refine l_box 2 O rfl rfl fun g31 w32 O33 S34 h35 => ?_
  replace h35 : Lc 2 w32 O33 g31 26 [(.slice A7 x0.vars.length c8), (.slice A10 x0.init.length c11), (.slice A13 x0.goal.length c14), (.slice A16 x0.ops.length c17)] := h35
  replace hB := hB.st S34 (fun h => h) (fun h => h)
  replace h22 := h22.st S34 (fun h => h)
  replace h25 := h25.st S34 (fun h => h)
  replace h28 := h28.st S34 (fun h => h)
  replace h6 := h6.st S34 (fun h => h)
  replace h9 := h9.st S34 (fun h => h)
  replace h12 := h12.st S34 (fun h => h)
  replace h15 := h15.st S34 (fun h => h)
  refine l_box 3 O33 rfl rfl fun g36 w37 O38 S39 h40 => ?_
  replace h40 : Lc 3 w37 O38 g36 29 [(.slice A23 x1.vars.length c24), (.slice A26 x1.vals.length c27), (.slice A29 x1.ops.length c30)] := h40
  replace hB := hB.st S39 (fun h => h) (fun h => h)
  replace h35 := h35.st S39 (fun h => h)
  replace h6 := h6.st S39 (fun h => h)
  replace h9 := h9.st S39 (fun h => h)
  replace h12 := h12.st S39 (fun h => h)
  replace h15 := h15.st S39 (fun h => h)
  replace h22 := h22.st S39 (fun h => h)
  replace h25 := h25.st S39 (fun h => h)
  replace h28 := h28.st S39 (fun h => h)
  refine o_as rfl rfl  ?_
  (first | refine owp_nilT ?_ | refine owp_nilB ?_ | refine owp_nilBB ?_ | refine owp_nil ?_)
  refine ewp_seq ?_
  obtain ⟨y41, hy42, hm⟩ := bs hm
  refine ewp_join (fun l' w' => ∃ (x44 : Unit) (O' : Lab), subs l' [(4, (.bool y41))] ∧ Bs w A w' O') ?_ ?_
  · skip
    refine ewp_region ?_
    refine o_la (hl := rfl) (hc := (h35.1).cellsAt) rfl rfl  ?_
    obtain ⟨q45, e46, hy42⟩ := bs hy42
    refine l_callA (O := O38) (A := All w37) (R := fun w' F v => Vb w' F v q45) (c_task_Check (fun _ h => h) (Vb.mono (F := Fr 0 w37 O38) (Vb.ofAgg (cs := [(.slice A7 x0.vars.length c8), (.slice A10 x0.init.length c11), (.slice A13 x0.goal.length c14), (.slice A16 x0.ops.length c17)]) (x := x0) rfl ⟨_, _, _, _, rfl, h6, h9, h12, h15⟩) Fr.lt) e46) rfl rfl fun v51 w47 O48 S49 h50 => ?_
    obtain ⟨rfl, r52⟩ := h50.err
    replace hB := hB.st S49 (fun h => h) (fun h => h)
    replace h35 := h35.st S49 (fun h => h)
    replace h6 := h6.st S49 (fun h => h)
    replace h9 := h9.st S49 (fun h => h)
    replace h12 := h12.st S49 (fun h => h)
    replace h15 := h15.st S49 (fun h => h)
    replace h40 := h40.st S49 (fun h => h)
    replace h22 := h22.st S49 (fun h => h)
    replace h25 := h25.st S49 (fun h => h)
    replace h28 := h28.st S49 (fun h => h)
    refine o_erS rfl rfl (fun c53 => ?_) fun c53 => ?_
    · replace hy42 := ip hy42 c53
      refine o_mv rfl rfl  ?_
      refine owp_yes rfl rfl ?_
      refine o_la (hl := rfl) (hc := (h35.1).cellsAt) rfl rfl  ?_
      refine owp_yes rfl rfl ?_
      refine o_la (hl := rfl) (hc := (h40.1).cellsAt) rfl rfl  ?_
      refine owp_yes rfl rfl ?_
      obtain ⟨q54, e55, hy42⟩ := bs hy42
      refine l_callA (O := O48) (A := All w47) (R := fun w' F v => Vb w' F v q54) (c_symmetry_is (fun _ h => h) (Vb.mono (F := Fr 0 w47 O48) (Vb.ofAgg (cs := [(.slice A7 x0.vars.length c8), (.slice A10 x0.init.length c11), (.slice A13 x0.goal.length c14), (.slice A16 x0.ops.length c17)]) (x := x0) rfl ⟨_, _, _, _, rfl, h6, h9, h12, h15⟩) Fr.lt) (Vb.mono (F := Fr 0 w47 O48) (Vb.ofAgg (cs := [(.slice A23 x1.vars.length c24), (.slice A26 x1.vals.length c27), (.slice A29 x1.ops.length c30)]) (x := x1) rfl ⟨_, _, _, rfl, h22, h25, h28⟩) Fr.lt) e55) rfl rfl fun v60 w56 O57 S58 h59 => ?_
      obtain rfl := h59.bool
      replace hB := hB.st S58 (fun h => h) (fun h => h)
      cases q54
      case false =>
        replace hy42 := iF hy42
        refine o_pt rfl rfl rfl  ?_
        refine o_as rfl rfl  ?_
        (first | refine owp_nilT ?_ | refine owp_nilB ?_ | refine owp_nilBB ?_ | refine owp_nil ?_)
        obtain rfl := sm hy42
        exact ⟨(), _, ⟨rfl, trivial⟩, hB⟩
      replace hy42 := iT hy42
      refine o_pt rfl rfl rfl  ?_
      refine o_as rfl rfl  ?_
      (first | refine owp_nilT ?_ | refine owp_nilB ?_ | refine owp_nilBB ?_ | refine owp_nil ?_)
      obtain rfl := sm hy42
      exact ⟨(), _, ⟨rfl, trivial⟩, hB⟩
    · replace hy42 := im hy42 c53
      refine o_mv rfl rfl  ?_
      refine owp_no rfl rfl rfl rfl ?_
      refine owp_no rfl rfl rfl rfl ?_
      refine owp_no rfl rfl rfl rfl ?_
      refine o_pf rfl rfl rfl  ?_
      refine o_as rfl rfl  ?_
      (first | refine owp_nilT ?_ | refine owp_nilB ?_ | refine owp_nilBB ?_ | refine owp_nil ?_)
      obtain rfl := sm hy42
      exact ⟨(), _, ⟨rfl, trivial⟩, hB⟩
  rintro l61 w62 ⟨x44, O63, hs64, hB⟩
  refine ewp_sub _ hs64 ?_
  refine ewp_ret ?_
  obtain rfl := sm hm
  exact ret1v rfl (res_tmp rfl) ⟨hB.ext, vBool⟩
noncomputable def m_symmetry_demand (x0 : Tsk) (x1 : List Swp) : Option Err :=
  bnd (m_task_Check x0) fun q25 => if q25.n ≠ 0 then (some (⟨q25.n⟩ : Err)) else (bnd (rng (ρ := Err) (fun (k40 : Nat) (a41 : Swp) (s38 : Unit) => bnd (m_symmetry_is x0 a41) fun q77 => if q77 = true then some (.next ()) else some (.ret (⟨2⟩ : Err))) x1 0 ()) fun res36 => fin res36 fun (s88 : Unit) => some (⟨0⟩ : Err))
theorem c_symmetry_demand {w : World} {A : Nat → Prop} (hA : ∀ k, A k → k < w.heap.size) {vx0 : Value} {x0 : Tsk} (hx0 : Vb w A vx0 x0) {vx1 : Value} {x1 : List Swp} (hx1 : Vb w A vx1 x1) {r : Err} (hm : m_symmetry_demand x0 x1 = some r) :
    Fn Try.prog 45 [vx0, vx1] w fun v w' => Ext w w' ∧ Vb w' (upA A w w') v r := by
  obtain ⟨O, hB, hA0⟩ := enter hA
  replace hx0 := hx0.mono hA0
  obtain ⟨cs1, rfl, v2, v3, v4, v5, rfl, h6, h9, h12, h15⟩ := hx0
  obtain ⟨A7, c8, rfl⟩ := h6.form
  obtain ⟨A10, c11, rfl⟩ := h9.form
  obtain ⟨A13, c14, rfl⟩ := h12.form
  obtain ⟨A16, c17, rfl⟩ := h15.form
  replace hx1 := hx1.mono hA0
  obtain ⟨A18, c19, rfl⟩ := hx1.form
  refine fn_enter Try.func45 rfl Try.ntmps45 rfl ?_
  unfold m_symmetry_demand at hm
  refine ewp_seq ?_
  refine ewp_region ?_
  refine l_box 2 O rfl rfl fun g20 w21 O22 S23 h24 => ?_
  replace h24 : Lc 2 w21 O22 g20 26 [(.slice A7 x0.vars.length c8), (.slice A10 x0.init.length c11), (.slice A13 x0.goal.length c14), (.slice A16 x0.ops.length c17)] := h24
  replace hB := hB.st S23 (fun h => h) (fun h => h)
  replace hx1 := hx1.st S23 (fun h => h)
  replace h6 := h6.st S23 (fun h => h)
  replace h9 := h9.st S23 (fun h => h)
  replace h12 := h12.st S23 (fun h => h)
  replace h15 := h15.st S23 (fun h => h)
  refine o_as rfl rfl  ?_
  (first | refine owp_nilT ?_ | refine owp_nilB ?_ | refine owp_nilBB ?_ | refine owp_nil ?_)
  refine ewp_seq ?_
  refine ewp_seq ?_
  refine ewp_region ?_
  refine o_la (hl := rfl) (hc := (h24.1).cellsAt) rfl rfl  ?_
  obtain ⟨q25, e26, hm⟩ := bs hm
  refine l_callA (O := O22) (A := All w21) (R := fun w' F v => Vb w' F v q25) (c_task_Check (fun _ h => h) (Vb.mono (F := Fr 0 w21 O22) (Vb.ofAgg (cs := [(.slice A7 x0.vars.length c8), (.slice A10 x0.init.length c11), (.slice A13 x0.goal.length c14), (.slice A16 x0.ops.length c17)]) (x := x0) rfl ⟨_, _, _, _, rfl, h6, h9, h12, h15⟩) Fr.lt) e26) rfl rfl fun v31 w27 O28 S29 h30 => ?_
  obtain ⟨rfl, r32⟩ := h30.err
  replace hB := hB.st S29 (fun h => h) (fun h => h)
  replace hx1 := hx1.st S29 (fun h => h)
  replace h24 := h24.st S29 (fun h => h)
  replace h6 := h6.st S29 (fun h => h)
  replace h9 := h9.st S29 (fun h => h)
  replace h12 := h12.st S29 (fun h => h)
  replace h15 := h15.st S29 (fun h => h)
  refine o_as rfl rfl  ?_
  (first | refine owp_nilT ?_ | refine owp_nilB ?_ | refine owp_nilBB ?_ | refine owp_nil ?_)
  refine ewp_seq ?_
  refine ewp_region ?_
  refine o_mv rfl rfl  ?_
  refine o_rnS rfl rfl (fun c33 => ?_) fun c33 => ?_
  · replace hm := ip hm c33
    (first | refine owp_nilT ?_ | refine owp_nilB ?_ | refine owp_nilBB ?_ | refine owp_nil ?_)
    refine ewp_true rfl ?_
    refine ewp_seq ?_
    refine ewp_region ?_
    refine o_mv rfl rfl  ?_
    refine o_as rfl rfl  ?_
    (first | refine owp_nilT ?_ | refine owp_nilB ?_ | refine owp_nilBB ?_ | refine owp_nil ?_)
    refine ewp_ret ?_
    obtain rfl := sm hm
    exact ret1v rfl (res_tmp rfl) ⟨hB.ext, (vErr r32)⟩
  · replace hm := im hm c33
    (first | refine owp_nilT ?_ | refine owp_nilB ?_ | refine owp_nilBB ?_ | refine owp_nil ?_)
    refine ewp_false rfl ?_
    refine ewp_skip ?_
    refine ewp_seq ?_
    refine ewp_seq ?_
    refine ewp_region ?_
    refine o_mv rfl rfl  ?_
    refine o_ln rfl rfl  ?_
    have l35 : x1.length ≤ 9223372036854775807 := Nat.le_trans hx1.len.2.1 hx1.len.2.2
    have r34 : inI64 (x1.length : Int) := rngNat l35
    refine o_mv rfl rfl  ?_
    (first | refine owp_nilT ?_ | refine owp_nilB ?_ | refine owp_nilBB ?_ | refine owp_nil ?_)
    obtain ⟨res36, hL37, hm⟩ := bs hm
    refine ewp_join (aft res36 (fun (s38 : Unit) (x39 : Unit) => []) (fun s38 x39 w' => ∃ O' : Lab, Bs w A w' O')) ?_ ?_
    · refine ewp_block ?_
      refine ewp_rng (σ := Unit) (X := Unit) (x1.length) hL37 rfl l35 (fun (s38 : Unit) (x39 : Unit) => [(2, (.pointer (some ⟨g20, 0, none⟩))), (13, (.slice A18 x1.length c19))]) _ (fun s38 x39 w' => ∃ O' : Lab, Bs w A w' O' ∧ Lc 2 w' O' g20 26 [(.slice A7 x0.vars.length c8), (.slice A10 x0.init.length c11), (.slice A13 x0.goal.length c14), (.slice A16 x0.ops.length c17)] ∧ Vb w' (Fr 0 w' O') (.slice A7 x0.vars.length c8) x0.vars ∧ Vb w' (Fr 0 w' O') (.slice A10 x0.init.length c11) x0.init ∧ Vb w' (Fr 0 w' O') (.slice A13 x0.goal.length c14) x0.goal ∧ Vb w' (Fr 0 w' O') (.slice A16 x0.ops.length c17) x0.ops ∧ Vb w' (Fr 0 w' O') (.slice A18 x1.length c19) x1) _ () ⟨O28, hB, h24, h6, h9, h12, h15, hx1⟩ ⟨rfl, rfl, rfl, rfl, trivial⟩ (fun _ _ => ⟨rfl, rfl⟩) (fun _ _ => trivial) (fun _ _ _ ⟨O', hB, h24, h6, h9, h12, h15, hx1⟩ => ⟨O', hB⟩) ⟨rfl, rfl, rfl⟩ ⟨rfl, rfl⟩ ?_
      rintro k40 a41 s38 x39 w42 cc44 hx45 ⟨O43, hB, h24, h6, h9, h12, h15, hx1⟩ hf46 hret47 hbrk48
      have rk40 : inI64 (k40 : Int) := rngK hx45 l35
      refine ewp_seq ?_
      refine ewp_region ?_
      obtain ⟨b51, o52, ce53, hA54, hl55, hd56, v58, v59, v60, rfl, h61, h64, h67⟩ := hx1.elem' hx45
      obtain ⟨A62, c63, rfl⟩ := h61.form
      obtain ⟨A65, c66, rfl⟩ := h64.form
      obtain ⟨A68, c69, rfl⟩ := h67.form
      refine o_iaE (hA := hA54) (hj := rfl) (hlt := hl55) rfl rfl rfl  ?_
      refine o_la (hl := rfl) (hc := hd56) rfl rfl  ?_
      refine l_alloc 3 O43 rfl fun g70 w71 O72 S73 h74 => ?_
      replace hB := hB.st S73 (fun h => h) (fun h => h)
      replace h24 := h24.st S73 (fun h => h)
      replace h6 := h6.st S73 (fun h => h)
      replace h9 := h9.st S73 (fun h => h)
      replace h12 := h12.st S73 (fun h => h)
      replace h15 := h15.st S73 (fun h => h)
      replace hx1 := hx1.st S73 (fun h => h)
      replace h61 := h61.st S73 (fun h => h)
      replace h64 := h64.st S73 (fun h => h)
      replace h67 := h67.st S73 (fun h => h)
      refine l_store h74 rfl rfl rfl (Nat.le_of_ble_eq_true rfl) (by first | exact allOne rfl | simp [Value.cells, Value.oneCell', errV_one]) fun w75 S76 h74 => ?_
      replace h74 : Lc 3 w75 O72 g70 29 [(.slice A62 a41.vars.length c63), (.slice A65 a41.vals.length c66), (.slice A68 a41.ops.length c69)] := h74
      replace hB := hB.st S76 (by decide) (by decide)
      replace h24 := h24.st S76 (by decide)
      replace h6 := h6.st S76 (by decide)
      replace h9 := h9.st S76 (by decide)
      replace h12 := h12.st S76 (by decide)
      replace h15 := h15.st S76 (by decide)
      replace h61 := h61.st S76 (by decide)
      replace h64 := h64.st S76 (by decide)
      replace h67 := h67.st S76 (by decide)
      replace hx1 := hx1.st S76 (by decide)
      (first | refine owp_nilT ?_ | refine owp_nilB ?_ | refine owp_nilBB ?_ | refine owp_nil ?_)
      refine ewp_seq ?_
      refine ewp_region ?_
      refine o_la (hl := rfl) (hc := (h24.1).cellsAt) rfl rfl  ?_
      refine o_la (hl := rfl) (hc := (h74.1).cellsAt) rfl rfl  ?_
      obtain ⟨q77, e78, hf46⟩ := bs hf46
      refine l_callA (O := O72) (A := All w75) (R := fun w' F v => Vb w' F v q77) (c_symmetry_is (fun _ h => h) (Vb.mono (F := Fr 0 w75 O72) (Vb.ofAgg (cs := [(.slice A7 x0.vars.length c8), (.slice A10 x0.init.length c11), (.slice A13 x0.goal.length c14), (.slice A16 x0.ops.length c17)]) (x := x0) rfl ⟨_, _, _, _, rfl, h6, h9, h12, h15⟩) Fr.lt) (Vb.mono (F := Fr 0 w75 O72) (Vb.ofAgg (cs := [(.slice A62 a41.vars.length c63), (.slice A65 a41.vals.length c66), (.slice A68 a41.ops.length c69)]) (x := a41) rfl ⟨_, _, _, rfl, h61, h64, h67⟩) Fr.lt) e78) rfl rfl fun v83 w79 O80 S81 h82 => ?_
      obtain rfl := h82.bool
      replace hB := hB.st S81 (fun h => h) (fun h => h)
      replace h24 := h24.st S81 (fun h => h)
      replace h6 := h6.st S81 (fun h => h)
      replace h9 := h9.st S81 (fun h => h)
      replace h12 := h12.st S81 (fun h => h)
      replace h15 := h15.st S81 (fun h => h)
      replace hx1 := hx1.st S81 (fun h => h)
      cases q77
      case false =>
        replace hf46 := iF hf46
        refine o_nf rfl rfl  ?_
        (first | refine owp_nilT ?_ | refine owp_nilB ?_ | refine owp_nilBB ?_ | refine owp_nil ?_)
        refine ewp_true rfl ?_
        refine ewp_seq ?_
        refine ewp_region ?_
        refine o_miE rfl rfl  ?_
        refine o_as rfl rfl  ?_
        (first | refine owp_nilT ?_ | refine owp_nilB ?_ | refine owp_nilBB ?_ | refine owp_nil ?_)
        refine ewp_ret ?_
        obtain rfl := sm hf46
        obtain rfl := hret47 _ rfl
        obtain rfl := sm (fin_ret hm)
        exact ret1v rfl (res_tmp rfl) ⟨hB.ext, (vErr (by decide))⟩
      replace hf46 := iT hf46
      refine o_nt rfl rfl  ?_
      (first | refine owp_nilT ?_ | refine owp_nilB ?_ | refine owp_nilBB ?_ | refine owp_nil ?_)
      refine ewp_false rfl ?_
      refine ewp_skip ?_
      obtain rfl := sm hf46
      refine (?_ : Exists _)
      exact ⟨_, (), rfl, ⟨rfl, rfl, rfl, rfl, trivial⟩, _, hB, h24, h6, h9, h12, h15, hx1⟩
    rintro l84 w85 ⟨s88, x89, rfl, hs87, O86, hB⟩
    replace hm := fin_done hm
    refine ewp_sub _ hs87 ?_
    refine ewp_seq ?_
    refine ewp_region ?_
    refine o_as rfl rfl  ?_
    (first | refine owp_nilT ?_ | refine owp_nilB ?_ | refine owp_nilBB ?_ | refine owp_nil ?_)
    refine ewp_ret ?_
    obtain rfl := sm hm
    exact ret1v rfl (res_tmp rfl) ⟨hB.ext, (vErr (show inI64 0 from by decide))⟩
noncomputable def m_symmetry_State (x0 : Tsk) (x1 : Swp) (x2 : List Int) : Option ((List Int) × Err) :=
  bnd (m_symmetry_demand x0 [x1]) fun q49 => if q49.n ≠ 0 then (some (([] : List Int), (⟨q49.n⟩ : Err))) else (bnd (m_task_Proper x0.vars x2) fun q58 => if q58 = true then bnd (m_symmetry_moved x1 x2) fun q65 => some (q65, (⟨0⟩ : Err)) else some (([] : List Int), (⟨2⟩ : Err)))
theorem c_symmetry_State {w : World} {A : Nat → Prop} (hA : ∀ k, A k → k < w.heap.size) {vx0 : Value} {x0 : Tsk} (hx0 : Vb w A vx0 x0) {vx1 : Value} {x1 : Swp} (hx1 : Vb w A vx1 x1) {vx2 : Value} {x2 : List Int} (hx2 : Vb w A vx2 x2) {r : (List Int) × Err} (hm : m_symmetry_State x0 x1 x2 = some r) :
    Fn Try.prog 13 [vx0, vx1, vx2] w fun v w' => Ext w w' ∧ T2 w' (upA A w w') v r := by
  obtain ⟨O, hB, hA0⟩ := enter hA
  replace hx0 := hx0.mono hA0
  obtain ⟨cs1, rfl, v2, v3, v4, v5, rfl, h6, h9, h12, h15⟩ := hx0
  obtain ⟨A7, c8, rfl⟩ := h6.form
  obtain ⟨A10, c11, rfl⟩ := h9.form
  obtain ⟨A13, c14, rfl⟩ := h12.form
  obtain ⟨A16, c17, rfl⟩ := h15.form
  replace hx1 := hx1.mono hA0
  obtain ⟨cs18, rfl, v19, v20, v21, rfl, h22, h25, h28⟩ := hx1
  obtain ⟨A23, c24, rfl⟩ := h22.form
  obtain ⟨A26, c27, rfl⟩ := h25.form
  obtain ⟨A29, c30, rfl⟩ := h28.form
  replace hx2 := hx2.mono hA0
  obtain ⟨A31, c32, rfl⟩ := hx2.form
  refine fn_enter Try.func13 rfl Try.ntmps13 rfl ?_
  unfold m_symmetry_State at hm
  refine ewp_seq ?_
  refine ewp_region ?_
  refine l_box 2 O rfl rfl fun g33 w34 O35 S36 h37 => ?_
  replace h37 : Lc 2 w34 O35 g33 26 [(.slice A7 x0.vars.length c8), (.slice A10 x0.init.length c11), (.slice A13 x0.goal.length c14), (.slice A16 x0.ops.length c17)] := h37
  replace hB := hB.st S36 (fun h => h) (fun h => h)
  replace h22 := h22.st S36 (fun h => h)
  replace h25 := h25.st S36 (fun h => h)
  replace h28 := h28.st S36 (fun h => h)
  replace hx2 := hx2.st S36 (fun h => h)
  replace h6 := h6.st S36 (fun h => h)
  replace h9 := h9.st S36 (fun h => h)
  replace h12 := h12.st S36 (fun h => h)
  replace h15 := h15.st S36 (fun h => h)
  refine l_box 3 O35 rfl rfl fun g38 w39 O40 S41 h42 => ?_
  replace h42 : Lc 3 w39 O40 g38 29 [(.slice A23 x1.vars.length c24), (.slice A26 x1.vals.length c27), (.slice A29 x1.ops.length c30)] := h42
  replace hB := hB.st S41 (fun h => h) (fun h => h)
  replace hx2 := hx2.st S41 (fun h => h)
  replace h37 := h37.st S41 (fun h => h)
  replace h6 := h6.st S41 (fun h => h)
  replace h9 := h9.st S41 (fun h => h)
  replace h12 := h12.st S41 (fun h => h)
  replace h15 := h15.st S41 (fun h => h)
  replace h22 := h22.st S41 (fun h => h)
  replace h25 := h25.st S41 (fun h => h)
  replace h28 := h28.st S41 (fun h => h)
  refine o_as rfl rfl  ?_
  refine o_as rfl rfl  ?_
  (first | refine owp_nilT ?_ | refine owp_nilB ?_ | refine owp_nilBB ?_ | refine owp_nil ?_)
  refine ewp_seq ?_
  refine ewp_seq ?_
  refine ewp_region ?_
  refine o_la (hl := rfl) (hc := (h37.1).cellsAt) rfl rfl  ?_
  refine o_la (hl := rfl) (hc := (h42.1).cellsAt) rfl rfl  ?_
  refine l_bslice 4 (by decide) O40 (xs := ([x1] : List Swp)) rfl rfl rfl rfl ⟨(Vb.ofAgg (cs := [(.slice A23 x1.vars.length c24), (.slice A26 x1.vals.length c27), (.slice A29 x1.ops.length c30)]) (x := x1) rfl ⟨_, _, _, rfl, h22, h25, h28⟩), trivial⟩ (by decide) (by decide) rfl fun g43 w44 O45 S46 h47 => ?_
  replace hB := hB.st S46 (fun h => h) (fun h => h)
  replace hx2 := hx2.st S46 (fun h => h)
  replace h37 := h37.st S46 (fun h => h)
  replace h6 := h6.st S46 (fun h => h)
  replace h9 := h9.st S46 (fun h => h)
  replace h12 := h12.st S46 (fun h => h)
  replace h15 := h15.st S46 (fun h => h)
  replace h42 := h42.st S46 (fun h => h)
  replace h22 := h22.st S46 (fun h => h)
  replace h25 := h25.st S46 (fun h => h)
  replace h28 := h28.st S46 (fun h => h)
  obtain ⟨q49, e50, hm⟩ := bs hm
  refine l_callA (O := O45) (A := All w44) (R := fun w' F v => Vb w' F v q49) (c_symmetry_demand (fun _ h => h) (Vb.mono (F := Fr 0 w44 O45) (Vb.ofAgg (cs := [(.slice A7 x0.vars.length c8), (.slice A10 x0.init.length c11), (.slice A13 x0.goal.length c14), (.slice A16 x0.ops.length c17)]) (x := x0) rfl ⟨_, _, _, _, rfl, h6, h9, h12, h15⟩) Fr.lt) (h47).all e50) rfl rfl fun v55 w51 O52 S53 h54 => ?_
  obtain ⟨rfl, r56⟩ := h54.err
  replace hB := hB.st S53 (fun h => h) (fun h => h)
  replace hx2 := hx2.st S53 (fun h => h)
  replace h37 := h37.st S53 (fun h => h)
  replace h6 := h6.st S53 (fun h => h)
  replace h9 := h9.st S53 (fun h => h)
  replace h12 := h12.st S53 (fun h => h)
  replace h15 := h15.st S53 (fun h => h)
  replace h42 := h42.st S53 (fun h => h)
  replace h22 := h22.st S53 (fun h => h)
  replace h25 := h25.st S53 (fun h => h)
  replace h28 := h28.st S53 (fun h => h)
  refine o_as rfl rfl  ?_
  (first | refine owp_nilT ?_ | refine owp_nilB ?_ | refine owp_nilBB ?_ | refine owp_nil ?_)
  refine ewp_seq ?_
  refine ewp_region ?_
  refine o_mv rfl rfl  ?_
  refine o_rnS rfl rfl (fun c57 => ?_) fun c57 => ?_
  · replace hm := ip hm c57
    (first | refine owp_nilT ?_ | refine owp_nilB ?_ | refine owp_nilBB ?_ | refine owp_nil ?_)
    refine ewp_true rfl ?_
    refine ewp_seq ?_
    refine ewp_region ?_
    refine o_mv rfl rfl  ?_
    refine o_as rfl rfl  ?_
    refine o_as rfl rfl  ?_
    (first | refine owp_nilT ?_ | refine owp_nilB ?_ | refine owp_nilBB ?_ | refine owp_nil ?_)
    refine ewp_ret ?_
    obtain rfl := sm hm
    exact ret2 rfl (res_tmp rfl) (res_tmp rfl) ⟨hB.ext, _, _, rfl, (Vb.mono (F := Fr 0 w51 O52) (Vb.nil _ _) hB.out), (vErr r56)⟩
  · replace hm := im hm c57
    (first | refine owp_nilT ?_ | refine owp_nilB ?_ | refine owp_nilBB ?_ | refine owp_nil ?_)
    refine ewp_false rfl ?_
    refine ewp_skip ?_
    refine ewp_seq ?_
    refine ewp_seq ?_
    refine ewp_region ?_
    refine o_fa rfl rfl  ?_
    refine o_ld (hc := Blk.cell (i := 0) (h37.1) rfl) rfl rfl  ?_
    refine o_mv rfl rfl  ?_
    obtain ⟨q58, e59, hm⟩ := bs hm
    refine l_callA (O := O52) (A := All w51) (R := fun w' F v => Vb w' F v q58) (c_task_Proper (fun _ h => h) (Vb.mono (F := Fr 0 w51 O52) h6 Fr.lt) (Vb.mono (F := Fr 0 w51 O52) hx2 Fr.lt) e59) rfl rfl fun v64 w60 O61 S62 h63 => ?_
    obtain rfl := h63.bool
    replace hB := hB.st S62 (fun h => h) (fun h => h)
    replace hx2 := hx2.st S62 (fun h => h)
    replace h42 := h42.st S62 (fun h => h)
    replace h22 := h22.st S62 (fun h => h)
    replace h25 := h25.st S62 (fun h => h)
    replace h28 := h28.st S62 (fun h => h)
    cases q58
    case false =>
      replace hm := iF hm
      refine o_nf rfl rfl  ?_
      (first | refine owp_nilT ?_ | refine owp_nilB ?_ | refine owp_nilBB ?_ | refine owp_nil ?_)
      refine ewp_true rfl ?_
      refine ewp_seq ?_
      refine ewp_region ?_
      refine o_miE rfl rfl  ?_
      refine o_as rfl rfl  ?_
      refine o_as rfl rfl  ?_
      (first | refine owp_nilT ?_ | refine owp_nilB ?_ | refine owp_nilBB ?_ | refine owp_nil ?_)
      refine ewp_ret ?_
      obtain rfl := sm hm
      exact ret2 rfl (res_tmp rfl) (res_tmp rfl) ⟨hB.ext, _, _, rfl, (Vb.mono (F := Fr 0 w60 O61) (Vb.nil _ _) hB.out), (vErr (by decide))⟩
    replace hm := iT hm
    refine o_nt rfl rfl  ?_
    (first | refine owp_nilT ?_ | refine owp_nilB ?_ | refine owp_nilBB ?_ | refine owp_nil ?_)
    refine ewp_false rfl ?_
    refine ewp_skip ?_
    refine ewp_seq ?_
    refine ewp_region ?_
    refine o_la (hl := rfl) (hc := (h42.1).cellsAt) rfl rfl  ?_
    refine o_mv rfl rfl  ?_
    obtain ⟨q65, e66, hm⟩ := bs hm
    refine l_call (O := O61) (R := fun w' F v => Vb w' F v q65) (c_symmetry_moved Fr.lt (Vb.ofAgg (cs := [(.slice A23 x1.vars.length c24), (.slice A26 x1.vals.length c27), (.slice A29 x1.ops.length c30)]) (x := x1) rfl ⟨_, _, _, rfl, h22, h25, h28⟩) hx2 e66) rfl rfl fun v71 w67 O68 S69 h70 => ?_
    obtain ⟨A72, c73, rfl⟩ := h70.form
    replace hB := hB.st S69 (fun h => h) (fun h => h)
    refine o_as rfl rfl  ?_
    refine o_as rfl rfl  ?_
    (first | refine owp_nilT ?_ | refine owp_nilB ?_ | refine owp_nilBB ?_ | refine owp_nil ?_)
    refine ewp_ret ?_
    obtain rfl := sm hm
    exact ret2 rfl (res_tmp rfl) (res_tmp rfl) ⟨hB.ext, _, _, rfl, (Vb.mono (F := Fr 0 w67 O68) h70 hB.out), (vErr (show inI64 0 from by decide))⟩
noncomputable def m_symmetry_Plan (x0 : Tsk) (x1 : Swp) (x2 : List Int) : Option ((List Int) × Err) :=
  bnd (m_symmetry_demand x0 [x1]) fun q49 => if q49.n ≠ 0 then (some (([] : List Int), (⟨q49.n⟩ : Err))) else (bnd (rng (ρ := (List Int) × Err) (fun (k64 : Nat) (a65 : Int) (s62 : (List Int)) => bnd (if a65 < 0 then (some true) else (if (x1.ops.length : Int) ≤ a65 then (some true) else (some false)) : Option Bool) fun y87 => if y87 = true then (some (.ret (([] : List Int), (⟨1⟩ : Err)))) else (bnd (atI x1.ops a65) fun a100 => bnd (appI 8 s62 [a100]) fun u112 => some (.next u112))) x2 0 ([] : List Int)) fun res60 => fin res60 fun (s128 : (List Int)) => some (s128, (⟨0⟩ : Err)))
theorem c_symmetry_Plan {w : World} {A : Nat → Prop} (hA : ∀ k, A k → k < w.heap.size) {vx0 : Value} {x0 : Tsk} (hx0 : Vb w A vx0 x0) {vx1 : Value} {x1 : Swp} (hx1 : Vb w A vx1 x1) {vx2 : Value} {x2 : List Int} (hx2 : Vb w A vx2 x2) {r : (List Int) × Err} (hm : m_symmetry_Plan x0 x1 x2 = some r) :
    Fn Try.prog 14 [vx0, vx1, vx2] w fun v w' => Ext w w' ∧ T2 w' (upA A w w') v r := by
  obtain ⟨O, hB, hA0⟩ := enter hA
  replace hx0 := hx0.mono hA0
  obtain ⟨cs1, rfl, v2, v3, v4, v5, rfl, h6, h9, h12, h15⟩ := hx0
  obtain ⟨A7, c8, rfl⟩ := h6.form
  obtain ⟨A10, c11, rfl⟩ := h9.form
  obtain ⟨A13, c14, rfl⟩ := h12.form
  obtain ⟨A16, c17, rfl⟩ := h15.form
  replace hx1 := hx1.mono hA0
  obtain ⟨cs18, rfl, v19, v20, v21, rfl, h22, h25, h28⟩ := hx1
  obtain ⟨A23, c24, rfl⟩ := h22.form
  obtain ⟨A26, c27, rfl⟩ := h25.form
  obtain ⟨A29, c30, rfl⟩ := h28.form
  replace hx2 := hx2.mono hA0
  obtain ⟨A31, c32, rfl⟩ := hx2.form
  refine fn_enter Try.func14 rfl Try.ntmps14 rfl ?_
  unfold m_symmetry_Plan at hm
  refine ewp_seq ?_
  refine ewp_region ?_
  refine l_box 2 O rfl rfl fun g33 w34 O35 S36 h37 => ?_
  replace h37 : Lc 2 w34 O35 g33 26 [(.slice A7 x0.vars.length c8), (.slice A10 x0.init.length c11), (.slice A13 x0.goal.length c14), (.slice A16 x0.ops.length c17)] := h37
  replace hB := hB.st S36 (fun h => h) (fun h => h)
  replace h22 := h22.st S36 (fun h => h)
  replace h25 := h25.st S36 (fun h => h)
  replace h28 := h28.st S36 (fun h => h)
  replace hx2 := hx2.st S36 (fun h => h)
  replace h6 := h6.st S36 (fun h => h)
  replace h9 := h9.st S36 (fun h => h)
  replace h12 := h12.st S36 (fun h => h)
  replace h15 := h15.st S36 (fun h => h)
  refine l_box 3 O35 rfl rfl fun g38 w39 O40 S41 h42 => ?_
  replace h42 : Lc 3 w39 O40 g38 29 [(.slice A23 x1.vars.length c24), (.slice A26 x1.vals.length c27), (.slice A29 x1.ops.length c30)] := h42
  replace hB := hB.st S41 (fun h => h) (fun h => h)
  replace hx2 := hx2.st S41 (fun h => h)
  replace h37 := h37.st S41 (fun h => h)
  replace h6 := h6.st S41 (fun h => h)
  replace h9 := h9.st S41 (fun h => h)
  replace h12 := h12.st S41 (fun h => h)
  replace h15 := h15.st S41 (fun h => h)
  replace h22 := h22.st S41 (fun h => h)
  replace h25 := h25.st S41 (fun h => h)
  replace h28 := h28.st S41 (fun h => h)
  refine o_as rfl rfl  ?_
  refine o_as rfl rfl  ?_
  (first | refine owp_nilT ?_ | refine owp_nilB ?_ | refine owp_nilBB ?_ | refine owp_nil ?_)
  refine ewp_seq ?_
  refine ewp_seq ?_
  refine ewp_region ?_
  refine o_la (hl := rfl) (hc := (h37.1).cellsAt) rfl rfl  ?_
  refine o_la (hl := rfl) (hc := (h42.1).cellsAt) rfl rfl  ?_
  refine l_bslice 4 (by decide) O40 (xs := ([x1] : List Swp)) rfl rfl rfl rfl ⟨(Vb.ofAgg (cs := [(.slice A23 x1.vars.length c24), (.slice A26 x1.vals.length c27), (.slice A29 x1.ops.length c30)]) (x := x1) rfl ⟨_, _, _, rfl, h22, h25, h28⟩), trivial⟩ (by decide) (by decide) rfl fun g43 w44 O45 S46 h47 => ?_
  replace hB := hB.st S46 (fun h => h) (fun h => h)
  replace hx2 := hx2.st S46 (fun h => h)
  replace h42 := h42.st S46 (fun h => h)
  replace h22 := h22.st S46 (fun h => h)
  replace h25 := h25.st S46 (fun h => h)
  replace h28 := h28.st S46 (fun h => h)
  replace h6 := h6.st S46 (fun h => h)
  replace h9 := h9.st S46 (fun h => h)
  replace h12 := h12.st S46 (fun h => h)
  replace h15 := h15.st S46 (fun h => h)
  obtain ⟨q49, e50, hm⟩ := bs hm
  refine l_callA (O := O45) (A := All w44) (R := fun w' F v => Vb w' F v q49) (c_symmetry_demand (fun _ h => h) (Vb.mono (F := Fr 0 w44 O45) (Vb.ofAgg (cs := [(.slice A7 x0.vars.length c8), (.slice A10 x0.init.length c11), (.slice A13 x0.goal.length c14), (.slice A16 x0.ops.length c17)]) (x := x0) rfl ⟨_, _, _, _, rfl, h6, h9, h12, h15⟩) Fr.lt) (h47).all e50) rfl rfl fun v55 w51 O52 S53 h54 => ?_
  obtain ⟨rfl, r56⟩ := h54.err
  replace hB := hB.st S53 (fun h => h) (fun h => h)
  replace hx2 := hx2.st S53 (fun h => h)
  replace h42 := h42.st S53 (fun h => h)
  replace h22 := h22.st S53 (fun h => h)
  replace h25 := h25.st S53 (fun h => h)
  replace h28 := h28.st S53 (fun h => h)
  refine o_as rfl rfl  ?_
  (first | refine owp_nilT ?_ | refine owp_nilB ?_ | refine owp_nilBB ?_ | refine owp_nil ?_)
  refine ewp_seq ?_
  refine ewp_region ?_
  refine o_mv rfl rfl  ?_
  refine o_rnS rfl rfl (fun c57 => ?_) fun c57 => ?_
  · replace hm := ip hm c57
    (first | refine owp_nilT ?_ | refine owp_nilB ?_ | refine owp_nilBB ?_ | refine owp_nil ?_)
    refine ewp_true rfl ?_
    refine ewp_seq ?_
    refine ewp_region ?_
    refine o_mv rfl rfl  ?_
    refine o_as rfl rfl  ?_
    refine o_as rfl rfl  ?_
    (first | refine owp_nilT ?_ | refine owp_nilB ?_ | refine owp_nilBB ?_ | refine owp_nil ?_)
    refine ewp_ret ?_
    obtain rfl := sm hm
    exact ret2 rfl (res_tmp rfl) (res_tmp rfl) ⟨hB.ext, _, _, rfl, (Vb.mono (F := Fr 0 w51 O52) (Vb.nil _ _) hB.out), (vErr r56)⟩
  · replace hm := im hm c57
    (first | refine owp_nilT ?_ | refine owp_nilB ?_ | refine owp_nilBB ?_ | refine owp_nil ?_)
    refine ewp_false rfl ?_
    refine ewp_skip ?_
    refine ewp_seq ?_
    refine ewp_region ?_
    refine o_as rfl rfl  ?_
    (first | refine owp_nilT ?_ | refine owp_nilB ?_ | refine owp_nilBB ?_ | refine owp_nil ?_)
    refine ewp_seq ?_
    refine ewp_seq ?_
    refine ewp_region ?_
    refine o_mv rfl rfl  ?_
    refine o_ln rfl rfl  ?_
    have l59 : x2.length ≤ 9223372036854775807 := Nat.le_trans hx2.len.2.1 hx2.len.2.2
    have r58 : inI64 (x2.length : Int) := rngNat l59
    refine o_mv rfl rfl  ?_
    (first | refine owp_nilT ?_ | refine owp_nilB ?_ | refine owp_nilBB ?_ | refine owp_nil ?_)
    obtain ⟨res60, hL61, hm⟩ := bs hm
    refine ewp_join (aft res60 (fun (s62 : (List Int)) (x63 : (Option Addr × Nat)) => [(9, (.slice x63.1 s62.length x63.2))]) (fun s62 x63 w' => ∃ O' : Lab, Bs w A w' O' ∧ Rw 5 w' O' 3 (.slice x63.1 s62.length x63.2) s62)) ?_ ?_
    · refine ewp_block ?_
      refine ewp_rng (σ := (List Int)) (X := (Option Addr × Nat)) (x2.length) hL61 rfl l59 (fun (s62 : (List Int)) (x63 : (Option Addr × Nat)) => [(4, (.pointer (some ⟨g38, 0, none⟩))), (9, (.slice x63.1 s62.length x63.2)), (19, (.slice A31 x2.length c32))]) _ (fun s62 x63 w' => ∃ O' : Lab, Bs w A w' O' ∧ Lc 3 w' O' g38 29 [(.slice A23 x1.vars.length c24), (.slice A26 x1.vals.length c27), (.slice A29 x1.ops.length c30)] ∧ Vb w' (Fr 0 w' O') (.slice A23 x1.vars.length c24) x1.vars ∧ Vb w' (Fr 0 w' O') (.slice A26 x1.vals.length c27) x1.vals ∧ Vb w' (Fr 0 w' O') (.slice A29 x1.ops.length c30) x1.ops ∧ Rw 5 w' O' 3 (.slice x63.1 s62.length x63.2) s62 ∧ Vb w' (Fr 0 w' O') (.slice A31 x2.length c32) x2) _ (none, 0) ⟨O52, hB, h42, h22, h25, h28, (Rw.nil 5 (by decide)), hx2⟩ ⟨rfl, rfl, rfl, rfl, rfl, trivial⟩ (fun _ _ => ⟨rfl, rfl⟩) (fun _ _ => ⟨rfl, trivial⟩) (fun _ _ _ ⟨O', hB, h42, h22, h25, h28, h77, hx2⟩ => ⟨O', hB, h77⟩) ⟨rfl, rfl, rfl⟩ ⟨rfl, rfl⟩ ?_
      rintro k64 a65 s62 x63 w66 cc68 hx69 ⟨O67, hB, h42, h22, h25, h28, h77, hx2⟩ hf70 hret71 hbrk72
      have rk64 : inI64 (k64 : Int) := rngK hx69 l59
      refine ewp_seq ?_
      refine ewp_region ?_
      obtain ⟨b79, o80, ce81, hA82, hl83, hd84, rfl, r86⟩ := hx2.elem' hx69
      refine o_iaE (hA := hA82) (hj := rfl) (hlt := hl83) rfl rfl rfl  ?_
      refine o_ld (hc := cat0 hd84) rfl rfl  ?_
      refine o_as rfl rfl  ?_
      (first | refine owp_nilT ?_ | refine owp_nilB ?_ | refine owp_nilBB ?_ | refine owp_nil ?_)
      refine ewp_seq ?_
      refine ewp_seq ?_
      obtain ⟨y87, hy88, hf70⟩ := bs hf70
      refine ewp_join (fun l' w' => ∃ (x90 : Unit) (O' : Lab), subs l' [(4, (.pointer (some ⟨g38, 0, none⟩))), (9, (.slice x63.1 s62.length x63.2)), (11, (.int .i64 a65)), (19, (.slice A31 x2.length c32)), (20, (.int .i64 (x2.length : Int))), (21, (.int .i64 (k64 : Int))), (33, (.bool y87))] ∧ Bs w A w' O' ∧ Lc 3 w' O' g38 29 [(.slice A23 x1.vars.length c24), (.slice A26 x1.vals.length c27), (.slice A29 x1.ops.length c30)] ∧ Vb w' (Fr 0 w' O') (.slice A23 x1.vars.length c24) x1.vars ∧ Vb w' (Fr 0 w' O') (.slice A26 x1.vals.length c27) x1.vals ∧ Vb w' (Fr 0 w' O') (.slice A29 x1.ops.length c30) x1.ops ∧ Rw 5 w' O' 3 (.slice x63.1 s62.length x63.2) s62 ∧ Vb w' (Fr 0 w' O') (.slice A31 x2.length c32) x2) ?_ ?_
      · skip
        refine ewp_region ?_
        refine o_mv rfl rfl  ?_
        refine o_ltS rfl rfl rfl (fun c91 => ?_) fun c91 => ?_
        · replace hy88 := ip hy88 c91
          refine o_mv rfl rfl  ?_
          refine owp_no rfl rfl rfl rfl ?_
          refine owp_no rfl rfl rfl rfl ?_
          refine owp_no rfl rfl rfl rfl ?_
          refine owp_no rfl rfl rfl rfl ?_
          refine owp_no rfl rfl rfl rfl ?_
          refine o_pt rfl rfl rfl  ?_
          (first | refine owp_nilT ?_ | refine owp_nilB ?_ | refine owp_nilBB ?_ | refine owp_nil ?_)
          obtain rfl := sm hy88
          exact ⟨(), _, ⟨rfl, rfl, rfl, rfl, rfl, rfl, rfl, trivial⟩, hB, h42, h22, h25, h28, h77, hx2⟩
        · replace hy88 := im hy88 c91
          refine o_mv rfl rfl  ?_
          refine owp_yes rfl rfl ?_
          refine o_mv rfl rfl  ?_
          refine owp_yes rfl rfl ?_
          refine o_fa rfl rfl  ?_
          refine owp_yes rfl rfl ?_
          refine o_ld (hc := Blk.cell (i := 2) (h42.1) rfl) rfl rfl  ?_
          refine owp_yes rfl rfl ?_
          refine o_ln rfl rfl  ?_
          have l93 : x1.ops.length ≤ 9223372036854775807 := Nat.le_trans h28.len.2.1 h28.len.2.2
          have r92 : inI64 (x1.ops.length : Int) := rngNat l93
          refine owp_yes rfl rfl ?_
          refine o_geS rfl rfl rfl (fun c94 => ?_) fun c94 => ?_
          · replace hy88 := ip hy88 c94
            refine o_pf rfl rfl rfl  ?_
            (first | refine owp_nilT ?_ | refine owp_nilB ?_ | refine owp_nilBB ?_ | refine owp_nil ?_)
            obtain rfl := sm hy88
            exact ⟨(), _, ⟨rfl, rfl, rfl, rfl, rfl, rfl, rfl, trivial⟩, hB, h42, h22, h25, h28, h77, hx2⟩
          · replace hy88 := im hy88 c94
            refine o_pf rfl rfl rfl  ?_
            (first | refine owp_nilT ?_ | refine owp_nilB ?_ | refine owp_nilBB ?_ | refine owp_nil ?_)
            obtain rfl := sm hy88
            exact ⟨(), _, ⟨rfl, rfl, rfl, rfl, rfl, rfl, rfl, trivial⟩, hB, h42, h22, h25, h28, h77, hx2⟩
      rintro l95 w96 ⟨x90, O97, hs98, hB, h42, h22, h25, h28, h77, hx2⟩
      refine ewp_sub _ hs98 ?_
      refine ewp_cond rfl (fun c99 => ?_) (fun c99 => ?_)
      · replace hf70 := ip hf70 c99
        refine ewp_seq ?_
        refine ewp_region ?_
        refine o_miE rfl rfl  ?_
        refine o_as rfl rfl  ?_
        refine o_as rfl rfl  ?_
        (first | refine owp_nilT ?_ | refine owp_nilB ?_ | refine owp_nilBB ?_ | refine owp_nil ?_)
        refine ewp_ret ?_
        obtain rfl := sm hf70
        obtain rfl := hret71 _ rfl
        obtain rfl := sm (fin_ret hm)
        exact ret2 rfl (res_tmp rfl) (res_tmp rfl) ⟨hB.ext, _, _, rfl, (Vb.mono (F := Fr 0 w96 O97) (Vb.nil _ _) hB.out), (vErr (by decide))⟩
      · replace hf70 := im' hf70 c99
        refine ewp_skip ?_
        refine ewp_region ?_
        refine o_mv rfl rfl  ?_
        refine o_fa rfl rfl  ?_
        refine o_ld (hc := Blk.cell (i := 2) (h42.1) rfl) rfl rfl  ?_
        refine o_mv rfl rfl  ?_
        obtain ⟨a100, e101, hf70⟩ := bs hf70
        obtain ⟨p103, x102⟩ := atI_some' e101
        obtain ⟨b104, o105, ce106, hA107, hl108, hd109, rfl, r111⟩ := h28.elem' x102
        refine o_iaE (hA := hA107) (hj := (Int.toNat_of_nonneg p103).symm) (hlt := hl108) rfl rfl rfl  ?_
        refine o_ld (hc := cat0 hd109) rfl rfl  ?_
        obtain ⟨u112, e113, hf70⟩ := bs hf70
        obtain ⟨e113, e114, e115⟩ := appI_some e113
        refine l_append1 rfl (a := a100) h77 (vInt r111) (fun _ => rfl) rfl (by decide) (by decide) e114 e115 ⟨rfl, rfl⟩ fun g116 A117 c118 w119 O120 S121 h122 => ?_
        rw [← e113] at h122 ⊢
        replace hB := hB.st S121 (by decide) (by decide)
        replace h42 := h42.st S121 (by decide)
        replace h22 := h22.st S121 (by decide)
        replace h25 := h25.st S121 (by decide)
        replace h28 := h28.st S121 (by decide)
        replace hx2 := hx2.st S121 (by decide)
        refine o_as rfl rfl  ?_
        (first | refine owp_nilT ?_ | refine owp_nilB ?_ | refine owp_nilBB ?_ | refine owp_nil ?_)
        obtain rfl := sm hf70
        refine (?_ : Exists _)
        exact ⟨_, (A117, c118), rfl, ⟨rfl, rfl, rfl, rfl, rfl, trivial⟩, _, hB, h42, h22, h25, h28, h122, hx2⟩
    rintro l124 w125 ⟨s128, x129, rfl, hs127, O126, hB, h77⟩
    replace hm := fin_done hm
    refine ewp_sub _ hs127 ?_
    refine ewp_seq ?_
    refine ewp_region ?_
    refine o_mv rfl rfl  ?_
    refine o_as rfl rfl  ?_
    refine o_as rfl rfl  ?_
    (first | refine owp_nilT ?_ | refine owp_nilB ?_ | refine owp_nilBB ?_ | refine owp_nil ?_)
    refine ewp_ret ?_
    obtain ⟨O130, S131, h77⟩ := h77.freeze
    replace hB := hB.st S131 (by decide) (by decide)
    obtain rfl := sm hm
    exact ret2 rfl (res_tmp rfl) (res_tmp rfl) ⟨hB.ext, _, _, rfl, (Vb.mono (F := Fr 0 w125 O130) h77 hB.out), (vErr (show inI64 0 from by decide))⟩
noncomputable def m_law51_long (x0 : Swp) : Option Bool :=
  bnd (rng (ρ := Bool) (fun (k31 : Nat) (a32 : List Int) (s29 : Int) => some (.next (wr (s29 + (a32.length : Int))))) x0.vals 0 (wr ((wr ((x0.vars.length : Int) + (x0.vals.length : Int))) + (x0.ops.length : Int)))) fun res27 => fin res27 fun (s61 : Int) => bnd (if 500 < s61 then (some true) else (some false) : Option Bool) fun y63 => some y63
theorem c_law51_long {w : World} {A : Nat → Prop} (hA : ∀ k, A k → k < w.heap.size) {vx0 : Value} {x0 : Swp} (hx0 : Vb w A vx0 x0) {r : Bool} (hm : m_law51_long x0 = some r) :
    Fn Try.prog 9 [vx0] w fun v w' => Ext w w' ∧ Vb w' (upA A w w') v r := by
  obtain ⟨O, hB, hA0⟩ := enter hA
  replace hx0 := hx0.mono hA0
  obtain ⟨cs1, rfl, v2, v3, v4, rfl, h5, h8, h11⟩ := hx0
  obtain ⟨A6, c7, rfl⟩ := h5.form
  obtain ⟨A9, c10, rfl⟩ := h8.form
  obtain ⟨A12, c13, rfl⟩ := h11.form
  refine fn_enter Try.func9 rfl Try.ntmps9 rfl ?_
  unfold m_law51_long at hm
  refine ewp_seq ?_
  refine ewp_region ?_
  refine l_box 2 O rfl rfl fun g14 w15 O16 S17 h18 => ?_
  replace h18 : Lc 2 w15 O16 g14 29 [(.slice A6 x0.vars.length c7), (.slice A9 x0.vals.length c10), (.slice A12 x0.ops.length c13)] := h18
  replace hB := hB.st S17 (fun h => h) (fun h => h)
  replace h5 := h5.st S17 (fun h => h)
  replace h8 := h8.st S17 (fun h => h)
  replace h11 := h11.st S17 (fun h => h)
  refine o_as rfl rfl  ?_
  (first | refine owp_nilT ?_ | refine owp_nilB ?_ | refine owp_nilBB ?_ | refine owp_nil ?_)
  refine ewp_seq ?_
  refine ewp_region ?_
  refine o_fa rfl rfl  ?_
  refine o_ld (hc := Blk.cell (i := 0) (h18.1) rfl) rfl rfl  ?_
  refine o_ln rfl rfl  ?_
  have l20 : x0.vars.length ≤ 9223372036854775807 := Nat.le_trans h5.len.2.1 h5.len.2.2
  have r19 : inI64 (x0.vars.length : Int) := rngNat l20
  refine o_fa rfl rfl  ?_
  refine o_ld (hc := Blk.cell (i := 1) (h18.1) rfl) rfl rfl  ?_
  refine o_ln rfl rfl  ?_
  have l22 : x0.vals.length ≤ 9223372036854775807 := Nat.le_trans h8.len.2.1 h8.len.2.2
  have r21 : inI64 (x0.vals.length : Int) := rngNat l22
  refine o_adW rfl rfl rfl  ?_
  refine o_fa rfl rfl  ?_
  refine o_ld (hc := Blk.cell (i := 2) (h18.1) rfl) rfl rfl  ?_
  refine o_ln rfl rfl  ?_
  have l24 : x0.ops.length ≤ 9223372036854775807 := Nat.le_trans h11.len.2.1 h11.len.2.2
  have r23 : inI64 (x0.ops.length : Int) := rngNat l24
  refine o_adW rfl rfl rfl  ?_
  refine o_as rfl rfl  ?_
  (first | refine owp_nilT ?_ | refine owp_nilB ?_ | refine owp_nilBB ?_ | refine owp_nil ?_)
  refine ewp_seq ?_
  refine ewp_seq ?_
  refine ewp_region ?_
  refine o_fa rfl rfl  ?_
  refine o_ld (hc := Blk.cell (i := 1) (h18.1) rfl) rfl rfl  ?_
  refine o_ln rfl rfl  ?_
  have l26 : x0.vals.length ≤ 9223372036854775807 := Nat.le_trans h8.len.2.1 h8.len.2.2
  have r25 : inI64 (x0.vals.length : Int) := rngNat l26
  refine o_mv rfl rfl  ?_
  (first | refine owp_nilT ?_ | refine owp_nilB ?_ | refine owp_nilBB ?_ | refine owp_nil ?_)
  obtain ⟨res27, hL28, hm⟩ := bs hm
  refine ewp_join (aft res27 (fun (s29 : Int) (x30 : Unit) => [(3, (.int .i64 s29))]) (fun s29 x30 w' => ∃ O' : Lab, Bs w A w' O' ∧ inI64 s29)) ?_ ?_
  · refine ewp_block ?_
    refine ewp_rng (σ := Int) (X := Unit) (x0.vals.length) hL28 rfl l26 (fun (s29 : Int) (x30 : Unit) => [(3, (.int .i64 s29)), (18, (.slice A9 x0.vals.length c10))]) _ (fun s29 x30 w' => ∃ O' : Lab, Bs w A w' O' ∧ Vb w' (Fr 0 w' O') (.slice A9 x0.vals.length c10) x0.vals ∧ inI64 s29) _ () ⟨O16, hB, h8, (wr_rng _)⟩ ⟨rfl, rfl, rfl, rfl, trivial⟩ (fun _ _ => ⟨rfl, rfl⟩) (fun _ _ => ⟨rfl, trivial⟩) (fun _ _ _ ⟨O', hB, h8, r43⟩ => ⟨O', hB, r43⟩) ⟨rfl, rfl, rfl⟩ ⟨rfl, rfl⟩ ?_
    rintro k31 a32 s29 x30 w33 cc35 hx36 ⟨O34, hB, h8, r43⟩ hf37 hret38 hbrk39
    have rk31 : inI64 (k31 : Int) := rngK hx36 l26
    refine ewp_seq ?_
    refine ewp_region ?_
    obtain ⟨b44, o45, ce46, hA47, hl48, hd49, v51, rfl, h52⟩ := h8.elem' hx36
    replace h52 := Vb.of_slice h52
    obtain ⟨A53, c54, rfl⟩ := h52.form
    refine o_iaE (hA := hA47) (hj := rfl) (hlt := hl48) rfl rfl rfl  ?_
    refine o_ld (hc := cat0 hd49) rfl rfl  ?_
    refine o_as rfl rfl  ?_
    (first | refine owp_nilT ?_ | refine owp_nilB ?_ | refine owp_nilBB ?_ | refine owp_nil ?_)
    refine ewp_region ?_
    refine o_mv rfl rfl  ?_
    refine o_mv rfl rfl  ?_
    refine o_ln rfl rfl  ?_
    have l56 : a32.length ≤ 9223372036854775807 := Nat.le_trans h52.len.2.1 h52.len.2.2
    have r55 : inI64 (a32.length : Int) := rngNat l56
    refine o_adW rfl rfl rfl  ?_
    refine o_as rfl rfl  ?_
    (first | refine owp_nilT ?_ | refine owp_nilB ?_ | refine owp_nilBB ?_ | refine owp_nil ?_)
    obtain rfl := sm hf37
    refine (?_ : Exists _)
    exact ⟨_, (), rfl, ⟨rfl, rfl, rfl, rfl, trivial⟩, _, hB, h8, (wr_rng _)⟩
  rintro l57 w58 ⟨s61, x62, rfl, hs60, O59, hB, r43⟩
  replace hm := fin_done hm
  refine ewp_sub _ hs60 ?_
  refine ewp_seq ?_
  obtain ⟨y63, hy64, hm⟩ := bs hm
  refine ewp_join (fun l' w' => ∃ (x66 : Unit) (O' : Lab), subs l' [(2, (.bool y63))] ∧ Bs w A w' O') ?_ ?_
  · skip
    refine ewp_region ?_
    refine o_mv rfl rfl  ?_
    refine o_gtS rfl rfl rfl (fun c67 => ?_) fun c67 => ?_
    · replace hy64 := ip hy64 c67
      refine o_as rfl rfl  ?_
      (first | refine owp_nilT ?_ | refine owp_nilB ?_ | refine owp_nilBB ?_ | refine owp_nil ?_)
      obtain rfl := sm hy64
      exact ⟨(), _, ⟨rfl, trivial⟩, hB⟩
    · replace hy64 := im hy64 c67
      refine o_as rfl rfl  ?_
      (first | refine owp_nilT ?_ | refine owp_nilB ?_ | refine owp_nilBB ?_ | refine owp_nil ?_)
      obtain rfl := sm hy64
      exact ⟨(), _, ⟨rfl, trivial⟩, hB⟩
  rintro l68 w69 ⟨x66, O70, hs71, hB⟩
  refine ewp_sub _ hs71 ?_
  refine ewp_ret ?_
  obtain rfl := sm hm
  exact ret1v rfl (res_tmp rfl) ⟨hB.ext, vBool⟩
noncomputable def m_law51_awake  : Option Bool :=
  bnd (m_symmetry_State (⟨[2, 2], [0, 0], ([] : List Fct), [(⟨(⟨#[]⟩ : ByteArray), 0, ([] : List Fct), [(⟨([] : List Fct), 0, 1⟩ : Eff)]⟩ : Opr), (⟨(⟨#[]⟩ : ByteArray), 0, ([] : List Fct), [(⟨([] : List Fct), 1, 1⟩ : Eff)]⟩ : Opr)]⟩ : Tsk) (⟨[1, 0], [[0, 1], [0, 1]], [1, 0]⟩ : Swp) [1, 0]) fun q103 => bnd (bnd (m_symmetry_Check (⟨[2, 2], [0, 0], ([] : List Fct), [(⟨(⟨#[]⟩ : ByteArray), 0, ([] : List Fct), [(⟨([] : List Fct), 0, 1⟩ : Eff)]⟩ : Opr), (⟨(⟨#[]⟩ : ByteArray), 0, ([] : List Fct), [(⟨([] : List Fct), 1, 1⟩ : Eff)]⟩ : Opr)]⟩ : Tsk) (⟨[1, 0], [[0, 1], [0, 1]], [1, 0]⟩ : Swp)) fun q121 => if q121 = true then if q103.2.n = 0 then (bnd (m_base_Ints q103.1 [0, 1]) fun q135 => if q135 = true then some true else some false) else (some false) else some false : Option Bool) fun y117 => some y117
theorem c_law51_awake {w : World} {A : Nat → Prop} (hA : ∀ k, A k → k < w.heap.size)  {r : Bool} (hm : m_law51_awake  = some r) :
    Fn Try.prog 10 [] w fun v w' => Ext w w' ∧ Vb w' (upA A w w') v r := by
  obtain ⟨O, hB, hA0⟩ := enter hA
  refine fn_enter Try.func10 rfl Try.ntmps10 rfl ?_
  unfold m_law51_awake at hm
  refine ewp_seq ?_
  refine ewp_region ?_
  refine o_as rfl rfl  ?_
  (first | refine owp_nilT ?_ | refine owp_nilB ?_ | refine owp_nilBB ?_ | refine owp_nil ?_)
  refine ewp_seq ?_
  refine ewp_region ?_
  refine l_bslice 2 (by decide) O (xs := ([2, 2] : List Int)) rfl rfl rfl rfl ⟨(vInt (show inI64 (2) from by decide)), (vInt (show inI64 (2) from by decide)), trivial⟩ (by decide) (by decide) rfl fun g1 w2 O3 S4 h5 => ?_
  replace hB := hB.st S4 (fun h => h) (fun h => h)
  refine l_bslice 3 (by decide) O3 (xs := ([0, 0] : List Int)) rfl rfl rfl rfl ⟨(vInt (show inI64 (0) from by decide)), (vInt (show inI64 (0) from by decide)), trivial⟩ (by decide) (by decide) rfl fun g7 w8 O9 S10 h11 => ?_
  replace hB := hB.st S10 (fun h => h) (fun h => h)
  replace h5 := h5.st S10 (fun h => h) (fun h => h)
  refine o_bd rfl rfl rfl  ?_
  refine l_bslice 4 (by decide) O9 (xs := ([(⟨([] : List Fct), 0, 1⟩ : Eff)] : List Eff)) rfl rfl rfl rfl ⟨(Vb.ofAgg (cs := [(.slice none 0 0), (.int .i64 0), (.int .i64 1)]) (x := (⟨([] : List Fct), 0, 1⟩ : Eff)) rfl ⟨_, rfl, (Vb.nil _ _), (show inI64 (0) from by decide), (show inI64 (1) from by decide)⟩), trivial⟩ (by decide) (by decide) rfl fun g13 w14 O15 S16 h17 => ?_
  replace hB := hB.st S16 (fun h => h) (fun h => h)
  replace h5 := h5.st S16 (fun h => h) (fun h => h)
  replace h11 := h11.st S16 (fun h => h) (fun h => h)
  refine o_bd rfl rfl rfl  ?_
  refine o_bd rfl rfl rfl  ?_
  refine l_bslice 5 (by decide) O15 (xs := ([(⟨([] : List Fct), 1, 1⟩ : Eff)] : List Eff)) rfl rfl rfl rfl ⟨(Vb.ofAgg (cs := [(.slice none 0 0), (.int .i64 1), (.int .i64 1)]) (x := (⟨([] : List Fct), 1, 1⟩ : Eff)) rfl ⟨_, rfl, (Vb.nil _ _), (show inI64 (1) from by decide), (show inI64 (1) from by decide)⟩), trivial⟩ (by decide) (by decide) rfl fun g19 w20 O21 S22 h23 => ?_
  replace hB := hB.st S22 (fun h => h) (fun h => h)
  replace h5 := h5.st S22 (fun h => h) (fun h => h)
  replace h11 := h11.st S22 (fun h => h) (fun h => h)
  replace h17 := h17.st S22 (fun h => h) (fun h => h)
  refine o_bd rfl rfl rfl  ?_
  obtain ⟨O25, S26, h17⟩ := h17.freeze
  replace hB := hB.st S26 (by decide) (by decide)
  replace h5 := h5.st S26 (by decide) (by decide)
  replace h11 := h11.st S26 (by decide) (by decide)
  replace h23 := h23.st S26 (by decide) (by decide)
  obtain ⟨O27, S28, h23⟩ := h23.freeze
  replace hB := hB.st S28 (by decide) (by decide)
  replace h5 := h5.st S28 (by decide) (by decide)
  replace h11 := h11.st S28 (by decide) (by decide)
  replace h17 := h17.st S28 (by decide)
  refine l_bslice 6 (by decide) O27 (xs := ([(⟨(⟨#[]⟩ : ByteArray), 0, ([] : List Fct), [(⟨([] : List Fct), 0, 1⟩ : Eff)]⟩ : Opr), (⟨(⟨#[]⟩ : ByteArray), 0, ([] : List Fct), [(⟨([] : List Fct), 1, 1⟩ : Eff)]⟩ : Opr)] : List Opr)) rfl rfl rfl rfl ⟨(Vb.ofAgg (cs := [(.string (⟨#[]⟩ : ByteArray)), (.int .i64 0), (.slice none 0 0), (.slice (some ⟨g13, 0, none⟩) [(⟨([] : List Fct), 0, 1⟩ : Eff)].length 1)]) (x := (⟨(⟨#[]⟩ : ByteArray), 0, ([] : List Fct), [(⟨([] : List Fct), 0, 1⟩ : Eff)]⟩ : Opr)) rfl ⟨_, _, rfl, (Vb.nil _ _), h17, (show inI64 0 from by decide), (show (⟨#[]⟩ : ByteArray).size ≤ 9223372036854775807 from by decide)⟩), (Vb.ofAgg (cs := [(.string (⟨#[]⟩ : ByteArray)), (.int .i64 0), (.slice none 0 0), (.slice (some ⟨g19, 0, none⟩) [(⟨([] : List Fct), 1, 1⟩ : Eff)].length 1)]) (x := (⟨(⟨#[]⟩ : ByteArray), 0, ([] : List Fct), [(⟨([] : List Fct), 1, 1⟩ : Eff)]⟩ : Opr)) rfl ⟨_, _, rfl, (Vb.nil _ _), h23, (show inI64 0 from by decide), (show (⟨#[]⟩ : ByteArray).size ≤ 9223372036854775807 from by decide)⟩), trivial⟩ (by decide) (by decide) rfl fun g29 w30 O31 S32 h33 => ?_
  replace hB := hB.st S32 (fun h => h) (fun h => h)
  replace h5 := h5.st S32 (fun h => h) (fun h => h)
  replace h11 := h11.st S32 (fun h => h) (fun h => h)
  refine o_bd rfl rfl rfl  ?_
  refine l_alloc 7 O31 rfl fun g35 w36 O37 S38 h39 => ?_
  replace hB := hB.st S38 (fun h => h) (fun h => h)
  replace h5 := h5.st S38 (fun h => h) (fun h => h)
  replace h11 := h11.st S38 (fun h => h) (fun h => h)
  replace h33 := h33.st S38 (fun h => h) (fun h => h)
  refine l_store h39 rfl rfl rfl (Nat.le_of_ble_eq_true rfl) (by first | exact allOne rfl | simp [Value.cells, Value.oneCell', errV_one]) fun w40 S41 h39 => ?_
  replace h39 : Lc 7 w40 O37 g35 26 [(.slice (some ⟨g1, 0, none⟩) [2, 2].length 2), (.slice (some ⟨g7, 0, none⟩) [0, 0].length 2), (.slice none 0 0), (.slice (some ⟨g29, 0, none⟩) [(⟨(⟨#[]⟩ : ByteArray), 0, ([] : List Fct), [(⟨([] : List Fct), 0, 1⟩ : Eff)]⟩ : Opr), (⟨(⟨#[]⟩ : ByteArray), 0, ([] : List Fct), [(⟨([] : List Fct), 1, 1⟩ : Eff)]⟩ : Opr)].length 2)] := h39
  replace hB := hB.st S41 (by decide) (by decide)
  replace h5 := h5.st S41 (by decide) (by decide)
  replace h11 := h11.st S41 (by decide) (by decide)
  replace h33 := h33.st S41 (by decide) (by decide)
  (first | refine owp_nilT ?_ | refine owp_nilB ?_ | refine owp_nilBB ?_ | refine owp_nil ?_)
  refine ewp_seq ?_
  refine ewp_region ?_
  refine l_bslice 8 (by decide) O37 (xs := ([1, 0] : List Int)) rfl rfl rfl rfl ⟨(vInt (show inI64 (1) from by decide)), (vInt (show inI64 (0) from by decide)), trivial⟩ (by decide) (by decide) rfl fun g42 w43 O44 S45 h46 => ?_
  replace hB := hB.st S45 (fun h => h) (fun h => h)
  replace h39 := h39.st S45 (fun h => h)
  replace h5 := h5.st S45 (fun h => h) (fun h => h)
  replace h11 := h11.st S45 (fun h => h) (fun h => h)
  replace h33 := h33.st S45 (fun h => h) (fun h => h)
  refine l_bslice 9 (by decide) O44 (xs := ([0, 1] : List Int)) rfl rfl rfl rfl ⟨(vInt (show inI64 (0) from by decide)), (vInt (show inI64 (1) from by decide)), trivial⟩ (by decide) (by decide) rfl fun g48 w49 O50 S51 h52 => ?_
  replace hB := hB.st S51 (fun h => h) (fun h => h)
  replace h39 := h39.st S51 (fun h => h)
  replace h5 := h5.st S51 (fun h => h) (fun h => h)
  replace h11 := h11.st S51 (fun h => h) (fun h => h)
  replace h33 := h33.st S51 (fun h => h) (fun h => h)
  replace h46 := h46.st S51 (fun h => h) (fun h => h)
  refine l_bslice 10 (by decide) O50 (xs := ([0, 1] : List Int)) rfl rfl rfl rfl ⟨(vInt (show inI64 (0) from by decide)), (vInt (show inI64 (1) from by decide)), trivial⟩ (by decide) (by decide) rfl fun g54 w55 O56 S57 h58 => ?_
  replace hB := hB.st S57 (fun h => h) (fun h => h)
  replace h39 := h39.st S57 (fun h => h)
  replace h5 := h5.st S57 (fun h => h) (fun h => h)
  replace h11 := h11.st S57 (fun h => h) (fun h => h)
  replace h33 := h33.st S57 (fun h => h) (fun h => h)
  replace h46 := h46.st S57 (fun h => h) (fun h => h)
  replace h52 := h52.st S57 (fun h => h) (fun h => h)
  obtain ⟨O60, S61, h52⟩ := h52.freeze
  replace hB := hB.st S61 (by decide) (by decide)
  replace h39 := h39.st S61 (by decide)
  replace h5 := h5.st S61 (by decide) (by decide)
  replace h11 := h11.st S61 (by decide) (by decide)
  replace h33 := h33.st S61 (by decide) (by decide)
  replace h46 := h46.st S61 (by decide) (by decide)
  replace h58 := h58.st S61 (by decide) (by decide)
  obtain ⟨O62, S63, h58⟩ := h58.freeze
  replace hB := hB.st S63 (by decide) (by decide)
  replace h39 := h39.st S63 (by decide)
  replace h5 := h5.st S63 (by decide) (by decide)
  replace h11 := h11.st S63 (by decide) (by decide)
  replace h33 := h33.st S63 (by decide) (by decide)
  replace h46 := h46.st S63 (by decide) (by decide)
  replace h52 := h52.st S63 (by decide)
  refine l_bslice 11 (by decide) O62 (xs := ([[0, 1], [0, 1]] : List (List Int))) rfl rfl rfl rfl ⟨h52, h58, trivial⟩ (by decide) (by decide) rfl fun g64 w65 O66 S67 h68 => ?_
  replace hB := hB.st S67 (fun h => h) (fun h => h)
  replace h39 := h39.st S67 (fun h => h)
  replace h5 := h5.st S67 (fun h => h) (fun h => h)
  replace h11 := h11.st S67 (fun h => h) (fun h => h)
  replace h33 := h33.st S67 (fun h => h) (fun h => h)
  replace h46 := h46.st S67 (fun h => h) (fun h => h)
  refine l_bslice 12 (by decide) O66 (xs := ([1, 0] : List Int)) rfl rfl rfl rfl ⟨(vInt (show inI64 (1) from by decide)), (vInt (show inI64 (0) from by decide)), trivial⟩ (by decide) (by decide) rfl fun g70 w71 O72 S73 h74 => ?_
  replace hB := hB.st S73 (fun h => h) (fun h => h)
  replace h39 := h39.st S73 (fun h => h)
  replace h5 := h5.st S73 (fun h => h) (fun h => h)
  replace h11 := h11.st S73 (fun h => h) (fun h => h)
  replace h33 := h33.st S73 (fun h => h) (fun h => h)
  replace h46 := h46.st S73 (fun h => h) (fun h => h)
  replace h68 := h68.st S73 (fun h => h) (fun h => h)
  refine o_bd rfl rfl rfl  ?_
  refine l_alloc 13 O72 rfl fun g76 w77 O78 S79 h80 => ?_
  replace hB := hB.st S79 (fun h => h) (fun h => h)
  replace h39 := h39.st S79 (fun h => h)
  replace h5 := h5.st S79 (fun h => h) (fun h => h)
  replace h11 := h11.st S79 (fun h => h) (fun h => h)
  replace h33 := h33.st S79 (fun h => h) (fun h => h)
  replace h46 := h46.st S79 (fun h => h) (fun h => h)
  replace h68 := h68.st S79 (fun h => h) (fun h => h)
  replace h74 := h74.st S79 (fun h => h) (fun h => h)
  refine l_store h80 rfl rfl rfl (Nat.le_of_ble_eq_true rfl) (by first | exact allOne rfl | simp [Value.cells, Value.oneCell', errV_one]) fun w81 S82 h80 => ?_
  replace h80 : Lc 13 w81 O78 g76 29 [(.slice (some ⟨g42, 0, none⟩) [1, 0].length 2), (.slice (some ⟨g64, 0, none⟩) [[0, 1], [0, 1]].length 2), (.slice (some ⟨g70, 0, none⟩) [1, 0].length 2)] := h80
  replace hB := hB.st S82 (by decide) (by decide)
  replace h39 := h39.st S82 (by decide)
  replace h5 := h5.st S82 (by decide) (by decide)
  replace h11 := h11.st S82 (by decide) (by decide)
  replace h33 := h33.st S82 (by decide) (by decide)
  replace h46 := h46.st S82 (by decide) (by decide)
  replace h68 := h68.st S82 (by decide) (by decide)
  replace h74 := h74.st S82 (by decide) (by decide)
  (first | refine owp_nilT ?_ | refine owp_nilB ?_ | refine owp_nilBB ?_ | refine owp_nil ?_)
  refine ewp_seq ?_
  refine ewp_region ?_
  refine o_la (hl := rfl) (hc := (h39.1).cellsAt) rfl rfl  ?_
  refine o_la (hl := rfl) (hc := (h80.1).cellsAt) rfl rfl  ?_
  refine l_bslice 14 (by decide) O78 (xs := ([1, 0] : List Int)) rfl rfl rfl rfl ⟨(vInt (show inI64 (1) from by decide)), (vInt (show inI64 (0) from by decide)), trivial⟩ (by decide) (by decide) rfl fun g83 w84 O85 S86 h87 => ?_
  replace hB := hB.st S86 (fun h => h) (fun h => h)
  replace h39 := h39.st S86 (fun h => h)
  replace h5 := h5.st S86 (fun h => h) (fun h => h)
  replace h11 := h11.st S86 (fun h => h) (fun h => h)
  replace h33 := h33.st S86 (fun h => h) (fun h => h)
  replace h80 := h80.st S86 (fun h => h)
  replace h46 := h46.st S86 (fun h => h) (fun h => h)
  replace h68 := h68.st S86 (fun h => h) (fun h => h)
  replace h74 := h74.st S86 (fun h => h) (fun h => h)
  obtain ⟨O89, S90, h5⟩ := h5.freeze
  replace hB := hB.st S90 (by decide) (by decide)
  replace h39 := h39.st S90 (by decide)
  replace h11 := h11.st S90 (by decide) (by decide)
  replace h33 := h33.st S90 (by decide) (by decide)
  replace h80 := h80.st S90 (by decide)
  replace h46 := h46.st S90 (by decide) (by decide)
  replace h68 := h68.st S90 (by decide) (by decide)
  replace h74 := h74.st S90 (by decide) (by decide)
  replace h87 := h87.st S90 (by decide) (by decide)
  obtain ⟨O91, S92, h11⟩ := h11.freeze
  replace hB := hB.st S92 (by decide) (by decide)
  replace h39 := h39.st S92 (by decide)
  replace h5 := h5.st S92 (by decide)
  replace h33 := h33.st S92 (by decide) (by decide)
  replace h80 := h80.st S92 (by decide)
  replace h46 := h46.st S92 (by decide) (by decide)
  replace h68 := h68.st S92 (by decide) (by decide)
  replace h74 := h74.st S92 (by decide) (by decide)
  replace h87 := h87.st S92 (by decide) (by decide)
  obtain ⟨O93, S94, h33⟩ := h33.freeze
  replace hB := hB.st S94 (by decide) (by decide)
  replace h39 := h39.st S94 (by decide)
  replace h5 := h5.st S94 (by decide)
  replace h11 := h11.st S94 (by decide)
  replace h80 := h80.st S94 (by decide)
  replace h46 := h46.st S94 (by decide) (by decide)
  replace h68 := h68.st S94 (by decide) (by decide)
  replace h74 := h74.st S94 (by decide) (by decide)
  replace h87 := h87.st S94 (by decide) (by decide)
  obtain ⟨O95, S96, h46⟩ := h46.freeze
  replace hB := hB.st S96 (by decide) (by decide)
  replace h39 := h39.st S96 (by decide)
  replace h5 := h5.st S96 (by decide)
  replace h11 := h11.st S96 (by decide)
  replace h33 := h33.st S96 (by decide)
  replace h80 := h80.st S96 (by decide)
  replace h68 := h68.st S96 (by decide) (by decide)
  replace h74 := h74.st S96 (by decide) (by decide)
  replace h87 := h87.st S96 (by decide) (by decide)
  obtain ⟨O97, S98, h68⟩ := h68.freeze
  replace hB := hB.st S98 (by decide) (by decide)
  replace h39 := h39.st S98 (by decide)
  replace h5 := h5.st S98 (by decide)
  replace h11 := h11.st S98 (by decide)
  replace h33 := h33.st S98 (by decide)
  replace h80 := h80.st S98 (by decide)
  replace h46 := h46.st S98 (by decide)
  replace h74 := h74.st S98 (by decide) (by decide)
  replace h87 := h87.st S98 (by decide) (by decide)
  obtain ⟨O99, S100, h74⟩ := h74.freeze
  replace hB := hB.st S100 (by decide) (by decide)
  replace h39 := h39.st S100 (by decide)
  replace h5 := h5.st S100 (by decide)
  replace h11 := h11.st S100 (by decide)
  replace h33 := h33.st S100 (by decide)
  replace h80 := h80.st S100 (by decide)
  replace h46 := h46.st S100 (by decide)
  replace h68 := h68.st S100 (by decide)
  replace h87 := h87.st S100 (by decide) (by decide)
  obtain ⟨O101, S102, h87⟩ := h87.freeze
  replace hB := hB.st S102 (by decide) (by decide)
  replace h39 := h39.st S102 (by decide)
  replace h5 := h5.st S102 (by decide)
  replace h11 := h11.st S102 (by decide)
  replace h33 := h33.st S102 (by decide)
  replace h80 := h80.st S102 (by decide)
  replace h46 := h46.st S102 (by decide)
  replace h68 := h68.st S102 (by decide)
  replace h74 := h74.st S102 (by decide)
  obtain ⟨q103, e104, hm⟩ := bs hm
  refine l_call (O := O101) (R := fun w' F v => T2 w' F v q103) (c_symmetry_State Fr.lt (Vb.ofAgg (cs := [(.slice (some ⟨g1, 0, none⟩) [2, 2].length 2), (.slice (some ⟨g7, 0, none⟩) [0, 0].length 2), (.slice none 0 0), (.slice (some ⟨g29, 0, none⟩) [(⟨(⟨#[]⟩ : ByteArray), 0, ([] : List Fct), [(⟨([] : List Fct), 0, 1⟩ : Eff)]⟩ : Opr), (⟨(⟨#[]⟩ : ByteArray), 0, ([] : List Fct), [(⟨([] : List Fct), 1, 1⟩ : Eff)]⟩ : Opr)].length 2)]) (x := (⟨[2, 2], [0, 0], ([] : List Fct), [(⟨(⟨#[]⟩ : ByteArray), 0, ([] : List Fct), [(⟨([] : List Fct), 0, 1⟩ : Eff)]⟩ : Opr), (⟨(⟨#[]⟩ : ByteArray), 0, ([] : List Fct), [(⟨([] : List Fct), 1, 1⟩ : Eff)]⟩ : Opr)]⟩ : Tsk)) rfl ⟨_, _, _, _, rfl, h5, h11, (Vb.nil _ _), h33⟩) (Vb.ofAgg (cs := [(.slice (some ⟨g42, 0, none⟩) [1, 0].length 2), (.slice (some ⟨g64, 0, none⟩) [[0, 1], [0, 1]].length 2), (.slice (some ⟨g70, 0, none⟩) [1, 0].length 2)]) (x := (⟨[1, 0], [[0, 1], [0, 1]], [1, 0]⟩ : Swp)) rfl ⟨_, _, _, rfl, h46, h68, h74⟩) h87 e104) rfl rfl fun v109 w105 O106 S107 h108 => ?_
  obtain ⟨v110, v111, rfl, h112, h113⟩ := h108
  obtain ⟨A114, c115, rfl⟩ := h112.form
  obtain ⟨rfl, r116⟩ := h113.err
  replace hB := hB.st S107 (fun h => h) (fun h => h)
  replace h39 := h39.st S107 (fun h => h)
  replace h5 := h5.st S107 (fun h => h)
  replace h11 := h11.st S107 (fun h => h)
  replace h33 := h33.st S107 (fun h => h)
  replace h80 := h80.st S107 (fun h => h)
  replace h46 := h46.st S107 (fun h => h)
  replace h68 := h68.st S107 (fun h => h)
  replace h74 := h74.st S107 (fun h => h)
  refine o_mv rfl rfl  ?_
  refine o_ex rfl rfl rfl  ?_
  refine o_ex rfl rfl rfl  ?_
  refine o_as rfl rfl  ?_
  refine o_as rfl rfl  ?_
  (first | refine owp_nilT ?_ | refine owp_nilB ?_ | refine owp_nilBB ?_ | refine owp_nil ?_)
  refine ewp_seq ?_
  obtain ⟨y117, hy118, hm⟩ := bs hm
  refine ewp_join (fun l' w' => ∃ (x120 : Unit) (O' : Lab), subs l' [(0, (.bool y117))] ∧ Bs w A w' O') ?_ ?_
  · skip
    refine ewp_region ?_
    refine o_la (hl := rfl) (hc := (h39.1).cellsAt) rfl rfl  ?_
    refine o_la (hl := rfl) (hc := (h80.1).cellsAt) rfl rfl  ?_
    obtain ⟨q121, e122, hy118⟩ := bs hy118
    refine l_callA (O := O106) (A := All w105) (R := fun w' F v => Vb w' F v q121) (c_symmetry_Check (fun _ h => h) (Vb.mono (F := Fr 0 w105 O106) (Vb.ofAgg (cs := [(.slice (some ⟨g1, 0, none⟩) [2, 2].length 2), (.slice (some ⟨g7, 0, none⟩) [0, 0].length 2), (.slice none 0 0), (.slice (some ⟨g29, 0, none⟩) [(⟨(⟨#[]⟩ : ByteArray), 0, ([] : List Fct), [(⟨([] : List Fct), 0, 1⟩ : Eff)]⟩ : Opr), (⟨(⟨#[]⟩ : ByteArray), 0, ([] : List Fct), [(⟨([] : List Fct), 1, 1⟩ : Eff)]⟩ : Opr)].length 2)]) (x := (⟨[2, 2], [0, 0], ([] : List Fct), [(⟨(⟨#[]⟩ : ByteArray), 0, ([] : List Fct), [(⟨([] : List Fct), 0, 1⟩ : Eff)]⟩ : Opr), (⟨(⟨#[]⟩ : ByteArray), 0, ([] : List Fct), [(⟨([] : List Fct), 1, 1⟩ : Eff)]⟩ : Opr)]⟩ : Tsk)) rfl ⟨_, _, _, _, rfl, h5, h11, (Vb.nil _ _), h33⟩) Fr.lt) (Vb.mono (F := Fr 0 w105 O106) (Vb.ofAgg (cs := [(.slice (some ⟨g42, 0, none⟩) [1, 0].length 2), (.slice (some ⟨g64, 0, none⟩) [[0, 1], [0, 1]].length 2), (.slice (some ⟨g70, 0, none⟩) [1, 0].length 2)]) (x := (⟨[1, 0], [[0, 1], [0, 1]], [1, 0]⟩ : Swp)) rfl ⟨_, _, _, rfl, h46, h68, h74⟩) Fr.lt) e122) rfl rfl fun v127 w123 O124 S125 h126 => ?_
    obtain rfl := h126.bool
    replace hB := hB.st S125 (fun h => h) (fun h => h)
    replace h112 := h112.st S125 (fun h => h)
    cases q121
    case false =>
      replace hy118 := iF hy118
      refine o_mv rfl rfl  ?_
      refine owp_no rfl rfl rfl rfl ?_
      refine owp_no rfl rfl rfl rfl ?_
      refine o_pf rfl rfl rfl  ?_
      refine o_mv rfl rfl  ?_
      refine owp_no rfl rfl rfl rfl ?_
      refine owp_no rfl rfl rfl rfl ?_
      refine owp_no rfl rfl rfl rfl ?_
      refine o_pf rfl rfl rfl  ?_
      refine o_as rfl rfl  ?_
      (first | refine owp_nilT ?_ | refine owp_nilB ?_ | refine owp_nilBB ?_ | refine owp_nil ?_)
      obtain rfl := sm hy118
      exact ⟨(), _, ⟨rfl, trivial⟩, hB⟩
    replace hy118 := iT hy118
    refine o_mv rfl rfl  ?_
    refine owp_yes rfl rfl ?_
    refine o_mv rfl rfl  ?_
    refine owp_yes rfl rfl ?_
    refine o_erS rfl rfl (fun c128 => ?_) fun c128 => ?_
    · replace hy118 := ip hy118 c128
      refine o_pt rfl rfl rfl  ?_
      refine o_mv rfl rfl  ?_
      refine owp_yes rfl rfl ?_
      refine o_mv rfl rfl  ?_
      refine owp_yes rfl rfl ?_
      refine l_bslice 15 (by decide) O124 (xs := ([0, 1] : List Int)) rfl rfl rfl rfl ⟨(vInt (show inI64 (0) from by decide)), (vInt (show inI64 (1) from by decide)), trivial⟩ (by decide) (by decide) rfl fun g129 w130 O131 S132 h133 => ?_
      replace hB := hB.st S132 (fun h => h) (fun h => h)
      replace h112 := h112.st S132 (fun h => h)
      refine owp_yes rfl rfl ?_
      obtain ⟨q135, e136, hy118⟩ := bs hy118
      refine l_callA (O := O131) (A := All w130) (R := fun w' F v => Vb w' F v q135) (c_base_Ints (fun _ h => h) (Vb.mono (F := Fr 0 w130 O131) h112 Fr.lt) (h133).all e136) rfl rfl fun v141 w137 O138 S139 h140 => ?_
      obtain rfl := h140.bool
      replace hB := hB.st S139 (fun h => h) (fun h => h)
      cases q135
      case false =>
        replace hy118 := iF hy118
        refine o_pt rfl rfl rfl  ?_
        refine o_as rfl rfl  ?_
        (first | refine owp_nilT ?_ | refine owp_nilB ?_ | refine owp_nilBB ?_ | refine owp_nil ?_)
        obtain rfl := sm hy118
        exact ⟨(), _, ⟨rfl, trivial⟩, hB⟩
      replace hy118 := iT hy118
      refine o_pt rfl rfl rfl  ?_
      refine o_as rfl rfl  ?_
      (first | refine owp_nilT ?_ | refine owp_nilB ?_ | refine owp_nilBB ?_ | refine owp_nil ?_)
      obtain rfl := sm hy118
      exact ⟨(), _, ⟨rfl, trivial⟩, hB⟩
    · replace hy118 := im hy118 c128
      refine o_pt rfl rfl rfl  ?_
      refine o_mv rfl rfl  ?_
      refine owp_no rfl rfl rfl rfl ?_
      refine owp_no rfl rfl rfl rfl ?_
      refine owp_no rfl rfl rfl rfl ?_
      refine o_pf rfl rfl rfl  ?_
      refine o_as rfl rfl  ?_
      (first | refine owp_nilT ?_ | refine owp_nilB ?_ | refine owp_nilBB ?_ | refine owp_nil ?_)
      obtain rfl := sm hy118
      exact ⟨(), _, ⟨rfl, trivial⟩, hB⟩
  rintro l142 w143 ⟨x120, O144, hs145, hB⟩
  refine ewp_sub _ hs145 ?_
  refine ewp_ret ?_
  obtain rfl := sm hm
  exact ret1v rfl (res_tmp rfl) ⟨hB.ext, vBool⟩
noncomputable def m_law51_SymmetryChecks (x0 : Tsk) (x1 : Swp) : Option Bool :=
  bnd (if 70 < (x0.vars.length : Int) then (some true) else (if 20 < (x0.ops.length : Int) then (some true) else (bnd (m_law51_long x1) fun q51 => if q51 = true then some true else bnd (m_law51_awake) fun q58 => if q58 = true then some false else some true)) : Option Bool) fun y41 => if y41 = true then (bnd (bnd (m_law51_awake) fun q74 => if q74 = true then some true else some false : Option Bool) fun y70 => some y70) else (bnd (bnd (m_symmetry_Check x0 x1) fun q89 => if q89 = true then bnd (m_ref51_Check x0 x1) fun q103 => if q103 = true then some true else some false else bnd (m_ref51_Check x0 x1) fun q96 => if q96 = true then some false else some true : Option Bool) fun y85 => some y85)
theorem c_law51_SymmetryChecks {w : World} {A : Nat → Prop} (hA : ∀ k, A k → k < w.heap.size) {vx0 : Value} {x0 : Tsk} (hx0 : Vb w A vx0 x0) {vx1 : Value} {x1 : Swp} (hx1 : Vb w A vx1 x1) {r : Bool} (hm : m_law51_SymmetryChecks x0 x1 = some r) :
    Fn Try.prog 3 [vx0, vx1] w fun v w' => Ext w w' ∧ Vb w' (upA A w w') v r := by
  obtain ⟨O, hB, hA0⟩ := enter hA
  replace hx0 := hx0.mono hA0
  obtain ⟨cs1, rfl, v2, v3, v4, v5, rfl, h6, h9, h12, h15⟩ := hx0
  obtain ⟨A7, c8, rfl⟩ := h6.form
  obtain ⟨A10, c11, rfl⟩ := h9.form
  obtain ⟨A13, c14, rfl⟩ := h12.form
  obtain ⟨A16, c17, rfl⟩ := h15.form
  replace hx1 := hx1.mono hA0
  obtain ⟨cs18, rfl, v19, v20, v21, rfl, h22, h25, h28⟩ := hx1
  obtain ⟨A23, c24, rfl⟩ := h22.form
  obtain ⟨A26, c27, rfl⟩ := h25.form
  obtain ⟨A29, c30, rfl⟩ := h28.form
  refine fn_enter Try.func3 rfl Try.ntmps3 rfl ?_
  unfold m_law51_SymmetryChecks at hm
  refine ewp_seq ?_
  refine ewp_region ?_
  refine l_box 2 O rfl rfl fun g31 w32 O33 S34 h35 => ?_
  replace h35 : Lc 2 w32 O33 g31 26 [(.slice A7 x0.vars.length c8), (.slice A10 x0.init.length c11), (.slice A13 x0.goal.length c14), (.slice A16 x0.ops.length c17)] := h35
  replace hB := hB.st S34 (fun h => h) (fun h => h)
  replace h22 := h22.st S34 (fun h => h)
  replace h25 := h25.st S34 (fun h => h)
  replace h28 := h28.st S34 (fun h => h)
  replace h6 := h6.st S34 (fun h => h)
  replace h9 := h9.st S34 (fun h => h)
  replace h12 := h12.st S34 (fun h => h)
  replace h15 := h15.st S34 (fun h => h)
  refine l_box 3 O33 rfl rfl fun g36 w37 O38 S39 h40 => ?_
  replace h40 : Lc 3 w37 O38 g36 29 [(.slice A23 x1.vars.length c24), (.slice A26 x1.vals.length c27), (.slice A29 x1.ops.length c30)] := h40
  replace hB := hB.st S39 (fun h => h) (fun h => h)
  replace h35 := h35.st S39 (fun h => h)
  replace h6 := h6.st S39 (fun h => h)
  replace h9 := h9.st S39 (fun h => h)
  replace h12 := h12.st S39 (fun h => h)
  replace h15 := h15.st S39 (fun h => h)
  replace h22 := h22.st S39 (fun h => h)
  replace h25 := h25.st S39 (fun h => h)
  replace h28 := h28.st S39 (fun h => h)
  refine o_as rfl rfl  ?_
  (first | refine owp_nilT ?_ | refine owp_nilB ?_ | refine owp_nilBB ?_ | refine owp_nil ?_)
  refine ewp_seq ?_
  refine ewp_seq ?_
  obtain ⟨y41, hy42, hm⟩ := bs hm
  refine ewp_join (fun l' w' => ∃ (x44 : Unit) (O' : Lab), subs l' [(2, (.pointer (some ⟨g31, 0, none⟩))), (3, (.pointer (some ⟨g36, 0, none⟩))), (22, (.bool y41))] ∧ Bs w A w' O' ∧ Lc 2 w' O' g31 26 [(.slice A7 x0.vars.length c8), (.slice A10 x0.init.length c11), (.slice A13 x0.goal.length c14), (.slice A16 x0.ops.length c17)] ∧ Vb w' (Fr 0 w' O') (.slice A7 x0.vars.length c8) x0.vars ∧ Vb w' (Fr 0 w' O') (.slice A10 x0.init.length c11) x0.init ∧ Vb w' (Fr 0 w' O') (.slice A13 x0.goal.length c14) x0.goal ∧ Vb w' (Fr 0 w' O') (.slice A16 x0.ops.length c17) x0.ops ∧ Lc 3 w' O' g36 29 [(.slice A23 x1.vars.length c24), (.slice A26 x1.vals.length c27), (.slice A29 x1.ops.length c30)] ∧ Vb w' (Fr 0 w' O') (.slice A23 x1.vars.length c24) x1.vars ∧ Vb w' (Fr 0 w' O') (.slice A26 x1.vals.length c27) x1.vals ∧ Vb w' (Fr 0 w' O') (.slice A29 x1.ops.length c30) x1.ops) ?_ ?_
  · skip
    refine ewp_region ?_
    refine o_fa rfl rfl  ?_
    refine o_ld (hc := Blk.cell (i := 0) (h35.1) rfl) rfl rfl  ?_
    refine o_ln rfl rfl  ?_
    have l46 : x0.vars.length ≤ 9223372036854775807 := Nat.le_trans h6.len.2.1 h6.len.2.2
    have r45 : inI64 (x0.vars.length : Int) := rngNat l46
    refine o_gtS rfl rfl rfl (fun c47 => ?_) fun c47 => ?_
    · replace hy42 := ip hy42 c47
      refine o_mv rfl rfl  ?_
      refine owp_no rfl rfl rfl rfl ?_
      refine owp_no rfl rfl rfl rfl ?_
      refine owp_no rfl rfl rfl rfl ?_
      refine owp_no rfl rfl rfl rfl ?_
      refine o_pt rfl rfl rfl  ?_
      refine o_mv rfl rfl  ?_
      refine owp_no rfl rfl rfl rfl ?_
      refine owp_no rfl rfl rfl rfl ?_
      refine o_pt rfl rfl rfl  ?_
      refine o_mv rfl rfl  ?_
      refine owp_no rfl rfl rfl rfl ?_
      refine owp_no rfl rfl rfl rfl ?_
      refine o_pt rfl rfl rfl  ?_
      (first | refine owp_nilT ?_ | refine owp_nilB ?_ | refine owp_nilBB ?_ | refine owp_nil ?_)
      obtain rfl := sm hy42
      exact ⟨(), _, ⟨rfl, rfl, rfl, trivial⟩, hB, h35, h6, h9, h12, h15, h40, h22, h25, h28⟩
    · replace hy42 := im hy42 c47
      refine o_mv rfl rfl  ?_
      refine owp_yes rfl rfl ?_
      refine o_fa rfl rfl  ?_
      refine owp_yes rfl rfl ?_
      refine o_ld (hc := Blk.cell (i := 3) (h35.1) rfl) rfl rfl  ?_
      refine owp_yes rfl rfl ?_
      refine o_ln rfl rfl  ?_
      have l49 : x0.ops.length ≤ 9223372036854775807 := Nat.le_trans h15.len.2.1 h15.len.2.2
      have r48 : inI64 (x0.ops.length : Int) := rngNat l49
      refine owp_yes rfl rfl ?_
      refine o_gtS rfl rfl rfl (fun c50 => ?_) fun c50 => ?_
      · replace hy42 := ip hy42 c50
        refine o_pf rfl rfl rfl  ?_
        refine o_mv rfl rfl  ?_
        refine owp_no rfl rfl rfl rfl ?_
        refine owp_no rfl rfl rfl rfl ?_
        refine o_pt rfl rfl rfl  ?_
        refine o_mv rfl rfl  ?_
        refine owp_no rfl rfl rfl rfl ?_
        refine owp_no rfl rfl rfl rfl ?_
        refine o_pt rfl rfl rfl  ?_
        (first | refine owp_nilT ?_ | refine owp_nilB ?_ | refine owp_nilBB ?_ | refine owp_nil ?_)
        obtain rfl := sm hy42
        exact ⟨(), _, ⟨rfl, rfl, rfl, trivial⟩, hB, h35, h6, h9, h12, h15, h40, h22, h25, h28⟩
      · replace hy42 := im hy42 c50
        refine o_pf rfl rfl rfl  ?_
        refine o_mv rfl rfl  ?_
        refine owp_yes rfl rfl ?_
        refine o_la (hl := rfl) (hc := (h40.1).cellsAt) rfl rfl  ?_
        refine owp_yes rfl rfl ?_
        obtain ⟨q51, e52, hy42⟩ := bs hy42
        refine l_callA (O := O38) (A := All w37) (R := fun w' F v => Vb w' F v q51) (c_law51_long (fun _ h => h) (Vb.mono (F := Fr 0 w37 O38) (Vb.ofAgg (cs := [(.slice A23 x1.vars.length c24), (.slice A26 x1.vals.length c27), (.slice A29 x1.ops.length c30)]) (x := x1) rfl ⟨_, _, _, rfl, h22, h25, h28⟩) Fr.lt) e52) rfl rfl fun v57 w53 O54 S55 h56 => ?_
        obtain rfl := h56.bool
        replace hB := hB.st S55 (fun h => h) (fun h => h)
        replace h35 := h35.st S55 (fun h => h)
        replace h6 := h6.st S55 (fun h => h)
        replace h9 := h9.st S55 (fun h => h)
        replace h12 := h12.st S55 (fun h => h)
        replace h15 := h15.st S55 (fun h => h)
        replace h40 := h40.st S55 (fun h => h)
        replace h22 := h22.st S55 (fun h => h)
        replace h25 := h25.st S55 (fun h => h)
        replace h28 := h28.st S55 (fun h => h)
        cases q51
        case false =>
          replace hy42 := iF hy42
          refine o_pf rfl rfl rfl  ?_
          refine o_mv rfl rfl  ?_
          refine owp_yes rfl rfl ?_
          obtain ⟨q58, e59, hy42⟩ := bs hy42
          refine l_callA (O := O54) (A := All w53) (R := fun w' F v => Vb w' F v q58) (c_law51_awake (fun _ h => h)  e59) rfl rfl fun v64 w60 O61 S62 h63 => ?_
          obtain rfl := h63.bool
          replace hB := hB.st S62 (fun h => h) (fun h => h)
          replace h35 := h35.st S62 (fun h => h)
          replace h6 := h6.st S62 (fun h => h)
          replace h9 := h9.st S62 (fun h => h)
          replace h12 := h12.st S62 (fun h => h)
          replace h15 := h15.st S62 (fun h => h)
          replace h40 := h40.st S62 (fun h => h)
          replace h22 := h22.st S62 (fun h => h)
          replace h25 := h25.st S62 (fun h => h)
          replace h28 := h28.st S62 (fun h => h)
          cases q58
          case false =>
            replace hy42 := iF hy42
            refine owp_yes rfl rfl ?_
            refine o_nf rfl rfl  ?_
            refine o_pf rfl rfl rfl  ?_
            (first | refine owp_nilT ?_ | refine owp_nilB ?_ | refine owp_nilBB ?_ | refine owp_nil ?_)
            obtain rfl := sm hy42
            exact ⟨(), _, ⟨rfl, rfl, rfl, trivial⟩, hB, h35, h6, h9, h12, h15, h40, h22, h25, h28⟩
          replace hy42 := iT hy42
          refine owp_yes rfl rfl ?_
          refine o_nt rfl rfl  ?_
          refine o_pf rfl rfl rfl  ?_
          (first | refine owp_nilT ?_ | refine owp_nilB ?_ | refine owp_nilBB ?_ | refine owp_nil ?_)
          obtain rfl := sm hy42
          exact ⟨(), _, ⟨rfl, rfl, rfl, trivial⟩, hB, h35, h6, h9, h12, h15, h40, h22, h25, h28⟩
        replace hy42 := iT hy42
        refine o_pf rfl rfl rfl  ?_
        refine o_mv rfl rfl  ?_
        refine owp_no rfl rfl rfl rfl ?_
        refine owp_no rfl rfl rfl rfl ?_
        refine o_pt rfl rfl rfl  ?_
        (first | refine owp_nilT ?_ | refine owp_nilB ?_ | refine owp_nilBB ?_ | refine owp_nil ?_)
        obtain rfl := sm hy42
        exact ⟨(), _, ⟨rfl, rfl, rfl, trivial⟩, hB, h35, h6, h9, h12, h15, h40, h22, h25, h28⟩
  rintro l65 w66 ⟨x44, O67, hs68, hB, h35, h6, h9, h12, h15, h40, h22, h25, h28⟩
  refine ewp_sub _ hs68 ?_
  refine ewp_cond rfl (fun c69 => ?_) (fun c69 => ?_)
  · replace hm := ip hm c69
    refine ewp_seq ?_
    obtain ⟨y70, hy71, hm⟩ := bs hm
    refine ewp_join (fun l' w' => ∃ (x73 : Unit) (O' : Lab), subs l' [(4, (.bool y70))] ∧ Bs w A w' O') ?_ ?_
    · skip
      refine ewp_region ?_
      obtain ⟨q74, e75, hy71⟩ := bs hy71
      refine l_callA (O := O67) (A := All w66) (R := fun w' F v => Vb w' F v q74) (c_law51_awake (fun _ h => h)  e75) rfl rfl fun v80 w76 O77 S78 h79 => ?_
      obtain rfl := h79.bool
      replace hB := hB.st S78 (fun h => h) (fun h => h)
      cases q74
      case false =>
        replace hy71 := iF hy71
        refine o_as rfl rfl  ?_
        (first | refine owp_nilT ?_ | refine owp_nilB ?_ | refine owp_nilBB ?_ | refine owp_nil ?_)
        obtain rfl := sm hy71
        exact ⟨(), _, ⟨rfl, trivial⟩, hB⟩
      replace hy71 := iT hy71
      refine o_as rfl rfl  ?_
      (first | refine owp_nilT ?_ | refine owp_nilB ?_ | refine owp_nilBB ?_ | refine owp_nil ?_)
      obtain rfl := sm hy71
      exact ⟨(), _, ⟨rfl, trivial⟩, hB⟩
    rintro l81 w82 ⟨x73, O83, hs84, hB⟩
    refine ewp_sub _ hs84 ?_
    refine ewp_ret ?_
    obtain rfl := sm hm
    exact ret1v rfl (res_tmp rfl) ⟨hB.ext, vBool⟩
  · replace hm := im' hm c69
    refine ewp_skip ?_
    refine ewp_seq ?_
    obtain ⟨y85, hy86, hm⟩ := bs hm
    refine ewp_join (fun l' w' => ∃ (x88 : Unit) (O' : Lab), subs l' [(4, (.bool y85))] ∧ Bs w A w' O') ?_ ?_
    · skip
      have hZ := St.refl (nT) w66 O67
      have zh35 := h35
      have zh6 := h6
      have zh9 := h9
      have zh12 := h12
      have zh15 := h15
      have zh40 := h40
      have zh22 := h22
      have zh25 := h25
      have zh28 := h28
      refine ewp_drawS (fun w' => ∃ O', St (nT) w66 O67 w' O') ?_
      refine hws_pre (fuel := 4) [(0, true), (1, true), (3, true), (4, true)] (by kernel_rfl) (by kernel_rfl) (by kernel_rfl) ⟨_, hZ⟩ ?_
      refine h_laB (hl := rfl) (hb := fun w' ⟨O', hq⟩ => ((zh35.st hq (by decide)).1).cellsAt) rfl rfl rfl  ?_
      refine h_laB (hl := rfl) (hb := fun w' ⟨O', hq⟩ => ((zh40.st hq (by decide)).1).cellsAt) rfl rfl rfl  ?_
      refine h_laB (hl := rfl) (hb := fun w' ⟨O', hq⟩ => ((zh35.st hq (by decide)).1).cellsAt) rfl rfl rfl  ?_
      refine h_laB (hl := rfl) (hb := fun w' ⟨O', hq⟩ => ((zh40.st hq (by decide)).1).cellsAt) rfl rfl rfl  ?_
      refine hwp_nilT ?_
      refine hws_one (i := 2) (by kernel_rfl) rfl ?_
      obtain ⟨q89, e90, hy86⟩ := bs hy86
      refine l_callA (O := O67) (A := All w66) (R := fun w' F v => Vb w' F v q89) (c_symmetry_Check (fun _ h => h) (Vb.mono (F := Fr 0 w66 O67) (Vb.ofAgg (cs := [(.slice A7 x0.vars.length c8), (.slice A10 x0.init.length c11), (.slice A13 x0.goal.length c14), (.slice A16 x0.ops.length c17)]) (x := x0) rfl ⟨_, _, _, _, rfl, h6, h9, h12, h15⟩) Fr.lt) (Vb.mono (F := Fr 0 w66 O67) (Vb.ofAgg (cs := [(.slice A23 x1.vars.length c24), (.slice A26 x1.vals.length c27), (.slice A29 x1.ops.length c30)]) (x := x1) rfl ⟨_, _, _, rfl, h22, h25, h28⟩) Fr.lt) e90) rfl rfl fun v95 w91 O92 S93 h94 => ?_
      obtain rfl := h94.bool
      replace hZ := hZ.comp S93 (fun _ h => h.elim)
      replace hB := hB.st S93 (fun h => h) (fun h => h)
      replace h6 := h6.st S93 (fun h => h)
      replace h9 := h9.st S93 (fun h => h)
      replace h12 := h12.st S93 (fun h => h)
      replace h15 := h15.st S93 (fun h => h)
      replace h22 := h22.st S93 (fun h => h)
      replace h25 := h25.st S93 (fun h => h)
      replace h28 := h28.st S93 (fun h => h)
      cases q89
      case false =>
        replace hy86 := iF hy86
        refine owp_loudS ⟨_, hZ⟩ ?_
        refine hws_one (i := 5) (by kernel_rfl) rfl ?_
        obtain ⟨q96, e97, hy86⟩ := bs hy86
        refine l_callA (O := O92) (A := All w91) (R := fun w' F v => Vb w' F v q96) (c_ref51_Check (fun _ h => h) (Vb.mono (F := Fr 0 w91 O92) (Vb.ofAgg (cs := [(.slice A7 x0.vars.length c8), (.slice A10 x0.init.length c11), (.slice A13 x0.goal.length c14), (.slice A16 x0.ops.length c17)]) (x := x0) rfl ⟨_, _, _, _, rfl, h6, h9, h12, h15⟩) Fr.lt) (Vb.mono (F := Fr 0 w91 O92) (Vb.ofAgg (cs := [(.slice A23 x1.vars.length c24), (.slice A26 x1.vals.length c27), (.slice A29 x1.ops.length c30)]) (x := x1) rfl ⟨_, _, _, rfl, h22, h25, h28⟩) Fr.lt) e97) rfl rfl fun v102 w98 O99 S100 h101 => ?_
        obtain rfl := h101.bool
        replace hZ := hZ.comp S100 (fun _ h => h.elim)
        replace hB := hB.st S100 (fun h => h) (fun h => h)
        cases q96
        case false =>
          replace hy86 := iF hy86
          refine owp_loudS ⟨_, hZ⟩ ?_
          refine hws_pre (fuel := 0) [(6, true), (7, true)] (by kernel_rfl) (by kernel_rfl) (by kernel_rfl) ⟨_, hZ⟩ ?_
          refine h_bq rfl rfl rfl rfl  ?_
          refine h_as rfl rfl rfl  ?_
          refine hwp_nilT ?_
          refine hws_nil (by kernel_rfl) ?_
          obtain rfl := sm hy86
          exact ⟨(), _, ⟨rfl, trivial⟩, hB⟩
        replace hy86 := iT hy86
        refine owp_loudS ⟨_, hZ⟩ ?_
        refine hws_pre (fuel := 0) [(6, true), (7, true)] (by kernel_rfl) (by kernel_rfl) (by kernel_rfl) ⟨_, hZ⟩ ?_
        refine h_bq rfl rfl rfl rfl  ?_
        refine h_as rfl rfl rfl  ?_
        refine hwp_nilT ?_
        refine hws_nil (by kernel_rfl) ?_
        obtain rfl := sm hy86
        exact ⟨(), _, ⟨rfl, trivial⟩, hB⟩
      replace hy86 := iT hy86
      refine owp_loudS ⟨_, hZ⟩ ?_
      refine hws_one (i := 5) (by kernel_rfl) rfl ?_
      obtain ⟨q103, e104, hy86⟩ := bs hy86
      refine l_callA (O := O92) (A := All w91) (R := fun w' F v => Vb w' F v q103) (c_ref51_Check (fun _ h => h) (Vb.mono (F := Fr 0 w91 O92) (Vb.ofAgg (cs := [(.slice A7 x0.vars.length c8), (.slice A10 x0.init.length c11), (.slice A13 x0.goal.length c14), (.slice A16 x0.ops.length c17)]) (x := x0) rfl ⟨_, _, _, _, rfl, h6, h9, h12, h15⟩) Fr.lt) (Vb.mono (F := Fr 0 w91 O92) (Vb.ofAgg (cs := [(.slice A23 x1.vars.length c24), (.slice A26 x1.vals.length c27), (.slice A29 x1.ops.length c30)]) (x := x1) rfl ⟨_, _, _, rfl, h22, h25, h28⟩) Fr.lt) e104) rfl rfl fun v109 w105 O106 S107 h108 => ?_
      obtain rfl := h108.bool
      replace hZ := hZ.comp S107 (fun _ h => h.elim)
      replace hB := hB.st S107 (fun h => h) (fun h => h)
      cases q103
      case false =>
        replace hy86 := iF hy86
        refine owp_loudS ⟨_, hZ⟩ ?_
        refine hws_pre (fuel := 0) [(6, true), (7, true)] (by kernel_rfl) (by kernel_rfl) (by kernel_rfl) ⟨_, hZ⟩ ?_
        refine h_bq rfl rfl rfl rfl  ?_
        refine h_as rfl rfl rfl  ?_
        refine hwp_nilT ?_
        refine hws_nil (by kernel_rfl) ?_
        obtain rfl := sm hy86
        exact ⟨(), _, ⟨rfl, trivial⟩, hB⟩
      replace hy86 := iT hy86
      refine owp_loudS ⟨_, hZ⟩ ?_
      refine hws_pre (fuel := 0) [(6, true), (7, true)] (by kernel_rfl) (by kernel_rfl) (by kernel_rfl) ⟨_, hZ⟩ ?_
      refine h_bq rfl rfl rfl rfl  ?_
      refine h_as rfl rfl rfl  ?_
      refine hwp_nilT ?_
      refine hws_nil (by kernel_rfl) ?_
      obtain rfl := sm hy86
      exact ⟨(), _, ⟨rfl, trivial⟩, hB⟩
    rintro l110 w111 ⟨x88, O112, hs113, hB⟩
    refine ewp_sub _ hs113 ?_
    refine ewp_ret ?_
    obtain rfl := sm hm
    exact ret1v rfl (res_tmp rfl) ⟨hB.ext, vBool⟩
end Go.Proofs.Ytdhaelekmjgbmaa

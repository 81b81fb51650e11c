/- SymmetryCanonical returns true for every question and every limit, and all read behind the call as before. No conditions. -/
import Derived.Test.YtdhaelekmjgbmaaPCanD
import Derived.Test.YtdhaelekmjgbmaaRows
namespace Go.Proofs.Ytdhaelekmjgbmaa
open Go Go.RowKit
section
open Go Go.RowKit
attribute [local irreducible] ewp owp hwp hwq Ev Evg Fn retPost Res1
attribute [local irreducible] hwx loudX
noncomputable def m_ref51_less (x0 : List Int) (x1 : List Int) : Option Bool :=
  bnd (rng (ρ := Bool) (fun (k13 : Nat) (a14 : Int) (s11 : Unit) => bnd (x1[k13]?) fun a32 => if a14 ≠ a32 then (bnd (bnd (x1[k13]?) fun a55 => if a14 < a55 then (some true) else (some false) : Option Bool) fun y43 => some (.ret y43)) else (some (.next ()))) x0 0 ()) fun res9 => fin res9 fun (s74 : Unit) => some false
theorem c_ref51_less {w : World} {A : Nat → Prop} (hA : ∀ k, A k → k < w.heap.size) {vx0 : Value} {x0 : List Int} (hx0 : Vb w A vx0 x0) {vx1 : Value} {x1 : List Int} (hx1 : Vb w A vx1 x1) {r : Bool} (hm : m_ref51_less x0 x1 = some r) :
    Fn Try.prog 60 [vx0, vx1] w fun v w' => Ext w w' ∧ Vb w' (upA A w w') v r := by
 obtain ⟨O, hB, hA0⟩ := enter hA
 replace hx0 := hx0.mono hA0
 obtain ⟨A3, c4, rfl⟩ := hx0.form
 replace hx1 := hx1.mono hA0
 obtain ⟨A5, c6, rfl⟩ := hx1.form
 refine fn_enter Try.func60 rfl Try.ntmps60 rfl ?_
 unfold m_ref51_less at hm
 refine ewp_seq (ewp_region (o_as rfl rfl (o_z ?_)))
 refine ewp_seq (ewp_seq (ewp_region (o_mv rfl rfl (o_ln rfl rfl ?_))))
 have l8 : x0.length ≤ 9223372036854775807 := Nat.le_trans hx0.len.2.1 hx0.len.2.2
 have r7 : inI64 (x0.length : Int) := rngNat l8
 refine o_mv rfl rfl (o_z ?_)
 obtain ⟨res9, hL10, hm⟩ := bs hm
 refine ewp_join (aft res9 (fun (s11 : Unit) (x12 : Unit) => []) (fun s11 x12 w' => ∃ O' : Lab, Bs w A w' O')) ?_ ?_
 ·
  refine ewp_block (ewp_rng (σ := Unit) (X := Unit) (x0.length) hL10 rfl l8 (fun (s11 : Unit) (x12 : Unit) => [(0, (.slice A3 x0.length c4)), (1, (.slice A5 x1.length c6))]) _ (fun s11 x12 w' => ∃ O' : Lab, Bs w A w' O' ∧ Vb w' (Fr 0 w' O') (.slice A3 x0.length c4) x0 ∧ Vb w' (Fr 0 w' O') (.slice A5 x1.length c6) x1) _ () ⟨O, hB, hx0, hx1⟩ ⟨rfl, rfl, rfl, rfl, trivial⟩ (fun _ _ => ⟨rfl, rfl⟩) (fun _ _ => trivial) (fun _ _ _ ⟨O', hB, hx0, hx1⟩ => ⟨O', hB⟩) ⟨rfl, rfl, rfl⟩ ⟨rfl, rfl⟩ ?_)
  rintro k13 a14 s11 x12 w15 cc17 hx18 ⟨O16, hB, hx0, hx1⟩ hf19 hret20 hbrk21
  have rk13 : inI64 (k13 : Int) := rngK hx18 l8
  refine ewp_seq (ewp_region (o_mv rfl rfl (o_as rfl rfl (o_z ?_))))
  refine ewp_seq (ewp_draw (· = w15) [(0, true), (1, true), (2, true), (3, true), (4, true), (5, true), (6, true), (7, true), (8, true)] (by kernel_rfl) rfl (by kernel_rfl) rfl ?_)
  refine h_mv rfl rfl rfl (h_mv rfl rfl rfl ?_)
  obtain ⟨b24, o25, ce26, hA27, hl28, hd29, rfl, r31⟩ := hx0.elem' hx18
  refine h_iaE (hA := hA27) (hj := rfl) (hlt := hl28) rfl rfl rfl rfl ?_
  refine h_ldA (hc := cat0 hd29) rfl rfl rfl ?_
  refine h_mv rfl rfl rfl (h_mv rfl rfl rfl ?_)
  obtain ⟨a32, e33, hf19⟩ := bs hf19
  obtain ⟨b34, o35, ce36, hA37, hl38, hd39, rfl, r41⟩ := hx1.elem' e33
  refine h_iaE (hA := hA37) (hj := rfl) (hlt := hl38) rfl rfl rfl rfl ?_
  refine h_ldA (hc := cat0 hd39) rfl rfl rfl ?_
  refine h_neS rfl rfl rfl rfl (fun c42 => ?_) fun c42 => ?_
  ·
   replace hf19 := ip hf19 c42
   refine h_z ?_
   refine ewp_true rfl (ewp_seq ?_)
   obtain ⟨y43, hy44, hf19⟩ := bs hf19
   refine ewp_join (fun l' w' => ∃ (x46 : Unit) (O' : Lab), subs l' [(4, (.bool y43))] ∧ Bs w A w' O') ?_ ?_
   ·
    refine ewp_draw (· = w15) [(0, true), (1, true), (2, true), (3, true), (4, true), (5, true), (6, true), (7, true), (8, true), (9, true)] (by kernel_rfl) rfl (by kernel_rfl) rfl ?_
    refine h_mv rfl rfl rfl (h_mv rfl rfl rfl ?_)
    obtain ⟨b47, o48, ce49, hA50, hl51, hd52, rfl, r54⟩ := hx0.elem' hx18
    refine h_iaE (hA := hA50) (hj := rfl) (hlt := hl51) rfl rfl rfl rfl ?_
    refine h_ldA (hc := cat0 hd52) rfl rfl rfl ?_
    refine h_mv rfl rfl rfl (h_mv rfl rfl rfl ?_)
    obtain ⟨a55, e56, hy44⟩ := bs hy44
    obtain ⟨b57, o58, ce59, hA60, hl61, hd62, rfl, r64⟩ := hx1.elem' e56
    refine h_iaE (hA := hA60) (hj := rfl) (hlt := hl61) rfl rfl rfl rfl ?_
    refine h_ldA (hc := cat0 hd62) rfl rfl rfl ?_
    refine h_ltS rfl rfl rfl rfl (fun c65 => ?_) fun c65 => ?_
    ·
     replace hy44 := ip hy44 c65
     refine h_as rfl rfl rfl (h_z ?_)
     obtain rfl := sm hy44
     exact ⟨(), _, ⟨rfl, trivial⟩, hB⟩
    ·
     replace hy44 := im hy44 c65
     refine h_as rfl rfl rfl (h_z ?_)
     obtain rfl := sm hy44
     exact ⟨(), _, ⟨rfl, trivial⟩, hB⟩
   rintro l66 w67 ⟨x46, O68, hs69, hB⟩
   refine ewp_sub _ hs69 ?_
   refine ewp_ret ?_
   obtain rfl := sm hf19
   obtain rfl := hret20 _ rfl
   obtain rfl := sm (fin_ret hm)
   exact ret1v rfl (res_tmp rfl) ⟨hB.ext, vBool⟩
  ·
   replace hf19 := im hf19 c42
   refine h_z ?_
   refine ewp_false rfl (ewp_skip ?_)
   obtain rfl := sm hf19
   refine (?_ : Exists _)
   exact ⟨_, (), rfl, ⟨rfl, rfl, rfl, rfl, trivial⟩, _, hB, hx0, hx1⟩
 rintro l70 w71 ⟨s74, x75, rfl, hs73, O72, hB⟩
 replace hm := fin_done hm
 refine ewp_sub _ hs73 ?_
 refine ewp_seq (ewp_region (o_as rfl rfl (o_z ?_)))
 refine ewp_ret ?_
 obtain rfl := sm hm
 exact ret1v rfl (res_tmp rfl) ⟨hB.ext, vBool⟩
noncomputable def m_ref51_Canonical (x0 : List Swp) (x1 : List Int) : Option ((List Int) × (List Int)) :=
  bnd (lop (ρ := (List Int) × (List Int)) (fun (s9 : (List Int) × (List Int)) => bnd (rng (ρ := Ctl ((List Int) × (List Int)) ((List Int) × (List Int))) (fun (k34 : Nat) (a35 : Swp) (s32 : Int) => bnd (if s32 < 0 then (bnd (m_ref51_State a35 s9.1) fun q71 => bnd (m_ref51_less q71 s9.1) fun q80 => if q80 = true then some true else some false) else (some false) : Option Bool) fun y47 => if y47 = true then (some (.next (k34 : Int))) else (some (.next s32))) x0 0 (-1)) fun res30 => fin res30 fun (s96 : Int) => if s96 < 0 then (some (.ret (s9.1, s9.2))) else (bnd (atI x0 s96) fun a101 => bnd (m_ref51_State a101 s9.1) fun q124 => bnd (appI 8 s9.2 [s96]) fun u133 => some (.next (q124, u133)))) (x1, ([] : List Int))) fun res7 => fin res7 fun (_ : (List Int) × (List Int)) => none
theorem c_ref51_Canonical {w : World} {A : Nat → Prop} (hA : ∀ k, A k → k < w.heap.size) {vx0 : Value} {x0 : List Swp} (hx0 : Vb w A vx0 x0) {vx1 : Value} {x1 : List Int} (hx1 : Vb w A vx1 x1) {r : (List Int) × (List Int)} (hm : m_ref51_Canonical x0 x1 = some r) :
    Fn Try.prog 30 [vx0, vx1] w fun v w' => Ext w w' ∧ T2 w' (upA A w w') v r := by
 obtain ⟨O, hB, hA0⟩ := enter hA
 replace hx0 := hx0.mono hA0
 obtain ⟨A3, c4, rfl⟩ := hx0.form
 replace hx1 := hx1.mono hA0
 obtain ⟨A5, c6, rfl⟩ := hx1.form
 refine fn_enter Try.func30 rfl Try.ntmps30 rfl ?_
 unfold m_ref51_Canonical at hm
 refine ewp_seq (ewp_region (o_as rfl rfl (o_as rfl rfl (o_z ?_))))
 refine ewp_seq (ewp_region (o_as rfl rfl (o_z ?_)))
 obtain ⟨res7, hL8, hm⟩ := bs hm
 refine ewp_join (aft res7 (fun (s9 : (List Int) × (List Int)) (x10 : (Option Addr × Nat) × (Option Addr × Nat)) => []) (fun s9 x10 w' => False)) ?_ ?_
 ·
  refine ewp_block (ewp_lop (σ := (List Int) × (List Int)) (X := (Option Addr × Nat) × (Option Addr × Nat)) hL8 (fun (s9 : (List Int) × (List Int)) (x10 : (Option Addr × Nat) × (Option Addr × Nat)) => [(0, (.slice A3 x0.length c4)), (1, (.slice x10.1.1 s9.1.length x10.1.2)), (6, (.slice x10.2.1 s9.2.length x10.2.2))]) _ (fun s9 x10 w' => ∃ O' : Lab, Bs w A w' O' ∧ Vb w' (Fr 0 w' O') (.slice A3 x0.length c4) x0 ∧ Vb w' (Fr 0 w' O') (.slice x10.1.1 s9.1.length x10.1.2) s9.1 ∧ Rw 2 w' O' 3 (.slice x10.2.1 s9.2.length x10.2.2) s9.2) _ ((A5, c6), (none, 0)) ⟨O, hB, hx0, hx1, (Rw.nil 2 (by decide))⟩ ⟨rfl, rfl, rfl, trivial⟩ ?_)
  rintro s9 x10 w13 cc15 ⟨O14, hB, hx0, h25, h26⟩ hf17 hret18 hbrk19
  refine ewp_block (ewp_seq (ewp_region (o_as rfl rfl (o_z ?_))))
  refine ewp_seq (ewp_seq (ewp_region (o_mv rfl rfl (o_ln rfl rfl ?_))))
  have l29 : x0.length ≤ 9223372036854775807 := Nat.le_trans hx0.len.2.1 hx0.len.2.2
  have r28 : inI64 (x0.length : Int) := rngNat l29
  refine o_mv rfl rfl (o_z ?_)
  obtain ⟨res30, hL31, hf17⟩ := bs hf17
  refine ewp_join (aft res30 (fun (s32 : Int) (x33 : Unit) => [(0, (.slice A3 x0.length c4)), (1, (.slice x10.1.1 s9.1.length x10.1.2)), (6, (.slice x10.2.1 s9.2.length x10.2.2)), (7, (.int .i64 s32))]) (fun s32 x33 w' => ∃ O' : Lab, Bs w A w' O' ∧ Vb w' (Fr 0 w' O') (.slice A3 x0.length c4) x0 ∧ Vb w' (Fr 0 w' O') (.slice x10.1.1 s9.1.length x10.1.2) s9.1 ∧ Rw 2 w' O' 3 (.slice x10.2.1 s9.2.length x10.2.2) s9.2 ∧ inI64 s32)) ?_ ?_
  ·
   refine ewp_block (ewp_rng (σ := Int) (X := Unit) (x0.length) hL31 rfl l29 (fun (s32 : Int) (x33 : Unit) => [(0, (.slice A3 x0.length c4)), (1, (.slice x10.1.1 s9.1.length x10.1.2)), (6, (.slice x10.2.1 s9.2.length x10.2.2)), (7, (.int .i64 s32))]) _ (fun s32 x33 w' => ∃ O' : Lab, Bs w A w' O' ∧ Vb w' (Fr 0 w' O') (.slice A3 x0.length c4) x0 ∧ Vb w' (Fr 0 w' O') (.slice x10.1.1 s9.1.length x10.1.2) s9.1 ∧ Rw 2 w' O' 3 (.slice x10.2.1 s9.2.length x10.2.2) s9.2 ∧ inI64 s32) _ () ⟨O14, hB, hx0, h25, h26, (show inI64 (-1) from by decide)⟩ ⟨rfl, rfl, rfl, rfl, rfl, rfl, trivial⟩ (fun _ _ => ⟨rfl, rfl⟩) (fun _ _ => ⟨rfl, rfl, rfl, rfl, trivial⟩) (fun _ _ _ ⟨O', hB, hx0, h25, h26, r46⟩ => ⟨O', hB, hx0, h25, h26, r46⟩) ⟨rfl, rfl, rfl⟩ ⟨rfl, rfl⟩ ?_)
   rintro k34 a35 s32 x33 w36 cc38 hx39 ⟨O37, hB, hx0, h25, h26, r46⟩ hf40 hret41 hbrk42
   have rk34 : inI64 (k34 : Int) := rngK hx39 l29
   refine ewp_seq (ewp_region (o_mv rfl rfl (o_as rfl rfl (o_z ?_))))
   refine ewp_seq ?_
   obtain ⟨y47, hy48, hf40⟩ := bs hf40
   refine ewp_join (fun l' w' => ∃ (x50 : Unit) (O' : Lab), subs l' [(0, (.slice A3 x0.length c4)), (1, (.slice x10.1.1 s9.1.length x10.1.2)), (6, (.slice x10.2.1 s9.2.length x10.2.2)), (7, (.int .i64 s32)), (8, (.int .i64 (k34 : Int))), (10, (.int .i64 (x0.length : Int))), (11, (.int .i64 (k34 : Int))), (25, (.bool y47))] ∧ Bs w A w' O' ∧ Vb w' (Fr 0 w' O') (.slice A3 x0.length c4) x0 ∧ Vb w' (Fr 0 w' O') (.slice x10.1.1 s9.1.length x10.1.2) s9.1 ∧ Rw 2 w' O' 3 (.slice x10.2.1 s9.2.length x10.2.2) s9.2) ?_ ?_
   ·
    refine ewp_region (o_mv rfl rfl (o_ltS rfl rfl rfl (fun c51 => ?_) fun c51 => ?_))
    ·
     replace hy48 := ip hy48 c51
     refine o_mv rfl rfl (owp_yes rfl rfl (o_mv rfl rfl (owp_yes rfl rfl (o_mv rfl rfl (owp_yes rfl rfl ?_)))))
     obtain ⟨b52, o53, ce54, hA55, hl56, hd57, v59, v60, v61, rfl, h62, h65, h68⟩ := hx0.elem' hx39
     obtain ⟨A63, c64, rfl⟩ := h62.form
     obtain ⟨A66, c67, rfl⟩ := h65.form
     obtain ⟨A69, c70, rfl⟩ := h68.form
     refine o_iaE (hA := hA55) (hj := rfl) (hlt := hl56) rfl rfl rfl ?_
     refine owp_yes rfl rfl (o_la (hl := rfl) (hc := hd57) rfl rfl ?_)
     refine owp_yes rfl rfl (o_mv rfl rfl (owp_yes rfl rfl ?_))
     obtain ⟨q71, e72, hy48⟩ := bs hy48
     refine l_call (O := O37) (R := fun w' F v => Vb w' F v q71) (c_ref51_State Fr.lt (Vb.ofAgg (cs := [(.slice A63 a35.vars.length c64), (.slice A66 a35.vals.length c67), (.slice A69 a35.ops.length c70)]) (x := a35) rfl ⟨_, _, _, rfl, h62, h65, h68⟩) h25 e72) rfl rfl fun v77 w73 O74 S75 h76 => ?_
     obtain ⟨A78, c79, rfl⟩ := h76.form
     refine owp_yes rfl rfl (o_mv rfl rfl (owp_yes rfl rfl ?_))
     obtain ⟨q80, e81, hy48⟩ := bs hy48
     replace h25 := h25.st S75
     refine l_callA (O := O74) (A := All w73) (R := fun w' F v => Vb w' F v q80) (c_ref51_less (fun _ h => h) (Vb.mono (F := Fr 0 w73 O74) h76 Fr.lt) (Vb.mono (F := Fr 0 w73 O74) h25 Fr.lt) e81) rfl rfl fun v86 w82 O83 S84 h85 => ?_
     obtain rfl := h85.bool
     cases q80
     case false =>
      replace hy48 := iF hy48
      refine o_pt rfl rfl rfl (o_z ?_)
      obtain rfl := sm hy48
      replace hB := (hB.st S75).st S84
      replace hx0 := (hx0.st S75).st S84
      replace h25 := h25.st S84
      replace h26 := (h26.st S75).st S84
      exact ⟨(), _, ⟨rfl, rfl, rfl, rfl, rfl, rfl, rfl, rfl, trivial⟩, hB, hx0, h25, h26⟩
     replace hy48 := iT hy48
     refine o_pt rfl rfl rfl (o_z ?_)
     obtain rfl := sm hy48
     replace hB := (hB.st S75).st S84
     replace hx0 := (hx0.st S75).st S84
     replace h25 := h25.st S84
     replace h26 := (h26.st S75).st S84
     exact ⟨(), _, ⟨rfl, rfl, rfl, rfl, rfl, rfl, rfl, rfl, trivial⟩, hB, hx0, h25, h26⟩
    ·
     replace hy48 := im hy48 c51
     refine o_mv rfl rfl (owp_no rfl rfl rfl rfl (owp_no rfl rfl rfl rfl (owp_no rfl rfl rfl rfl (owp_no rfl rfl rfl rfl (owp_no rfl rfl rfl rfl (owp_no rfl rfl rfl rfl (owp_no rfl rfl rfl rfl (owp_no rfl rfl rfl rfl (o_pf rfl rfl rfl (o_z ?_))))))))))
     obtain rfl := sm hy48
     exact ⟨(), _, ⟨rfl, rfl, rfl, rfl, rfl, rfl, rfl, rfl, trivial⟩, hB, hx0, h25, h26⟩
   rintro l87 w88 ⟨x50, O89, hs90, hB, hx0, h25, h26⟩
   refine ewp_sub _ hs90 ?_
   refine ewp_cond rfl (fun c91 => ?_) (fun c91 => ?_)
   ·
    replace hf40 := ip hf40 c91
    refine ewp_region (o_mv rfl rfl (o_as rfl rfl (o_z ?_)))
    obtain rfl := sm hf40
    refine (?_ : Exists _)
    exact ⟨_, (), rfl, ⟨rfl, rfl, rfl, rfl, rfl, rfl, trivial⟩, _, hB, hx0, h25, h26, rk34⟩
   ·
    replace hf40 := im' hf40 c91
    refine ewp_skip ?_
    obtain rfl := sm hf40
    refine (?_ : Exists _)
    exact ⟨_, (), rfl, ⟨rfl, rfl, rfl, rfl, rfl, rfl, trivial⟩, _, hB, hx0, h25, h26, r46⟩
  rintro l92 w93 ⟨s96, x97, rfl, hs95, O94, hB, hx0, h25, h26, r46⟩
  replace hf17 := fin_done hf17
  refine ewp_sub _ hs95 ?_
  refine ewp_seq (ewp_seq (ewp_region (o_mv rfl rfl (o_ltS rfl rfl rfl (fun c98 => ?_) fun c98 => ?_))))
  ·
   replace hf17 := ip hf17 c98
   refine o_z ?_
   refine ewp_true rfl (ewp_seq (ewp_region (o_mv rfl rfl (o_mv rfl rfl (o_as rfl rfl (o_as rfl rfl (o_z ?_)))))))
   refine ewp_ret ?_
   obtain ⟨O99, S100, h26⟩ := h26.freeze
   obtain rfl := sm hf17
   obtain rfl := hret18 _ rfl
   obtain rfl := sm (fin_ret hm)
   replace hB := hB.st S100
   replace h25 := h25.st S100
   exact ret2 rfl (res_tmp rfl) (res_tmp rfl) ⟨hB.ext, _, _, rfl, (Vb.mono (F := Fr 0 w93 O99) h25 hB.out), (Vb.mono (F := Fr 0 w93 O99) h26 hB.out)⟩
  ·
   replace hf17 := im hf17 c98
   refine o_z ?_
   refine ewp_false rfl (ewp_skip (ewp_region (o_mv rfl rfl (o_mv rfl rfl ?_))))
   obtain ⟨a101, e102, hf17⟩ := bs hf17
   obtain ⟨p104, x103⟩ := atI_some' e102
   obtain ⟨b105, o106, ce107, hA108, hl109, hd110, v112, v113, v114, rfl, h115, h118, h121⟩ := hx0.elem' x103
   obtain ⟨A116, c117, rfl⟩ := h115.form
   obtain ⟨A119, c120, rfl⟩ := h118.form
   obtain ⟨A122, c123, rfl⟩ := h121.form
   refine o_iaE (hA := hA108) (hj := (Int.toNat_of_nonneg p104).symm) (hlt := hl109) rfl rfl rfl ?_
   refine o_la (hl := rfl) (hc := hd110) rfl rfl ?_
   refine o_mv rfl rfl ?_
   obtain ⟨q124, e125, hf17⟩ := bs hf17
   refine l_call (O := O94) (R := fun w' F v => Vb w' F v q124) (c_ref51_State Fr.lt (Vb.ofAgg (cs := [(.slice A116 a101.vars.length c117), (.slice A119 a101.vals.length c120), (.slice A122 a101.ops.length c123)]) (x := a101) rfl ⟨_, _, _, rfl, h115, h118, h121⟩) h25 e125) rfl rfl fun v130 w126 O127 S128 h129 => ?_
   obtain ⟨A131, c132, rfl⟩ := h129.form
   refine o_mv rfl rfl (o_mv rfl rfl ?_)
   obtain ⟨u133, e134, hf17⟩ := bs hf17
   obtain ⟨e134, e135, e136⟩ := appI_some e134
   replace h26 := h26.st S128
   refine l_append1 rfl (a := s96) h26 (vInt r46) (fun _ => rfl) rfl (by decide) (by decide) e135 e136 ⟨rfl, rfl⟩ fun g137 A138 c139 w140 O141 S142 h143 => ?_
   rw [← e134] at h143 ⊢
   refine o_as rfl rfl (o_as rfl rfl (o_z ?_))
   obtain rfl := sm hf17
   refine (?_ : Exists _)
   replace hB := (hB.st S128).st S142
   replace hx0 := (hx0.st S128).st S142
   replace h129 := h129.st S142
   exact ⟨_, ((A131, c132), (A138, c139)), rfl, ⟨rfl, rfl, rfl, trivial⟩, _, hB, hx0, h129, h143⟩
 rintro l145 w146 ⟨s149, x150, _, _, hE⟩
 exact hE.elim
noncomputable def m_ref51_Orbit (x0 : List Int) (x1 : List Swp) (x2 : List Int) : Option (List (List Int)) :=
  bnd (m_base_States x0) fun q10 => bnd (mkI 1 (false : Bool) (q10.length : Int)) fun u21 => bnd (m_base_Rank x0 x2) fun q34 => bnd (atI u21 q34) fun a42 => bnd (lop (ρ := (List (List Int))) (fun (s57 : (List Bool) × Bool) => if s57.2 = true then (bnd (rng (ρ := Ctl ((List Bool) × Bool) (List (List Int))) (fun (k81 : Nat) (a82 : List Int) (s79 : (List Bool) × Bool) => bnd (rng (ρ := Ctl ((List Bool) × Bool) (Ctl ((List Bool) × Bool) (List (List Int)))) (fun (k102 : Nat) (a103 : Swp) (s100 : (List Bool) × Bool) => bnd (m_ref51_State a103 a82) fun q154 => bnd (m_base_Rank x0 q154) fun q163 => bnd (bnd (s100.1[k81]?) fun a175 => if a175 = true then (bnd (atI s100.1 q163) fun a185 => some (!a185)) else (some false) : Option Bool) fun y171 => if y171 = true then (bnd (atI s100.1 q163) fun a201 => some (.next ((s100.1.set (q163 : Int).toNat true), true))) else (some (.next (s100.1, s100.2)))) x1 0 (s79.1, s79.2)) fun res98 => fin res98 fun (s218 : (List Bool) × Bool) => some (.next (s218.1, s218.2))) q10 0 (s57.1, false)) fun res77 => fin res77 fun (s224 : (List Bool) × Bool) => some (.next (s224.1, s224.2))) else (some (.brk (s57.1, s57.2)))) ((u21.set (q34 : Int).toNat true), true)) fun res55 => fin res55 fun (s230 : (List Bool) × Bool) => bnd (rng (ρ := (List (List Int))) (fun (k238 : Nat) (a239 : List Int) (s236 : (List (List Int))) => bnd (s230.1[k238]?) fun a253 => if a253 = true then (bnd (appI 24 s236 [a239]) fun u274 => some (.next u274)) else (some (.next s236))) q10 0 ([] : List (List Int))) fun res234 => fin res234 fun (s290 : (List (List Int))) => some s290
theorem c_ref51_Orbit {w : World} {A : Nat → Prop} (hA : ∀ k, A k → k < w.heap.size) {vx0 : Value} {x0 : List Int} (hx0 : Vb w A vx0 x0) {vx1 : Value} {x1 : List Swp} (hx1 : Vb w A vx1 x1) {vx2 : Value} {x2 : List Int} (hx2 : Vb w A vx2 x2) {r : (List (List Int))} (hm : m_ref51_Orbit x0 x1 x2 = some r) :
    Fn Try.prog 31 [vx0, vx1, vx2] w fun v w' => Ext w w' ∧ Vb w' (upA A w w') v r := by
 obtain ⟨O, hB, hA0⟩ := enter hA
 replace hx0 := hx0.mono hA0
 obtain ⟨A4, c5, rfl⟩ := hx0.form
 replace hx1 := hx1.mono hA0
 obtain ⟨A6, c7, rfl⟩ := hx1.form
 replace hx2 := hx2.mono hA0
 obtain ⟨A8, c9, rfl⟩ := hx2.form
 refine fn_enter Try.func31 rfl Try.ntmps31 rfl ?_
 unfold m_ref51_Orbit at hm
 refine ewp_seq (ewp_region (o_as rfl rfl (o_z ?_)))
 refine ewp_seq (ewp_region (o_mv rfl rfl ?_))
 obtain ⟨q10, e11, hm⟩ := bs hm
 refine l_call (O := O) (R := fun w' F v => Vb w' F v q10) (c_base_States Fr.lt hx0 e11) rfl rfl fun v16 w12 O13 S14 h15 => ?_
 obtain ⟨A17, c18, rfl⟩ := h15.form
 refine o_as rfl rfl (o_z ?_)
 refine ewp_seq (ewp_region (o_mv rfl rfl (o_ln rfl rfl ?_)))
 have l20 : q10.length ≤ 9223372036854775807 := Nat.le_trans h15.len.2.1 h15.len.2.2
 have r19 : inI64 (q10.length : Int) := rngNat l20
 obtain ⟨u21, e22, hm⟩ := bs hm
 obtain ⟨m23, e24, e25, e26, e27⟩ := mkI_some e22
 refine l_make 2 (by decide) O13 (z0 := (false : Bool)) rfl rfl rfl rfl rfl e24 vBool e25 e26 rfl fun g28 w29 O30 S31 h32 => ?_
 rw [← e27] at h32 ⊢
 refine o_as rfl rfl (o_z ?_)
 refine ewp_seq (ewp_region (o_mv rfl rfl (o_mv rfl rfl (o_mv rfl rfl ?_))))
 obtain ⟨q34, e35, hm⟩ := bs hm
 replace hx0 := (hx0.st S14).st S31
 replace hx2 := (hx2.st S14).st S31
 refine l_callA (O := O30) (A := All w29) (R := fun w' F v => Vb w' F v q34) (c_base_Rank (fun _ h => h) (Vb.mono (F := Fr 0 w29 O30) hx0 Fr.lt) (Vb.mono (F := Fr 0 w29 O30) hx2 Fr.lt) e35) rfl rfl fun v40 w36 O37 S38 h39 => ?_
 obtain ⟨rfl, r41⟩ := h39.int
 obtain ⟨a42, e43, hm⟩ := bs hm
 obtain ⟨p45, x44⟩ := atI_some' e43
 replace h32 := h32.st S38
 obtain ⟨b46, o47, ce48, hA49, hl50, hd51, rfl⟩ := h32.elem x44
 refine o_iaE (hA := hA49) (hj := (Int.toNat_of_nonneg p45).symm) (hlt := hl50) rfl rfl rfl ?_
 refine l_setE rfl h32 (a := true) vBool hA49 rfl rfl (lt_of_get x44) fun w53 S54 h32 => ?_
 refine o_z ?_
 refine ewp_seq (ewp_seq (ewp_region (o_as rfl rfl (o_z ?_))))
 obtain ⟨res55, hL56, hm⟩ := bs hm
 refine ewp_join (aft res55 (fun (s57 : (List Bool) × Bool) (x58 : Unit) => [(7, (.slice A17 q10.length c18)), (8, (.slice (some ⟨g28, 0, none⟩) u21.length m23))]) (fun s57 x58 w' => ∃ O' : Lab, Bs w A w' O' ∧ Vb w' (Fr 0 w' O') (.slice A17 q10.length c18) q10 ∧ Rw 2 w' O' 4 (.slice (some ⟨g28, 0, none⟩) u21.length m23) s57.1)) ?_ ?_
 ·
  refine ewp_block ?_
  replace hB := (((hB.st S14).st S31).st S38).st S54
  replace hx0 := (hx0.st S38).st S54
  replace hx1 := (((hx1.st S14).st S31).st S38).st S54
  replace h15 := ((h15.st S31).st S38).st S54
  refine ewp_lop (σ := (List Bool) × Bool) (X := Unit) hL56 (fun (s57 : (List Bool) × Bool) (x58 : Unit) => [(0, (.slice A4 x0.length c5)), (1, (.slice A6 x1.length c7)), (7, (.slice A17 q10.length c18)), (8, (.slice (some ⟨g28, 0, none⟩) u21.length m23)), (9, (.bool s57.2))]) _ (fun s57 x58 w' => ∃ O' : Lab, Bs w A w' O' ∧ Vb w' (Fr 0 w' O') (.slice A4 x0.length c5) x0 ∧ Vb w' (Fr 0 w' O') (.slice A6 x1.length c7) x1 ∧ Vb w' (Fr 0 w' O') (.slice A17 q10.length c18) q10 ∧ Rw 2 w' O' 4 (.slice (some ⟨g28, 0, none⟩) u21.length m23) s57.1) _ () ⟨O37, hB, hx0, hx1, h15, h32⟩ ⟨rfl, rfl, rfl, rfl, rfl, trivial⟩ ?_
  rintro s57 x58 w61 cc63 ⟨O62, hB, hx0, hx1, h15, h72⟩ hf65 hret66 hbrk67
  refine ewp_seq (ewp_seq (ewp_region (o_mv rfl rfl (o_z ?_))))
  refine ewp_cond rfl (fun c74 => ?_) (fun c74 => ?_)
  ·
   replace hf65 := ip hf65 c74
   refine ewp_skip (ewp_block (ewp_seq (ewp_region (o_as rfl rfl (o_z ?_)))))
   refine ewp_seq (ewp_region (o_mv rfl rfl (o_ln rfl rfl ?_)))
   have l76 : q10.length ≤ 9223372036854775807 := Nat.le_trans h15.len.2.1 h15.len.2.2
   have r75 : inI64 (q10.length : Int) := rngNat l76
   refine o_mv rfl rfl (o_z ?_)
   obtain ⟨res77, hL78, hf65⟩ := bs hf65
   refine ewp_join (aft res77 (fun (s79 : (List Bool) × Bool) (x80 : Unit) => [(0, (.slice A4 x0.length c5)), (1, (.slice A6 x1.length c7)), (7, (.slice A17 q10.length c18)), (8, (.slice (some ⟨g28, 0, none⟩) u21.length m23)), (9, (.bool s79.2))]) (fun s79 x80 w' => ∃ O' : Lab, Bs w A w' O' ∧ Vb w' (Fr 0 w' O') (.slice A4 x0.length c5) x0 ∧ Vb w' (Fr 0 w' O') (.slice A6 x1.length c7) x1 ∧ Vb w' (Fr 0 w' O') (.slice A17 q10.length c18) q10 ∧ Rw 2 w' O' 4 (.slice (some ⟨g28, 0, none⟩) u21.length m23) s79.1)) ?_ ?_
   ·
    refine ewp_block (ewp_rng (σ := (List Bool) × Bool) (X := Unit) (q10.length) hL78 rfl l76 (fun (s79 : (List Bool) × Bool) (x80 : Unit) => [(0, (.slice A4 x0.length c5)), (1, (.slice A6 x1.length c7)), (7, (.slice A17 q10.length c18)), (8, (.slice (some ⟨g28, 0, none⟩) u21.length m23)), (9, (.bool s79.2))]) _ (fun s79 x80 w' => ∃ O' : Lab, Bs w A w' O' ∧ Vb w' (Fr 0 w' O') (.slice A4 x0.length c5) x0 ∧ Vb w' (Fr 0 w' O') (.slice A6 x1.length c7) x1 ∧ Vb w' (Fr 0 w' O') (.slice A17 q10.length c18) q10 ∧ Rw 2 w' O' 4 (.slice (some ⟨g28, 0, none⟩) u21.length m23) s79.1) _ () ⟨O62, hB, hx0, hx1, h15, h72⟩ ⟨rfl, rfl, rfl, rfl, rfl, rfl, rfl, trivial⟩ (fun _ _ => ⟨rfl, rfl⟩) (fun _ _ => ⟨rfl, rfl, rfl, rfl, rfl, trivial⟩) (fun _ _ _ ⟨O', hB, hx0, hx1, h15, h94⟩ => ⟨O', hB, hx0, hx1, h15, h94⟩) ⟨rfl, rfl, rfl⟩ ⟨rfl, rfl⟩ ?_)
    rintro k81 a82 s79 x80 w83 cc85 hx86 ⟨O84, hB, hx0, hx1, h15, h94⟩ hf87 hret88 hbrk89
    have rk81 : inI64 (k81 : Int) := rngK hx86 l76
    refine ewp_seq (ewp_region (o_mv rfl rfl (o_as rfl rfl (o_z ?_))))
    refine ewp_seq (ewp_region (o_mv rfl rfl (o_ln rfl rfl ?_)))
    have l97 : x1.length ≤ 9223372036854775807 := Nat.le_trans hx1.len.2.1 hx1.len.2.2
    have r96 : inI64 (x1.length : Int) := rngNat l97
    refine o_mv rfl rfl (o_z ?_)
    obtain ⟨res98, hL99, hf87⟩ := bs hf87
    refine ewp_join (aft res98 (fun (s100 : (List Bool) × Bool) (x101 : Unit) => [(0, (.slice A4 x0.length c5)), (1, (.slice A6 x1.length c7)), (7, (.slice A17 q10.length c18)), (8, (.slice (some ⟨g28, 0, none⟩) u21.length m23)), (9, (.bool s100.2)), (28, (.int .i64 (q10.length : Int))), (29, (.int .i64 (k81 : Int)))]) (fun s100 x101 w' => ∃ O' : Lab, Bs w A w' O' ∧ Vb w' (Fr 0 w' O') (.slice A4 x0.length c5) x0 ∧ Vb w' (Fr 0 w' O') (.slice A6 x1.length c7) x1 ∧ Vb w' (Fr 0 w' O') (.slice A17 q10.length c18) q10 ∧ Rw 2 w' O' 4 (.slice (some ⟨g28, 0, none⟩) u21.length m23) s100.1)) ?_ ?_
    ·
     refine ewp_block (ewp_rng (σ := (List Bool) × Bool) (X := Unit) (x1.length) hL99 rfl l97 (fun (s100 : (List Bool) × Bool) (x101 : Unit) => [(0, (.slice A4 x0.length c5)), (1, (.slice A6 x1.length c7)), (7, (.slice A17 q10.length c18)), (8, (.slice (some ⟨g28, 0, none⟩) u21.length m23)), (9, (.bool s100.2)), (10, (.int .i64 (k81 : Int))), (28, (.int .i64 (q10.length : Int))), (29, (.int .i64 (k81 : Int))), (32, (.slice A6 x1.length c7))]) _ (fun s100 x101 w' => ∃ O' : Lab, Bs w A w' O' ∧ Vb w' (Fr 0 w' O') (.slice A4 x0.length c5) x0 ∧ Vb w' (Fr 0 w' O') (.slice A6 x1.length c7) x1 ∧ Vb w' (Fr 0 w' O') (.slice A17 q10.length c18) q10 ∧ Rw 2 w' O' 4 (.slice (some ⟨g28, 0, none⟩) u21.length m23) s100.1) _ () ⟨O84, hB, hx0, hx1, h15, h94⟩ ⟨rfl, rfl, rfl, rfl, rfl, rfl, rfl, rfl, rfl, rfl, rfl, trivial⟩ (fun _ _ => ⟨rfl, rfl⟩) (fun _ _ => ⟨rfl, rfl, rfl, rfl, rfl, rfl, rfl, trivial⟩) (fun _ _ _ ⟨O', hB, hx0, hx1, h15, h115⟩ => ⟨O', hB, hx0, hx1, h15, h115⟩) ⟨rfl, rfl, rfl⟩ ⟨rfl, rfl⟩ ?_)
     rintro k102 a103 s100 x101 w104 cc106 hx107 ⟨O105, hB, hx0, hx1, h15, h115⟩ hf108 hret109 hbrk110
     have rk102 : inI64 (k102 : Int) := rngK hx107 l97
     refine ewp_seq (ewp_region ?_)
     obtain ⟨b117, o118, ce119, hA120, hl121, hd122, v124, v125, v126, rfl, h127, h130, h133⟩ := hx1.elem' hx107
     obtain ⟨A128, c129, rfl⟩ := h127.form
     obtain ⟨A131, c132, rfl⟩ := h130.form
     obtain ⟨A134, c135, rfl⟩ := h133.form
     refine o_iaE (hA := hA120) (hj := rfl) (hlt := hl121) rfl rfl rfl ?_
     refine o_la (hl := rfl) (hc := hd122) rfl rfl ?_
     refine l_alloc 3 O105 rfl fun g136 w137 O138 S139 h140 => ?_
     refine l_store h140 rfl rfl rfl (Nat.le_of_ble_eq_true rfl) (by first | exact allOne rfl | simp [Value.cells, Value.oneCell', errV_one]) fun w141 S142 h140 => ?_
     replace h140 : Lc 3 w141 O138 g136 29 [(.slice A128 a103.vars.length c129), (.slice A131 a103.vals.length c132), (.slice A134 a103.ops.length c135)] := h140
     refine o_z ?_
     refine ewp_seq (ewp_drawX [(6, []), (7, [])] O138 ?_)
     refine x_pre (fuel := 3) [] [(0, true), (1, true), (2, true), (3, true), (4, true), (5, true)] (by kernel_rfl) rfl ?_
     refine h_mv rfl rfl rfl (h_laB (hl := rfl) (hb := fun w' ⟨O', hq⟩ => ((h140.st hq (by decide)).1).cellsAt) rfl rfl rfl ?_)
     refine h_mv rfl rfl rfl (h_mv rfl rfl rfl ?_)
     replace h15 := (h15.st S139).st S142
     obtain ⟨b143, o144, ce145, hA146, hF149, hl147, hd148, v150, rfl, h151⟩ := h15.elem hx86
     replace h151 := Vb.of_slice h151
     obtain ⟨A152, c153, rfl⟩ := h151.form
     refine h_iaE (hA := hA146) (hj := rfl) (hlt := hl147) rfl rfl rfl rfl ?_
     refine h_ldC (hc := fun w' ⟨O', hq⟩ => cat0 (cellsAt_agree (hq.agree (i := 0) (by decide)) hF149 hd148)) rfl rfl rfl ?_
     refine hwp_nilT ?_
     refine x_one (i := 6) (by kernel_rfl) rfl ?_
     obtain ⟨q154, e155, hf108⟩ := bs hf108
     replace h127 := (h127.st S139).st S142
     replace h130 := (h130.st S139).st S142
     replace h133 := (h133.st S139).st S142
     refine l_call (O := O138) (R := fun w' F v => Vb w' F v q154) (c_ref51_State Fr.lt (Vb.ofAgg (cs := [(.slice A128 a103.vars.length c129), (.slice A131 a103.vals.length c132), (.slice A134 a103.ops.length c135)]) (x := a103) rfl ⟨_, _, _, rfl, h127, h130, h133⟩) h151 e155) rfl rfl fun v160 w156 O157 S158 h159 => ?_
     obtain ⟨A161, c162, rfl⟩ := h159.form
     have hZ := S158.lst [] (fun _ h => h.elim)
     refine x_go [(7, [])] hZ (by kernel_rfl) ?_
     refine x_one (i := 7) (by kernel_rfl) rfl ?_
     obtain ⟨q163, e164, hf108⟩ := bs hf108
     replace hx0 := ((hx0.st S139).st S142).st S158
     refine l_callA (O := O157) (A := All w156) (R := fun w' F v => Vb w' F v q163) (c_base_Rank (fun _ h => h) (Vb.mono (F := Fr 0 w156 O157) hx0 Fr.lt) (Vb.mono (F := Fr 0 w156 O157) h159 Fr.lt) e164) rfl rfl fun v169 w165 O166 S167 h168 => ?_
     obtain ⟨rfl, r170⟩ := h168.int
     have hZ := S167.lst [] (fun _ h => h.elim)
     refine x_go [] hZ (by kernel_rfl) ?_
     refine x_pre (fuel := 0) [] [(8, true)] (by kernel_rfl) rfl ?_
     refine h_as rfl rfl rfl (hwp_nilT ?_)
     refine x_nil (by kernel_rfl) ?_
     refine ewp_seq ?_
     obtain ⟨y171, hy172, hf108⟩ := bs hf108
     refine ewp_join (fun l' w' => ∃ (x174 : Unit) (O' : Lab), subs l' [(0, (.slice A4 x0.length c5)), (1, (.slice A6 x1.length c7)), (7, (.slice A17 q10.length c18)), (8, (.slice (some ⟨g28, 0, none⟩) u21.length m23)), (9, (.bool s100.2)), (10, (.int .i64 (k81 : Int))), (13, (.int .i64 q163)), (28, (.int .i64 (q10.length : Int))), (29, (.int .i64 (k81 : Int))), (32, (.slice A6 x1.length c7)), (33, (.int .i64 (x1.length : Int))), (34, (.int .i64 (k102 : Int))), (56, (.bool y171))] ∧ Bs w A w' O' ∧ Vb w' (Fr 0 w' O') (.slice A4 x0.length c5) x0 ∧ Vb w' (Fr 0 w' O') (.slice A6 x1.length c7) x1 ∧ Vb w' (Fr 0 w' O') (.slice A17 q10.length c18) q10 ∧ Rw 2 w' O' 4 (.slice (some ⟨g28, 0, none⟩) u21.length m23) s100.1) ?_ ?_
     ·
      refine ewp_region (o_mv rfl rfl (o_mv rfl rfl ?_))
      obtain ⟨a175, e176, hy172⟩ := bs hy172
      replace h115 := (((h115.st S139).st S142).st S158).st S167
      obtain ⟨b177, o178, ce179, hA180, hl181, hd182, rfl⟩ := h115.elem e176
      refine o_iaE (hA := hA180) (hj := rfl) (hlt := hl181) rfl rfl rfl ?_
      refine o_ld (hc := cat0 hd182) rfl rfl ?_
      refine o_mv rfl rfl ?_
      rcases Bool.eq_false_or_eq_true a175 with c184 | c184
      ·
       try rw [c184]
       replace hy172 := ip hy172 c184
       refine owp_yes rfl rfl (o_mv rfl rfl (owp_yes rfl rfl (o_mv rfl rfl (owp_yes rfl rfl ?_))))
       obtain ⟨a185, e186, hy172⟩ := bs hy172
       obtain ⟨p188, x187⟩ := atI_some' e186
       obtain ⟨b189, o190, ce191, hA192, hl193, hd194, rfl⟩ := h115.elem x187
       refine o_iaE (hA := hA192) (hj := (Int.toNat_of_nonneg p188).symm) (hlt := hl193) rfl rfl rfl ?_
       refine owp_yes rfl rfl (o_ld (hc := cat0 hd194) rfl rfl ?_)
       refine owp_yes rfl rfl (o_nn rfl rfl (o_pt rfl rfl rfl (o_z ?_)))
       obtain rfl := sm hy172
       replace hB := (((hB.st S139).st S142).st S158).st S167
       replace hx0 := hx0.st S167
       replace hx1 := (((hx1.st S139).st S142).st S158).st S167
       replace h15 := (h15.st S158).st S167
       exact ⟨(), _, ⟨rfl, rfl, rfl, rfl, rfl, rfl, rfl, rfl, rfl, rfl, rfl, rfl, rfl, trivial⟩, hB, hx0, hx1, h15, h115⟩
      ·
       try rw [c184]
       replace hy172 := im' hy172 c184
       refine owp_no rfl rfl rfl rfl (owp_no rfl rfl rfl rfl (owp_no rfl rfl rfl rfl (owp_no rfl rfl rfl rfl (owp_no rfl rfl rfl rfl (o_pf rfl rfl rfl (o_z ?_))))))
       obtain rfl := sm hy172
       replace hB := (((hB.st S139).st S142).st S158).st S167
       replace hx0 := hx0.st S167
       replace hx1 := (((hx1.st S139).st S142).st S158).st S167
       replace h15 := (h15.st S158).st S167
       exact ⟨(), _, ⟨rfl, rfl, rfl, rfl, rfl, rfl, rfl, rfl, rfl, rfl, rfl, rfl, rfl, trivial⟩, hB, hx0, hx1, h15, h115⟩
     replace hB := (((hB.st S139).st S142).st S158).st S167
     replace hx0 := hx0.st S167
     replace hx1 := (((hx1.st S139).st S142).st S158).st S167
     replace h15 := (h15.st S158).st S167
     replace h115 := (((h115.st S139).st S142).st S158).st S167
     rintro l196 w197 ⟨x174, O198, hs199, hB, hx0, hx1, h15, h115⟩
     refine ewp_sub _ hs199 ?_
     refine ewp_cond rfl (fun c200 => ?_) (fun c200 => ?_)
     ·
      replace hf108 := ip hf108 c200
      refine ewp_region (o_mv rfl rfl (o_mv rfl rfl ?_))
      obtain ⟨a201, e202, hf108⟩ := bs hf108
      obtain ⟨p204, x203⟩ := atI_some' e202
      obtain ⟨b205, o206, ce207, hA208, hl209, hd210, rfl⟩ := h115.elem x203
      refine o_iaE (hA := hA208) (hj := (Int.toNat_of_nonneg p204).symm) (hlt := hl209) rfl rfl rfl ?_
      refine l_setE rfl h115 (a := true) vBool hA208 rfl rfl (lt_of_get x203) fun w212 S213 h115 => ?_
      refine o_as rfl rfl (o_z ?_)
      obtain rfl := sm hf108
      refine (?_ : Exists _)
      replace hB := hB.st S213
      replace hx0 := hx0.st S213
      replace hx1 := hx1.st S213
      replace h15 := h15.st S213
      exact ⟨_, (), rfl, ⟨rfl, rfl, rfl, rfl, rfl, rfl, rfl, rfl, rfl, rfl, rfl, trivial⟩, _, hB, hx0, hx1, h15, h115⟩
     ·
      replace hf108 := im' hf108 c200
      refine ewp_skip ?_
      obtain rfl := sm hf108
      refine (?_ : Exists _)
      exact ⟨_, (), rfl, ⟨rfl, rfl, rfl, rfl, rfl, rfl, rfl, rfl, rfl, rfl, rfl, trivial⟩, _, hB, hx0, hx1, h15, h115⟩
    rintro l214 w215 ⟨s218, x219, rfl, hs217, O216, hB, hx0, hx1, h15, h115⟩
    replace hf87 := fin_done hf87
    obtain rfl := sm hf87
    refine (?_ : Exists _)
    exact ⟨_, (), rfl, ⟨(subs_lk hs217 _ _ rfl), (subs_lk hs217 _ _ rfl), (subs_lk hs217 _ _ rfl), (subs_lk hs217 _ _ rfl), (subs_lk hs217 _ _ rfl), (subs_lk hs217 _ _ rfl), (subs_lk hs217 _ _ rfl), trivial⟩, _, hB, hx0, hx1, h15, h115⟩
   rintro l220 w221 ⟨s224, x225, rfl, hs223, O222, hB, hx0, hx1, h15, h94⟩
   replace hf65 := fin_done hf65
   obtain rfl := sm hf65
   refine (?_ : Exists _)
   exact ⟨_, (), rfl, ⟨(subs_lk hs223 _ _ rfl), (subs_lk hs223 _ _ rfl), (subs_lk hs223 _ _ rfl), (subs_lk hs223 _ _ rfl), (subs_lk hs223 _ _ rfl), trivial⟩, _, hB, hx0, hx1, h15, h94⟩
  ·
   replace hf65 := im' hf65 c74
   refine ewp_exit ?_
   obtain rfl := sm hf65
   refine (?_ : Exists _)
   exact ⟨_, (), hbrk67 _ rfl, ⟨rfl, rfl, trivial⟩, _, hB, h15, h72⟩
 replace hB := (((hB.st S14).st S31).st S38).st S54
 replace h15 := ((h15.st S31).st S38).st S54
 rintro l226 w227 ⟨s230, x231, rfl, hs229, O228, hB, h15, h72⟩
 replace hm := fin_done hm
 refine ewp_sub _ hs229 ?_
 refine ewp_seq (ewp_region (o_as rfl rfl (o_z ?_)))
 refine ewp_seq (ewp_seq (ewp_region (o_mv rfl rfl (o_ln rfl rfl ?_))))
 have l233 : q10.length ≤ 9223372036854775807 := Nat.le_trans h15.len.2.1 h15.len.2.2
 have r232 : inI64 (q10.length : Int) := rngNat l233
 refine o_mv rfl rfl (o_z ?_)
 obtain ⟨res234, hL235, hm⟩ := bs hm
 refine ewp_join (aft res234 (fun (s236 : (List (List Int))) (x237 : (Option Addr × Nat)) => [(14, (.slice x237.1 s236.length x237.2))]) (fun s236 x237 w' => ∃ O' : Lab, Bs w A w' O' ∧ Rw 4 w' O' 22 (.slice x237.1 s236.length x237.2) s236)) ?_ ?_
 ·
  refine ewp_block (ewp_rng (σ := (List (List Int))) (X := (Option Addr × Nat)) (q10.length) hL235 rfl l233 (fun (s236 : (List (List Int))) (x237 : (Option Addr × Nat)) => [(7, (.slice A17 q10.length c18)), (8, (.slice (some ⟨g28, 0, none⟩) u21.length m23)), (14, (.slice x237.1 s236.length x237.2))]) _ (fun s236 x237 w' => ∃ O' : Lab, Bs w A w' O' ∧ Vb w' (Fr 0 w' O') (.slice A17 q10.length c18) q10 ∧ Rw 2 w' O' 4 (.slice (some ⟨g28, 0, none⟩) u21.length m23) s230.1 ∧ Rw 4 w' O' 22 (.slice x237.1 s236.length x237.2) s236) _ (none, 0) ⟨O228, hB, h15, h72, (Rw.nil 4 (by decide))⟩ ⟨rfl, rfl, rfl, rfl, rfl, trivial⟩ (fun _ _ => ⟨rfl, rfl⟩) (fun _ _ => ⟨rfl, trivial⟩) (fun _ _ _ ⟨O', hB, h15, h72, h251⟩ => ⟨O', hB, h251⟩) ⟨rfl, rfl, rfl⟩ ⟨rfl, rfl⟩ ?_)
  rintro k238 a239 s236 x237 w240 cc242 hx243 ⟨O241, hB, h15, h72, h251⟩ hf244 hret245 hbrk246
  have rk238 : inI64 (k238 : Int) := rngK hx243 l233
  refine ewp_seq (ewp_region (o_mv rfl rfl (o_as rfl rfl (o_z ?_))))
  refine ewp_seq (ewp_region (o_mv rfl rfl (o_mv rfl rfl ?_)))
  obtain ⟨a253, e254, hf244⟩ := bs hf244
  obtain ⟨b255, o256, ce257, hA258, hl259, hd260, rfl⟩ := h72.elem e254
  refine o_iaE (hA := hA258) (hj := rfl) (hlt := hl259) rfl rfl rfl ?_
  refine o_ld (hc := cat0 hd260) rfl rfl ?_
  refine o_z ?_
  refine ewp_cond rfl (fun c262 => ?_) (fun c262 => ?_)
  ·
   replace hf244 := ip hf244 c262
   refine ewp_region (o_mv rfl rfl (o_mv rfl rfl (o_mv rfl rfl ?_)))
   obtain ⟨b263, o264, ce265, hA266, hl267, hd268, v270, rfl, h271⟩ := h15.elem' hx243
   replace h271 := Vb.of_slice h271
   obtain ⟨A272, c273, rfl⟩ := h271.form
   refine o_iaE (hA := hA266) (hj := rfl) (hlt := hl267) rfl rfl rfl ?_
   refine o_ld (hc := cat0 hd268) rfl rfl ?_
   obtain ⟨u274, e275, hf244⟩ := bs hf244
   obtain ⟨e275, e276, e277⟩ := appI_some e275
   refine l_append1 rfl (a := a239) h251 h271 (fun _ => rfl) rfl (by decide) (by decide) e276 e277 ⟨rfl, rfl⟩ fun g278 A279 c280 w281 O282 S283 h284 => ?_
   rw [← e275] at h284 ⊢
   refine o_as rfl rfl (o_z ?_)
   obtain rfl := sm hf244
   refine (?_ : Exists _)
   replace hB := hB.st S283
   replace h15 := h15.st S283
   replace h72 := h72.st S283
   exact ⟨_, (A279, c280), rfl, ⟨rfl, rfl, rfl, rfl, rfl, trivial⟩, _, hB, h15, h72, h284⟩
  ·
   replace hf244 := im' hf244 c262
   refine ewp_skip ?_
   obtain rfl := sm hf244
   refine (?_ : Exists _)
   exact ⟨_, (x237.1, x237.2), rfl, ⟨rfl, rfl, rfl, rfl, rfl, trivial⟩, _, hB, h15, h72, h251⟩
 rintro l286 w287 ⟨s290, x291, rfl, hs289, O288, hB, h251⟩
 replace hm := fin_done hm
 refine ewp_sub _ hs289 ?_
 refine ewp_seq (ewp_region (o_mv rfl rfl (o_as rfl rfl (o_z ?_))))
 refine ewp_ret ?_
 obtain ⟨O292, S293, h251⟩ := h251.freeze
 obtain rfl := sm hm
 replace hB := hB.st S293
 exact ret1v rfl (res_tmp rfl) ⟨hB.ext, (Vb.mono (F := Fr 0 w287 O292) h251 hB.out)⟩
noncomputable def m_base_Clip (x0 : Int) (x1 : Int) (x2 : Int) : Option Int :=
  some (max x1 (min x0 x2))
theorem c_base_Clip {w : World} {A : Nat → Prop} (hA : ∀ k, A k → k < w.heap.size) {x0 : Int} (rx0 : inI64 x0) {x1 : Int} (rx1 : inI64 x1) {x2 : Int} (rx2 : inI64 x2) {r : Int} (hm : m_base_Clip x0 x1 x2 = some r) :
    Fn Try.prog 32 [(.int .i64 x0), (.int .i64 x1), (.int .i64 x2)] w fun v w' => Ext w w' ∧ Vb w' (upA A w w') v r := by
 obtain ⟨O, hB, hA0⟩ := enter hA
 refine fn_enter Try.func32 rfl Try.ntmps32 rfl ?_
 unfold m_base_Clip at hm
 refine ewp_seq (ewp_region (o_as rfl rfl (o_z ?_)))
 refine ewp_seq (ewp_region (o_mv rfl rfl (o_mv rfl rfl (o_mv rfl rfl (o_min rfl rfl rfl ?_)))))
 refine o_max rfl rfl rfl ?_
 refine o_as rfl rfl (o_z ?_)
 refine ewp_ret ?_
 obtain rfl := sm hm
 exact ret1v rfl (res_tmp rfl) ⟨hB.ext, (vInt (rngMax rx1 (rngMin rx0 rx2)))⟩
structure Qst where
  task : Tsk
  gens : List Swp
  state : List Int
instance : Rp Qst where
  isAgg := true
  size := 6
  R w F cs x := ∃ v0 v1 v2 v3 v4 v5, cs = [v0, v1, v2, v3, v4, v5] ∧ Vb w F v0 x.task.vars ∧ Vb w F v1 x.task.init ∧ Vb w F v2 x.task.goal ∧ Vb w F v3 x.task.ops ∧ Vb w F v4 x.gens ∧ Vb w F v5 x.state
  len := by rintro w F cs x ⟨v0, v1, v2, v3, v4, v5, rfl, h0, h1, h2, h3, h4, h5⟩; rfl
  one := by rintro w F cs x ⟨v0, v1, v2, v3, v4, v5, rfl, h0, h1, h2, h3, h4, h5⟩ u hu; simp at hu; rcases hu with rfl | rfl | rfl | rfl | rfl | rfl <;> first | rfl | exact Vb.one rfl (by assumption)
  agree := by rintro w w' F cs x ⟨v0, v1, v2, v3, v4, v5, rfl, h0, h1, h2, h3, h4, h5⟩ ha; exact ⟨v0, v1, v2, v3, v4, v5, rfl, h0.agree ha, h1.agree ha, h2.agree ha, h3.agree ha, h4.agree ha, h5.agree ha⟩
  mono := by rintro w F G cs x ⟨v0, v1, v2, v3, v4, v5, rfl, h0, h1, h2, h3, h4, h5⟩ ha; exact ⟨v0, v1, v2, v3, v4, v5, rfl, h0.mono ha, h1.mono ha, h2.mono ha, h3.mono ha, h4.mono ha, h5.mono ha⟩
noncomputable def m_law51_large (x0 : Qst) : Option Bool :=
  bnd (if 70 < (x0.task.vars.length : Int) then (some true) else (if 20 < (x0.task.ops.length : Int) then (some true) else (if 12 < (x0.gens.length : Int) then (some true) else (if 100 < (x0.state.length : Int) then (some true) else (some false)))) : Option Bool) fun y32 => if y32 = true then (some true) else (bnd (rng (ρ := Bool) (fun (k59 : Nat) (a60 : Swp) (s57 : Unit) => bnd (m_law51_long a60) fun q96 => if q96 = true then some (.ret true) else some (.next ())) x0.gens 0 ()) fun res55 => fin res55 fun (s107 : Unit) => some false)
theorem c_law51_large {w : World} {A : Nat → Prop} (hA : ∀ k, A k → k < w.heap.size) {vx0 : Value} {x0 : Qst} (hx0 : Vb w A vx0 x0) {r : Bool} (hm : m_law51_large x0 = some r) :
    Fn Try.prog 27 [vx0] w fun v w' => Ext w w' ∧ Vb w' (upA A w w') v r := by
 obtain ⟨O, hB, hA0⟩ := enter hA
 replace hx0 := hx0.mono hA0
 obtain ⟨cs2, rfl, v3, v4, v5, v6, v7, v8, rfl, h9, h12, h15, h18, h21, h24⟩ := hx0
 obtain ⟨A10, c11, rfl⟩ := h9.form
 obtain ⟨A13, c14, rfl⟩ := h12.form
 obtain ⟨A16, c17, rfl⟩ := h15.form
 obtain ⟨A19, c20, rfl⟩ := h18.form
 obtain ⟨A22, c23, rfl⟩ := h21.form
 obtain ⟨A25, c26, rfl⟩ := h24.form
 refine fn_enter Try.func27 rfl Try.ntmps27 rfl ?_
 unfold m_law51_large at hm
 refine ewp_seq (ewp_region (l_box 2 O rfl rfl fun g27 w28 O29 S30 h31 => ?_))
 replace h31 : Lc 2 w28 O29 g27 54 [(.slice A10 x0.task.vars.length c11), (.slice A13 x0.task.init.length c14), (.slice A16 x0.task.goal.length c17), (.slice A19 x0.task.ops.length c20), (.slice A22 x0.gens.length c23), (.slice A25 x0.state.length c26)] := h31
 refine o_as rfl rfl (o_z ?_)
 refine ewp_seq (ewp_seq ?_)
 obtain ⟨y32, hy33, hm⟩ := bs hm
 refine ewp_join (fun l' w' => ∃ (x35 : Unit) (O' : Lab), subs l' [(1, (.pointer (some ⟨g27, 0, none⟩))), (28, (.bool y32))] ∧ Bs w A w' O' ∧ Lc 2 w' O' g27 54 [(.slice A10 x0.task.vars.length c11), (.slice A13 x0.task.init.length c14), (.slice A16 x0.task.goal.length c17), (.slice A19 x0.task.ops.length c20), (.slice A22 x0.gens.length c23), (.slice A25 x0.state.length c26)] ∧ Vb w' (Fr 0 w' O') (.slice A10 x0.task.vars.length c11) x0.task.vars ∧ Vb w' (Fr 0 w' O') (.slice A13 x0.task.init.length c14) x0.task.init ∧ Vb w' (Fr 0 w' O') (.slice A16 x0.task.goal.length c17) x0.task.goal ∧ Vb w' (Fr 0 w' O') (.slice A19 x0.task.ops.length c20) x0.task.ops ∧ Vb w' (Fr 0 w' O') (.slice A22 x0.gens.length c23) x0.gens ∧ Vb w' (Fr 0 w' O') (.slice A25 x0.state.length c26) x0.state) ?_ ?_
 ·
  refine ewp_region (o_fa rfl rfl (o_fa rfl rfl (o_ld (hc := Blk.cell (i := 0) (h31.1) rfl) rfl rfl ?_)))
  refine o_ln rfl rfl ?_
  replace h9 := h9.st S30
  have l37 : x0.task.vars.length ≤ 9223372036854775807 := Nat.le_trans h9.len.2.1 h9.len.2.2
  have r36 : inI64 (x0.task.vars.length : Int) := rngNat l37
  refine o_gtS rfl rfl rfl (fun c38 => ?_) fun c38 => ?_
  ·
   replace hy33 := ip hy33 c38
   refine o_mv rfl rfl (owp_no rfl rfl rfl rfl (owp_no rfl rfl rfl rfl (owp_no rfl rfl rfl rfl (owp_no rfl rfl rfl rfl (owp_no rfl rfl rfl rfl (o_pt rfl rfl rfl (o_mv rfl rfl (owp_no rfl rfl rfl rfl (owp_no rfl rfl rfl rfl (owp_no rfl rfl rfl rfl (owp_no rfl rfl rfl rfl (o_pt rfl rfl rfl (o_mv rfl rfl (owp_no rfl rfl rfl rfl ?_))))))))))))))
   refine owp_no rfl rfl rfl rfl (owp_no rfl rfl rfl rfl (owp_no rfl rfl rfl rfl (o_pt rfl rfl rfl (o_z ?_))))
   obtain rfl := sm hy33
   replace hB := hB.st S30
   replace h12 := h12.st S30
   replace h15 := h15.st S30
   replace h18 := h18.st S30
   replace h21 := h21.st S30
   replace h24 := h24.st S30
   exact ⟨(), _, ⟨rfl, rfl, trivial⟩, hB, h31, h9, h12, h15, h18, h21, h24⟩
  ·
   replace hy33 := im hy33 c38
   refine o_mv rfl rfl (owp_yes rfl rfl (o_fa rfl rfl (owp_yes rfl rfl (o_fa rfl rfl (owp_yes rfl rfl (o_ld (hc := Blk.cell (i := 3) (h31.1) rfl) rfl rfl ?_))))))
   refine owp_yes rfl rfl (o_ln rfl rfl ?_)
   replace h18 := h18.st S30
   have l40 : x0.task.ops.length ≤ 9223372036854775807 := Nat.le_trans h18.len.2.1 h18.len.2.2
   have r39 : inI64 (x0.task.ops.length : Int) := rngNat l40
   refine owp_yes rfl rfl (o_gtS rfl rfl rfl (fun c41 => ?_) fun c41 => ?_)
   ·
    replace hy33 := ip hy33 c41
    refine o_pf rfl rfl rfl (o_mv rfl rfl (owp_no rfl rfl rfl rfl (owp_no rfl rfl rfl rfl (owp_no rfl rfl rfl rfl (owp_no rfl rfl rfl rfl (o_pt rfl rfl rfl (o_mv rfl rfl (owp_no rfl rfl rfl rfl (owp_no rfl rfl rfl rfl (owp_no rfl rfl rfl rfl (owp_no rfl rfl rfl rfl (o_pt rfl rfl rfl (o_z ?_)))))))))))))
    obtain rfl := sm hy33
    replace hB := hB.st S30
    replace h12 := h12.st S30
    replace h15 := h15.st S30
    replace h21 := h21.st S30
    replace h24 := h24.st S30
    exact ⟨(), _, ⟨rfl, rfl, trivial⟩, hB, h31, h9, h12, h15, h18, h21, h24⟩
   ·
    replace hy33 := im hy33 c41
    refine o_pf rfl rfl rfl (o_mv rfl rfl (owp_yes rfl rfl (o_fa rfl rfl (owp_yes rfl rfl (o_ld (hc := Blk.cell (i := 4) (h31.1) rfl) rfl rfl ?_)))))
    refine owp_yes rfl rfl (o_ln rfl rfl ?_)
    replace h21 := h21.st S30
    have l43 : x0.gens.length ≤ 9223372036854775807 := Nat.le_trans h21.len.2.1 h21.len.2.2
    have r42 : inI64 (x0.gens.length : Int) := rngNat l43
    refine owp_yes rfl rfl (o_gtS rfl rfl rfl (fun c44 => ?_) fun c44 => ?_)
    ·
     replace hy33 := ip hy33 c44
     refine o_pf rfl rfl rfl (o_mv rfl rfl (owp_no rfl rfl rfl rfl (owp_no rfl rfl rfl rfl (owp_no rfl rfl rfl rfl (owp_no rfl rfl rfl rfl (o_pt rfl rfl rfl (o_z ?_)))))))
     obtain rfl := sm hy33
     replace hB := hB.st S30
     replace h12 := h12.st S30
     replace h15 := h15.st S30
     replace h24 := h24.st S30
     exact ⟨(), _, ⟨rfl, rfl, trivial⟩, hB, h31, h9, h12, h15, h18, h21, h24⟩
    ·
     replace hy33 := im hy33 c44
     refine o_pf rfl rfl rfl (o_mv rfl rfl (owp_yes rfl rfl (o_fa rfl rfl (owp_yes rfl rfl (o_ld (hc := Blk.cell (i := 5) (h31.1) rfl) rfl rfl ?_)))))
     refine owp_yes rfl rfl (o_ln rfl rfl ?_)
     replace h24 := h24.st S30
     have l46 : x0.state.length ≤ 9223372036854775807 := Nat.le_trans h24.len.2.1 h24.len.2.2
     have r45 : inI64 (x0.state.length : Int) := rngNat l46
     refine owp_yes rfl rfl (o_gtS rfl rfl rfl (fun c47 => ?_) fun c47 => ?_)
     ·
      replace hy33 := ip hy33 c47
      refine o_pf rfl rfl rfl (o_z ?_)
      obtain rfl := sm hy33
      replace hB := hB.st S30
      replace h12 := h12.st S30
      replace h15 := h15.st S30
      exact ⟨(), _, ⟨rfl, rfl, trivial⟩, hB, h31, h9, h12, h15, h18, h21, h24⟩
     ·
      replace hy33 := im hy33 c47
      refine o_pf rfl rfl rfl (o_z ?_)
      obtain rfl := sm hy33
      replace hB := hB.st S30
      replace h12 := h12.st S30
      replace h15 := h15.st S30
      exact ⟨(), _, ⟨rfl, rfl, trivial⟩, hB, h31, h9, h12, h15, h18, h21, h24⟩
 replace hB := hB.st S30
 replace h9 := h9.st S30
 replace h12 := h12.st S30
 replace h15 := h15.st S30
 replace h18 := h18.st S30
 replace h21 := h21.st S30
 replace h24 := h24.st S30
 rintro l48 w49 ⟨x35, O50, hs51, hB, h31, h9, h12, h15, h18, h21, h24⟩
 refine ewp_sub _ hs51 ?_
 refine ewp_cond rfl (fun c52 => ?_) (fun c52 => ?_)
 ·
  replace hm := ip hm c52
  refine ewp_seq (ewp_region (o_as rfl rfl (o_z ?_)))
  refine ewp_ret ?_
  obtain rfl := sm hm
  exact ret1v rfl (res_tmp rfl) ⟨hB.ext, vBool⟩
 ·
  replace hm := im' hm c52
  refine ewp_skip (ewp_seq (ewp_seq (ewp_region (o_fa rfl rfl (o_ld (hc := Blk.cell (i := 4) (h31.1) rfl) rfl rfl ?_)))))
  refine o_ln rfl rfl ?_
  have l54 : x0.gens.length ≤ 9223372036854775807 := Nat.le_trans h21.len.2.1 h21.len.2.2
  have r53 : inI64 (x0.gens.length : Int) := rngNat l54
  refine o_mv rfl rfl (o_z ?_)
  obtain ⟨res55, hL56, hm⟩ := bs hm
  refine ewp_join (aft res55 (fun (s57 : Unit) (x58 : Unit) => []) (fun s57 x58 w' => ∃ O' : Lab, Bs w A w' O')) ?_ ?_
  ·
   refine ewp_block (ewp_rng (σ := Unit) (X := Unit) (x0.gens.length) hL56 rfl l54 (fun (s57 : Unit) (x58 : Unit) => [(30, (.slice A22 x0.gens.length c23))]) _ (fun s57 x58 w' => ∃ O' : Lab, Bs w A w' O' ∧ Vb w' (Fr 0 w' O') (.slice A22 x0.gens.length c23) x0.gens) _ () ⟨O50, hB, h21⟩ ⟨rfl, rfl, rfl, trivial⟩ (fun _ _ => ⟨rfl, rfl⟩) (fun _ _ => trivial) (fun _ _ _ ⟨O', hB, h21⟩ => ⟨O', hB⟩) ⟨rfl, rfl, rfl⟩ ⟨rfl, rfl⟩ ?_)
   rintro k59 a60 s57 x58 w61 cc63 hx64 ⟨O62, hB, h21⟩ hf65 hret66 hbrk67
   have rk59 : inI64 (k59 : Int) := rngK hx64 l54
   refine ewp_seq (ewp_region ?_)
   obtain ⟨b70, o71, ce72, hA73, hl74, hd75, v77, v78, v79, rfl, h80, h83, h86⟩ := h21.elem' hx64
   obtain ⟨A81, c82, rfl⟩ := h80.form
   obtain ⟨A84, c85, rfl⟩ := h83.form
   obtain ⟨A87, c88, rfl⟩ := h86.form
   refine o_iaE (hA := hA73) (hj := rfl) (hlt := hl74) rfl rfl rfl ?_
   refine o_la (hl := rfl) (hc := hd75) rfl rfl ?_
   refine l_alloc 3 O62 rfl fun g89 w90 O91 S92 h93 => ?_
   refine l_store h93 rfl rfl rfl (Nat.le_of_ble_eq_true rfl) (by first | exact allOne rfl | simp [Value.cells, Value.oneCell', errV_one]) fun w94 S95 h93 => ?_
   replace h93 : Lc 3 w94 O91 g89 29 [(.slice A81 a60.vars.length c82), (.slice A84 a60.vals.length c85), (.slice A87 a60.ops.length c88)] := h93
   refine o_z ?_
   refine ewp_seq (ewp_region (o_la (hl := rfl) (hc := (h93.1).cellsAt) rfl rfl ?_))
   obtain ⟨q96, e97, hf65⟩ := bs hf65
   replace h80 := (h80.st S92).st S95
   replace h83 := (h83.st S92).st S95
   replace h86 := (h86.st S92).st S95
   refine l_callA (O := O91) (A := All w94) (R := fun w' F v => Vb w' F v q96) (c_law51_long (fun _ h => h) (Vb.mono (F := Fr 0 w94 O91) (Vb.ofAgg (cs := [(.slice A81 a60.vars.length c82), (.slice A84 a60.vals.length c85), (.slice A87 a60.ops.length c88)]) (x := a60) rfl ⟨_, _, _, rfl, h80, h83, h86⟩) Fr.lt) e97) rfl rfl fun v102 w98 O99 S100 h101 => ?_
   obtain rfl := h101.bool
   cases q96
   case false =>
    replace hf65 := iF hf65
    refine o_z ?_
    refine ewp_false rfl (ewp_skip ?_)
    obtain rfl := sm hf65
    refine (?_ : Exists _)
    replace hB := ((hB.st S92).st S95).st S100
    replace h21 := ((h21.st S92).st S95).st S100
    exact ⟨_, (), rfl, ⟨rfl, rfl, rfl, trivial⟩, _, hB, h21⟩
   replace hf65 := iT hf65
   refine o_z ?_
   refine ewp_true rfl (ewp_seq (ewp_region (o_as rfl rfl (o_z ?_))))
   refine ewp_ret ?_
   obtain rfl := sm hf65
   obtain rfl := hret66 _ rfl
   obtain rfl := sm (fin_ret hm)
   replace hB := ((hB.st S92).st S95).st S100
   exact ret1v rfl (res_tmp rfl) ⟨hB.ext, vBool⟩
  rintro l103 w104 ⟨s107, x108, rfl, hs106, O105, hB⟩
  replace hm := fin_done hm
  refine ewp_sub _ hs106 ?_
  refine ewp_seq (ewp_region (o_as rfl rfl (o_z ?_)))
  refine ewp_ret ?_
  obtain rfl := sm hm
  exact ret1v rfl (res_tmp rfl) ⟨hB.ext, vBool⟩
noncomputable def m_law51_SymmetryCanonical (x0 : Qst) (x1 : Int) : Option Bool :=
  bnd (bnd (m_law51_large x0) fun q37 => if q37 = true then some true else bnd (m_law51_awake) fun q44 => if q44 = true then some false else some true : Option Bool) fun y33 => if y33 = true then (bnd (bnd (m_law51_awake) fun q60 => if q60 = true then some true else some false : Option Bool) fun y56 => some y56) else (bnd (m_ref05_Check (⟨x0.task.vars, x0.task.init, x0.task.goal, x0.task.ops⟩ : Tsk)) fun q78 => bnd (rng (ρ := Bool) (fun (k92 : Nat) (a93 : Swp) (s90 : Int) => bnd (if s90 = 0 then (bnd (m_ref51_Check (⟨x0.task.vars, x0.task.init, x0.task.goal, x0.task.ops⟩ : Tsk) a93) fun q136 => if q136 = true then some false else some true) else (some false) : Option Bool) fun y131 => if y131 = true then (some (.next 2)) else (some (.next s90))) x0.gens 0 q78) fun res88 => fin res88 fun (s152 : Int) => bnd (bnd (if s152 = 0 then (bnd (m_base_State x0.task.vars x0.state) fun q164 => if q164 = true then some false else some true) else (some false) : Option Bool) fun y159 => if y159 = true then (some 2) else (some s152) : Option Int) fun y154 => bnd (if y154 = 0 then (bnd (m_base_Small (⟨x0.task.vars, x0.task.init, x0.task.goal, x0.task.ops⟩ : Tsk)) fun q185 => if q185 = true then some false else some true) else (some false) : Option Bool) fun y180 => if y180 = true then (some true) else (bnd (m_symmetry_Canonical (⟨x0.task.vars, x0.task.init, x0.task.goal, x0.task.ops⟩ : Tsk) x0.gens x0.state) fun q197 => bnd (m_symmetry_Orbit (⟨x0.task.vars, x0.task.init, x0.task.goal, x0.task.ops⟩ : Tsk) x0.gens x0.state x1) fun q215 => if y154 ≠ 0 then (bnd (bnd (m_base_Num (⟨q197.2.2.n⟩ : Err)) fun q234 => if q234 = y154 then (bnd (m_base_Num (⟨q215.2.n⟩ : Err)) fun q243 => if q243 = y154 then (bnd (chkI ((q197.1.length : Int) + (q197.2.1.length : Int))) fun n256 => bnd (chkI (n256 + (q215.1.length : Int))) fun n261 => if n261 = 0 then (some true) else (some false)) else (some false)) else (some false) : Option Bool) fun y230 => some y230) else (bnd (m_ref51_Canonical x0.gens x0.state) fun q269 => bnd (if q197.2.2.n ≠ 0 then (some true) else (bnd (m_base_Ints q197.1 q269.1) fun q289 => if q289 = true then bnd (m_base_Ints q197.2.1 q269.2) fun q296 => if q296 = true then some false else some true else some true) : Option Bool) fun y284 => if y284 = true then (some false) else (bnd (m_ref51_Orbit x0.task.vars x0.gens x0.state) fun q308 => bnd (m_base_Clip x1 0 65536) fun q319 => if q319 < (q308.length : Int) then (bnd (bnd (m_base_Is (⟨q215.2.n⟩ : Err) 10) fun q332 => if q332 = true then if (q215.1.length : Int) = 0 then (some true) else (some false) else some false : Option Bool) fun y328 => some y328) else (bnd (if q215.2.n ≠ 0 then (some true) else (if (q215.1.length : Int) ≠ (q308.length : Int) then (some true) else (some false)) : Option Bool) fun y346 => if y346 = true then (some false) else (bnd (rng (ρ := Bool) (fun (k367 : Nat) (a368 : List Int) (s365 : Unit) => bnd (q308[k367]?) fun a389 => bnd (m_base_Ints a368 a389) fun q402 => if q402 = true then some (.next ()) else some (.ret false)) q215.1 0 ()) fun res363 => fin res363 fun (s413 : Unit) => some true))))))
theorem c_law51_SymmetryCanonical {w : World} {A : Nat → Prop} (hA : ∀ k, A k → k < w.heap.size) {vx0 : Value} {x0 : Qst} (hx0 : Vb w A vx0 x0) {x1 : Int} (rx1 : inI64 x1) {r : Bool} (hm : m_law51_SymmetryCanonical x0 x1 = some r) :
    Fn Try.prog 6 [vx0, (.int .i64 x1)] w fun v w' => Ext w w' ∧ Vb w' (upA A w w') v r := by
 obtain ⟨O, hB, hA0⟩ := enter hA
 replace hx0 := hx0.mono hA0
 obtain ⟨cs3, rfl, v4, v5, v6, v7, v8, v9, rfl, h10, h13, h16, h19, h22, h25⟩ := hx0
 obtain ⟨A11, c12, rfl⟩ := h10.form
 obtain ⟨A14, c15, rfl⟩ := h13.form
 obtain ⟨A17, c18, rfl⟩ := h16.form
 obtain ⟨A20, c21, rfl⟩ := h19.form
 obtain ⟨A23, c24, rfl⟩ := h22.form
 obtain ⟨A26, c27, rfl⟩ := h25.form
 refine fn_enter Try.func6 rfl Try.ntmps6 rfl ?_
 unfold m_law51_SymmetryCanonical at hm
 refine ewp_seq (ewp_region (l_box 2 O rfl rfl fun g28 w29 O30 S31 h32 => ?_))
 replace h32 : Lc 2 w29 O30 g28 54 [(.slice A11 x0.task.vars.length c12), (.slice A14 x0.task.init.length c15), (.slice A17 x0.task.goal.length c18), (.slice A20 x0.task.ops.length c21), (.slice A23 x0.gens.length c24), (.slice A26 x0.state.length c27)] := h32
 refine o_as rfl rfl (o_z ?_)
 refine ewp_seq (ewp_seq ?_)
 obtain ⟨y33, hy34, hm⟩ := bs hm
 refine ewp_join (fun l' w' => ∃ (x36 : Unit) (O' : Lab), subs l' [(1, (.int .i64 x1)), (2, (.pointer (some ⟨g28, 0, none⟩))), (23, (.bool y33))] ∧ Bs w A w' O' ∧ Lc 2 w' O' g28 54 [(.slice A11 x0.task.vars.length c12), (.slice A14 x0.task.init.length c15), (.slice A17 x0.task.goal.length c18), (.slice A20 x0.task.ops.length c21), (.slice A23 x0.gens.length c24), (.slice A26 x0.state.length c27)] ∧ Vb w' (Fr 0 w' O') (.slice A11 x0.task.vars.length c12) x0.task.vars ∧ Vb w' (Fr 0 w' O') (.slice A14 x0.task.init.length c15) x0.task.init ∧ Vb w' (Fr 0 w' O') (.slice A17 x0.task.goal.length c18) x0.task.goal ∧ Vb w' (Fr 0 w' O') (.slice A20 x0.task.ops.length c21) x0.task.ops ∧ Vb w' (Fr 0 w' O') (.slice A23 x0.gens.length c24) x0.gens ∧ Vb w' (Fr 0 w' O') (.slice A26 x0.state.length c27) x0.state) ?_ ?_
 ·
  refine ewp_region (o_la (hl := rfl) (hc := (h32.1).cellsAt) rfl rfl ?_)
  obtain ⟨q37, e38, hy34⟩ := bs hy34
  replace h10 := h10.st S31
  replace h13 := h13.st S31
  replace h16 := h16.st S31
  replace h19 := h19.st S31
  replace h22 := h22.st S31
  replace h25 := h25.st S31
  refine l_callA (O := O30) (A := All w29) (R := fun w' F v => Vb w' F v q37) (c_law51_large (fun _ h => h) (Vb.mono (F := Fr 0 w29 O30) (Vb.ofAgg (cs := [(.slice A11 x0.task.vars.length c12), (.slice A14 x0.task.init.length c15), (.slice A17 x0.task.goal.length c18), (.slice A20 x0.task.ops.length c21), (.slice A23 x0.gens.length c24), (.slice A26 x0.state.length c27)]) (x := x0) rfl ⟨_, _, _, _, _, _, rfl, h10, h13, h16, h19, h22, h25⟩) Fr.lt) e38) rfl rfl fun v43 w39 O40 S41 h42 => ?_
  obtain rfl := h42.bool
  cases q37
  case false =>
   replace hy34 := iF hy34
   refine o_mv rfl rfl (owp_yes rfl rfl ?_)
   obtain ⟨q44, e45, hy34⟩ := bs hy34
   refine l_callA (O := O40) (A := All w39) (R := fun w' F v => Vb w' F v q44) (c_law51_awake (fun _ h => h)  e45) rfl rfl fun v50 w46 O47 S48 h49 => ?_
   obtain rfl := h49.bool
   cases q44
   case false =>
    replace hy34 := iF hy34
    refine owp_yes rfl rfl (o_nf rfl rfl (o_pf rfl rfl rfl (o_z ?_)))
    obtain rfl := sm hy34
    replace hB := ((hB.st S31).st S41).st S48
    replace h10 := (h10.st S41).st S48
    replace h13 := (h13.st S41).st S48
    replace h16 := (h16.st S41).st S48
    replace h19 := (h19.st S41).st S48
    replace h22 := (h22.st S41).st S48
    replace h25 := (h25.st S41).st S48
    replace h32 := (h32.st S41).st S48
    exact ⟨(), _, ⟨rfl, rfl, rfl, trivial⟩, hB, h32, h10, h13, h16, h19, h22, h25⟩
   replace hy34 := iT hy34
   refine owp_yes rfl rfl (o_nt rfl rfl (o_pf rfl rfl rfl (o_z ?_)))
   obtain rfl := sm hy34
   replace hB := ((hB.st S31).st S41).st S48
   replace h10 := (h10.st S41).st S48
   replace h13 := (h13.st S41).st S48
   replace h16 := (h16.st S41).st S48
   replace h19 := (h19.st S41).st S48
   replace h22 := (h22.st S41).st S48
   replace h25 := (h25.st S41).st S48
   replace h32 := (h32.st S41).st S48
   exact ⟨(), _, ⟨rfl, rfl, rfl, trivial⟩, hB, h32, h10, h13, h16, h19, h22, h25⟩
  replace hy34 := iT hy34
  refine o_mv rfl rfl (owp_no rfl rfl rfl rfl (owp_no rfl rfl rfl rfl (o_pt rfl rfl rfl (o_z ?_))))
  obtain rfl := sm hy34
  replace hB := (hB.st S31).st S41
  replace h10 := h10.st S41
  replace h13 := h13.st S41
  replace h16 := h16.st S41
  replace h19 := h19.st S41
  replace h22 := h22.st S41
  replace h25 := h25.st S41
  replace h32 := h32.st S41
  exact ⟨(), _, ⟨rfl, rfl, rfl, trivial⟩, hB, h32, h10, h13, h16, h19, h22, h25⟩
 replace hB := hB.st S31
 replace h10 := h10.st S31
 replace h13 := h13.st S31
 replace h16 := h16.st S31
 replace h19 := h19.st S31
 replace h22 := h22.st S31
 replace h25 := h25.st S31
 rintro l51 w52 ⟨x36, O53, hs54, hB, h32, h10, h13, h16, h19, h22, h25⟩
 refine ewp_sub _ hs54 ?_
 refine ewp_cond rfl (fun c55 => ?_) (fun c55 => ?_)
 ·
  replace hm := ip hm c55
  refine ewp_seq ?_
  obtain ⟨y56, hy57, hm⟩ := bs hm
  refine ewp_join (fun l' w' => ∃ (x59 : Unit) (O' : Lab), subs l' [(4, (.bool y56))] ∧ Bs w A w' O') ?_ ?_
  ·
   refine ewp_region ?_
   obtain ⟨q60, e61, hy57⟩ := bs hy57
   refine l_callA (O := O53) (A := All w52) (R := fun w' F v => Vb w' F v q60) (c_law51_awake (fun _ h => h)  e61) rfl rfl fun v66 w62 O63 S64 h65 => ?_
   obtain rfl := h65.bool
   cases q60
   case false =>
    replace hy57 := iF hy57
    refine o_as rfl rfl (o_z ?_)
    obtain rfl := sm hy57
    replace hB := hB.st S64
    exact ⟨(), _, ⟨rfl, trivial⟩, hB⟩
   replace hy57 := iT hy57
   refine o_as rfl rfl (o_z ?_)
   obtain rfl := sm hy57
   replace hB := hB.st S64
   exact ⟨(), _, ⟨rfl, trivial⟩, hB⟩
  rintro l67 w68 ⟨x59, O69, hs70, hB⟩
  refine ewp_sub _ hs70 ?_
  refine ewp_ret ?_
  obtain rfl := sm hm
  exact ret1v rfl (res_tmp rfl) ⟨hB.ext, vBool⟩
 ·
  replace hm := im' hm c55
  refine ewp_skip (ewp_seq (ewp_region (o_fa rfl rfl (o_la (hl := rfl) (hc := (cellsAt_part 0 4 (h32.1).cellsAt)) rfl rfl ?_))))
  refine l_alloc 3 O53 rfl fun g71 w72 O73 S74 h75 => ?_
  refine l_store h75 rfl rfl rfl (Nat.le_of_ble_eq_true rfl) (by first | exact allOne rfl | simp [Value.cells, Value.oneCell', errV_one]) fun w76 S77 h75 => ?_
  replace h75 : Lc 3 w76 O73 g71 26 [(.slice A11 x0.task.vars.length c12), (.slice A14 x0.task.init.length c15), (.slice A17 x0.task.goal.length c18), (.slice A20 x0.task.ops.length c21)] := h75
  refine o_z ?_
  refine ewp_seq (ewp_region (o_la (hl := rfl) (hc := (h75.1).cellsAt) rfl rfl ?_))
  obtain ⟨q78, e79, hm⟩ := bs hm
  replace h10 := (h10.st S74).st S77
  replace h13 := (h13.st S74).st S77
  replace h16 := (h16.st S74).st S77
  replace h19 := (h19.st S74).st S77
  refine l_callA (O := O73) (A := All w76) (R := fun w' F v => Vb w' F v q78) (c_ref05_Check (fun _ h => h) (Vb.mono (F := Fr 0 w76 O73) (Vb.ofAgg (cs := [(.slice A11 x0.task.vars.length c12), (.slice A14 x0.task.init.length c15), (.slice A17 x0.task.goal.length c18), (.slice A20 x0.task.ops.length c21)]) (x := (⟨x0.task.vars, x0.task.init, x0.task.goal, x0.task.ops⟩ : Tsk)) rfl ⟨_, _, _, _, rfl, h10, h13, h16, h19⟩) Fr.lt) e79) rfl rfl fun v84 w80 O81 S82 h83 => ?_
  obtain ⟨rfl, r85⟩ := h83.int
  refine o_as rfl rfl (o_z ?_)
  refine ewp_seq (ewp_seq (ewp_region (o_fa rfl rfl ?_)))
  replace h32 := ((h32.st S74).st S77).st S82
  refine o_ld (hc := Blk.cell (i := 4) (h32.1) rfl) rfl rfl ?_
  refine o_ln rfl rfl ?_
  replace h22 := ((h22.st S74).st S77).st S82
  have l87 : x0.gens.length ≤ 9223372036854775807 := Nat.le_trans h22.len.2.1 h22.len.2.2
  have r86 : inI64 (x0.gens.length : Int) := rngNat l87
  refine o_mv rfl rfl (o_z ?_)
  obtain ⟨res88, hL89, hm⟩ := bs hm
  refine ewp_join (aft res88 (fun (s90 : Int) (x91 : Unit) => [(1, (.int .i64 x1)), (2, (.pointer (some ⟨g28, 0, none⟩))), (5, (.pointer (some ⟨g71, 0, none⟩))), (6, (.int .i64 s90))]) (fun s90 x91 w' => ∃ O' : Lab, Bs w A w' O' ∧ Lc 2 w' O' g28 54 [(.slice A11 x0.task.vars.length c12), (.slice A14 x0.task.init.length c15), (.slice A17 x0.task.goal.length c18), (.slice A20 x0.task.ops.length c21), (.slice A23 x0.gens.length c24), (.slice A26 x0.state.length c27)] ∧ Vb w' (Fr 0 w' O') (.slice A11 x0.task.vars.length c12) x0.task.vars ∧ Vb w' (Fr 0 w' O') (.slice A14 x0.task.init.length c15) x0.task.init ∧ Vb w' (Fr 0 w' O') (.slice A17 x0.task.goal.length c18) x0.task.goal ∧ Vb w' (Fr 0 w' O') (.slice A20 x0.task.ops.length c21) x0.task.ops ∧ Vb w' (Fr 0 w' O') (.slice A23 x0.gens.length c24) x0.gens ∧ Vb w' (Fr 0 w' O') (.slice A26 x0.state.length c27) x0.state ∧ Lc 3 w' O' g71 26 [(.slice A11 x0.task.vars.length c12), (.slice A14 x0.task.init.length c15), (.slice A17 x0.task.goal.length c18), (.slice A20 x0.task.ops.length c21)] ∧ inI64 s90)) ?_ ?_
  ·
   refine ewp_block ?_
   replace hB := ((hB.st S74).st S77).st S82
   replace h10 := h10.st S82
   replace h13 := h13.st S82
   replace h16 := h16.st S82
   replace h19 := h19.st S82
   replace h25 := ((h25.st S74).st S77).st S82
   replace h75 := h75.st S82
   refine ewp_rng (σ := Int) (X := Unit) (x0.gens.length) hL89 rfl l87 (fun (s90 : Int) (x91 : Unit) => [(1, (.int .i64 x1)), (2, (.pointer (some ⟨g28, 0, none⟩))), (5, (.pointer (some ⟨g71, 0, none⟩))), (6, (.int .i64 s90)), (30, (.slice A23 x0.gens.length c24))]) _ (fun s90 x91 w' => ∃ O' : Lab, Bs w A w' O' ∧ Lc 2 w' O' g28 54 [(.slice A11 x0.task.vars.length c12), (.slice A14 x0.task.init.length c15), (.slice A17 x0.task.goal.length c18), (.slice A20 x0.task.ops.length c21), (.slice A23 x0.gens.length c24), (.slice A26 x0.state.length c27)] ∧ Vb w' (Fr 0 w' O') (.slice A11 x0.task.vars.length c12) x0.task.vars ∧ Vb w' (Fr 0 w' O') (.slice A14 x0.task.init.length c15) x0.task.init ∧ Vb w' (Fr 0 w' O') (.slice A17 x0.task.goal.length c18) x0.task.goal ∧ Vb w' (Fr 0 w' O') (.slice A20 x0.task.ops.length c21) x0.task.ops ∧ Vb w' (Fr 0 w' O') (.slice A23 x0.gens.length c24) x0.gens ∧ Vb w' (Fr 0 w' O') (.slice A26 x0.state.length c27) x0.state ∧ Lc 3 w' O' g71 26 [(.slice A11 x0.task.vars.length c12), (.slice A14 x0.task.init.length c15), (.slice A17 x0.task.goal.length c18), (.slice A20 x0.task.ops.length c21)] ∧ inI64 s90) _ () ⟨O81, hB, h32, h10, h13, h16, h19, h22, h25, h75, r85⟩ ⟨rfl, rfl, rfl, rfl, rfl, rfl, rfl, trivial⟩ (fun _ _ => ⟨rfl, rfl⟩) (fun _ _ => ⟨rfl, rfl, rfl, rfl, trivial⟩) (fun _ _ _ ⟨O', hB, h32, h10, h13, h16, h19, h22, h25, h75, r104⟩ => ⟨O', hB, h32, h10, h13, h16, h19, h22, h25, h75, r104⟩) ⟨rfl, rfl, rfl⟩ ⟨rfl, rfl⟩ ?_
   rintro k92 a93 s90 x91 w94 cc96 hx97 ⟨O95, hB, h32, h10, h13, h16, h19, h22, h25, h75, r104⟩ hf98 hret99 hbrk100
   have rk92 : inI64 (k92 : Int) := rngK hx97 l87
   refine ewp_seq (ewp_region ?_)
   obtain ⟨b105, o106, ce107, hA108, hl109, hd110, v112, v113, v114, rfl, h115, h118, h121⟩ := h22.elem' hx97
   obtain ⟨A116, c117, rfl⟩ := h115.form
   obtain ⟨A119, c120, rfl⟩ := h118.form
   obtain ⟨A122, c123, rfl⟩ := h121.form
   refine o_iaE (hA := hA108) (hj := rfl) (hlt := hl109) rfl rfl rfl ?_
   refine o_la (hl := rfl) (hc := hd110) rfl rfl ?_
   refine l_alloc 4 O95 rfl fun g124 w125 O126 S127 h128 => ?_
   refine l_store h128 rfl rfl rfl (Nat.le_of_ble_eq_true rfl) (by first | exact allOne rfl | simp [Value.cells, Value.oneCell', errV_one]) fun w129 S130 h128 => ?_
   replace h128 : Lc 4 w129 O126 g124 29 [(.slice A116 a93.vars.length c117), (.slice A119 a93.vals.length c120), (.slice A122 a93.ops.length c123)] := h128
   refine o_z ?_
   refine ewp_seq ?_
   obtain ⟨y131, hy132, hf98⟩ := bs hf98
   refine ewp_join (fun l' w' => ∃ (x134 : Unit) (O' : Lab), subs l' [(1, (.int .i64 x1)), (2, (.pointer (some ⟨g28, 0, none⟩))), (5, (.pointer (some ⟨g71, 0, none⟩))), (6, (.int .i64 s90)), (30, (.slice A23 x0.gens.length c24)), (31, (.int .i64 (x0.gens.length : Int))), (32, (.int .i64 (k92 : Int))), (43, (.bool y131))] ∧ Bs w A w' O' ∧ Lc 2 w' O' g28 54 [(.slice A11 x0.task.vars.length c12), (.slice A14 x0.task.init.length c15), (.slice A17 x0.task.goal.length c18), (.slice A20 x0.task.ops.length c21), (.slice A23 x0.gens.length c24), (.slice A26 x0.state.length c27)] ∧ Vb w' (Fr 0 w' O') (.slice A11 x0.task.vars.length c12) x0.task.vars ∧ Vb w' (Fr 0 w' O') (.slice A14 x0.task.init.length c15) x0.task.init ∧ Vb w' (Fr 0 w' O') (.slice A17 x0.task.goal.length c18) x0.task.goal ∧ Vb w' (Fr 0 w' O') (.slice A20 x0.task.ops.length c21) x0.task.ops ∧ Vb w' (Fr 0 w' O') (.slice A23 x0.gens.length c24) x0.gens ∧ Vb w' (Fr 0 w' O') (.slice A26 x0.state.length c27) x0.state ∧ Lc 3 w' O' g71 26 [(.slice A11 x0.task.vars.length c12), (.slice A14 x0.task.init.length c15), (.slice A17 x0.task.goal.length c18), (.slice A20 x0.task.ops.length c21)]) ?_ ?_
   ·
    refine ewp_region (o_mv rfl rfl (o_eeS rfl rfl rfl (fun c135 => ?_) fun c135 => ?_))
    ·
     replace hy132 := ip hy132 c135
     refine o_mv rfl rfl (owp_yes rfl rfl ?_)
     replace h75 := (h75.st S127).st S130
     refine o_la (hl := rfl) (hc := (h75.1).cellsAt) rfl rfl ?_
     refine owp_yes rfl rfl (o_la (hl := rfl) (hc := (h128.1).cellsAt) rfl rfl ?_)
     refine owp_yes rfl rfl ?_
     obtain ⟨q136, e137, hy132⟩ := bs hy132
     replace h10 := (h10.st S127).st S130
     replace h13 := (h13.st S127).st S130
     replace h16 := (h16.st S127).st S130
     replace h19 := (h19.st S127).st S130
     replace h115 := (h115.st S127).st S130
     replace h118 := (h118.st S127).st S130
     replace h121 := (h121.st S127).st S130
     refine l_callA (O := O126) (A := All w129) (R := fun w' F v => Vb w' F v q136) (c_ref51_Check (fun _ h => h) (Vb.mono (F := Fr 0 w129 O126) (Vb.ofAgg (cs := [(.slice A11 x0.task.vars.length c12), (.slice A14 x0.task.init.length c15), (.slice A17 x0.task.goal.length c18), (.slice A20 x0.task.ops.length c21)]) (x := (⟨x0.task.vars, x0.task.init, x0.task.goal, x0.task.ops⟩ : Tsk)) rfl ⟨_, _, _, _, rfl, h10, h13, h16, h19⟩) Fr.lt) (Vb.mono (F := Fr 0 w129 O126) (Vb.ofAgg (cs := [(.slice A116 a93.vars.length c117), (.slice A119 a93.vals.length c120), (.slice A122 a93.ops.length c123)]) (x := a93) rfl ⟨_, _, _, rfl, h115, h118, h121⟩) Fr.lt) e137) rfl rfl fun v142 w138 O139 S140 h141 => ?_
     obtain rfl := h141.bool
     cases q136
     case false =>
      replace hy132 := iF hy132
      refine owp_yes rfl rfl (o_nf rfl rfl (o_pt rfl rfl rfl (o_z ?_)))
      obtain rfl := sm hy132
      replace hB := ((hB.st S127).st S130).st S140
      replace h10 := h10.st S140
      replace h13 := h13.st S140
      replace h16 := h16.st S140
      replace h19 := h19.st S140
      replace h22 := ((h22.st S127).st S130).st S140
      replace h25 := ((h25.st S127).st S130).st S140
      replace h32 := ((h32.st S127).st S130).st S140
      replace h75 := h75.st S140
      exact ⟨(), _, ⟨rfl, rfl, rfl, rfl, rfl, rfl, rfl, rfl, trivial⟩, hB, h32, h10, h13, h16, h19, h22, h25, h75⟩
     replace hy132 := iT hy132
     refine owp_yes rfl rfl (o_nt rfl rfl (o_pt rfl rfl rfl (o_z ?_)))
     obtain rfl := sm hy132
     replace hB := ((hB.st S127).st S130).st S140
     replace h10 := h10.st S140
     replace h13 := h13.st S140
     replace h16 := h16.st S140
     replace h19 := h19.st S140
     replace h22 := ((h22.st S127).st S130).st S140
     replace h25 := ((h25.st S127).st S130).st S140
     replace h32 := ((h32.st S127).st S130).st S140
     replace h75 := h75.st S140
     exact ⟨(), _, ⟨rfl, rfl, rfl, rfl, rfl, rfl, rfl, rfl, trivial⟩, hB, h32, h10, h13, h16, h19, h22, h25, h75⟩
    ·
     replace hy132 := im hy132 c135
     refine o_mv rfl rfl (owp_no rfl rfl rfl rfl (owp_no rfl rfl rfl rfl (owp_no rfl rfl rfl rfl (owp_no rfl rfl rfl rfl (o_pf rfl rfl rfl (o_z ?_))))))
     obtain rfl := sm hy132
     replace hB := (hB.st S127).st S130
     replace h10 := (h10.st S127).st S130
     replace h13 := (h13.st S127).st S130
     replace h16 := (h16.st S127).st S130
     replace h19 := (h19.st S127).st S130
     replace h22 := (h22.st S127).st S130
     replace h25 := (h25.st S127).st S130
     replace h32 := (h32.st S127).st S130
     replace h75 := (h75.st S127).st S130
     exact ⟨(), _, ⟨rfl, rfl, rfl, rfl, rfl, rfl, rfl, rfl, trivial⟩, hB, h32, h10, h13, h16, h19, h22, h25, h75⟩
   replace hB := (hB.st S127).st S130
   replace h10 := (h10.st S127).st S130
   replace h13 := (h13.st S127).st S130
   replace h16 := (h16.st S127).st S130
   replace h19 := (h19.st S127).st S130
   replace h22 := (h22.st S127).st S130
   replace h25 := (h25.st S127).st S130
   replace h32 := (h32.st S127).st S130
   replace h75 := (h75.st S127).st S130
   rintro l143 w144 ⟨x134, O145, hs146, hB, h32, h10, h13, h16, h19, h22, h25, h75⟩
   refine ewp_sub _ hs146 ?_
   refine ewp_cond rfl (fun c147 => ?_) (fun c147 => ?_)
   ·
    replace hf98 := ip hf98 c147
    refine ewp_region (o_as rfl rfl (o_z ?_))
    obtain rfl := sm hf98
    refine (?_ : Exists _)
    exact ⟨_, (), rfl, ⟨rfl, rfl, rfl, rfl, rfl, rfl, rfl, trivial⟩, _, hB, h32, h10, h13, h16, h19, h22, h25, h75, (show inI64 (2) from by decide)⟩
   ·
    replace hf98 := im' hf98 c147
    refine ewp_skip ?_
    obtain rfl := sm hf98
    refine (?_ : Exists _)
    exact ⟨_, (), rfl, ⟨rfl, rfl, rfl, rfl, rfl, rfl, rfl, trivial⟩, _, hB, h32, h10, h13, h16, h19, h22, h25, h75, r104⟩
  replace hB := ((hB.st S74).st S77).st S82
  replace h10 := h10.st S82
  replace h13 := h13.st S82
  replace h16 := h16.st S82
  replace h19 := h19.st S82
  replace h25 := ((h25.st S74).st S77).st S82
  replace h75 := h75.st S82
  rintro l148 w149 ⟨s152, x153, rfl, hs151, O150, hB, h32, h10, h13, h16, h19, h22, h25, h75, r104⟩
  replace hm := fin_done hm
  refine ewp_sub _ hs151 ?_
  refine ewp_seq ?_
  obtain ⟨y154, hy155, hm⟩ := bs hm
  refine ewp_join (fun l' w' => ∃ (x157 : Unit) (O' : Lab), subs l' [(1, (.int .i64 x1)), (2, (.pointer (some ⟨g28, 0, none⟩))), (5, (.pointer (some ⟨g71, 0, none⟩))), (6, (.int .i64 y154))] ∧ Bs w A w' O' ∧ Lc 2 w' O' g28 54 [(.slice A11 x0.task.vars.length c12), (.slice A14 x0.task.init.length c15), (.slice A17 x0.task.goal.length c18), (.slice A20 x0.task.ops.length c21), (.slice A23 x0.gens.length c24), (.slice A26 x0.state.length c27)] ∧ Vb w' (Fr 0 w' O') (.slice A11 x0.task.vars.length c12) x0.task.vars ∧ Vb w' (Fr 0 w' O') (.slice A14 x0.task.init.length c15) x0.task.init ∧ Vb w' (Fr 0 w' O') (.slice A17 x0.task.goal.length c18) x0.task.goal ∧ Vb w' (Fr 0 w' O') (.slice A20 x0.task.ops.length c21) x0.task.ops ∧ Vb w' (Fr 0 w' O') (.slice A23 x0.gens.length c24) x0.gens ∧ Vb w' (Fr 0 w' O') (.slice A26 x0.state.length c27) x0.state ∧ Lc 3 w' O' g71 26 [(.slice A11 x0.task.vars.length c12), (.slice A14 x0.task.init.length c15), (.slice A17 x0.task.goal.length c18), (.slice A20 x0.task.ops.length c21)] ∧ inI64 y154) ?_ ?_
  ·
   refine ewp_seq ?_
   obtain ⟨y159, hy160, hy155⟩ := bs hy155
   refine ewp_join (fun l' w' => ∃ (x162 : Unit) (O' : Lab), subs l' [(1, (.int .i64 x1)), (2, (.pointer (some ⟨g28, 0, none⟩))), (5, (.pointer (some ⟨g71, 0, none⟩))), (6, (.int .i64 s152)), (54, (.bool y159))] ∧ Bs w A w' O' ∧ Lc 2 w' O' g28 54 [(.slice A11 x0.task.vars.length c12), (.slice A14 x0.task.init.length c15), (.slice A17 x0.task.goal.length c18), (.slice A20 x0.task.ops.length c21), (.slice A23 x0.gens.length c24), (.slice A26 x0.state.length c27)] ∧ Vb w' (Fr 0 w' O') (.slice A11 x0.task.vars.length c12) x0.task.vars ∧ Vb w' (Fr 0 w' O') (.slice A14 x0.task.init.length c15) x0.task.init ∧ Vb w' (Fr 0 w' O') (.slice A17 x0.task.goal.length c18) x0.task.goal ∧ Vb w' (Fr 0 w' O') (.slice A20 x0.task.ops.length c21) x0.task.ops ∧ Vb w' (Fr 0 w' O') (.slice A23 x0.gens.length c24) x0.gens ∧ Vb w' (Fr 0 w' O') (.slice A26 x0.state.length c27) x0.state ∧ Lc 3 w' O' g71 26 [(.slice A11 x0.task.vars.length c12), (.slice A14 x0.task.init.length c15), (.slice A17 x0.task.goal.length c18), (.slice A20 x0.task.ops.length c21)]) ?_ ?_
   ·
    refine ewp_region (o_mv rfl rfl (o_eeS rfl rfl rfl (fun c163 => ?_) fun c163 => ?_))
    ·
     replace hy160 := ip hy160 c163
     refine o_mv rfl rfl (owp_yes rfl rfl (o_fa rfl rfl (owp_yes rfl rfl (o_ld (hc := Blk.cell (i := 0) (h75.1) rfl) rfl rfl ?_))))
     refine owp_yes rfl rfl (o_fa rfl rfl (owp_yes rfl rfl (o_ld (hc := Blk.cell (i := 5) (h32.1) rfl) rfl rfl ?_)))
     refine owp_yes rfl rfl ?_
     obtain ⟨q164, e165, hy160⟩ := bs hy160
     refine l_callA (O := O150) (A := All w149) (R := fun w' F v => Vb w' F v q164) (c_base_State (fun _ h => h) (Vb.mono (F := Fr 0 w149 O150) h10 Fr.lt) (Vb.mono (F := Fr 0 w149 O150) h25 Fr.lt) e165) rfl rfl fun v170 w166 O167 S168 h169 => ?_
     obtain rfl := h169.bool
     cases q164
     case false =>
      replace hy160 := iF hy160
      refine owp_yes rfl rfl (o_nf rfl rfl (o_pt rfl rfl rfl (o_z ?_)))
      obtain rfl := sm hy160
      replace hB := hB.st S168
      replace h10 := h10.st S168
      replace h13 := h13.st S168
      replace h16 := h16.st S168
      replace h19 := h19.st S168
      replace h22 := h22.st S168
      replace h25 := h25.st S168
      replace h32 := h32.st S168
      replace h75 := h75.st S168
      exact ⟨(), _, ⟨rfl, rfl, rfl, rfl, rfl, trivial⟩, hB, h32, h10, h13, h16, h19, h22, h25, h75⟩
     replace hy160 := iT hy160
     refine owp_yes rfl rfl (o_nt rfl rfl (o_pt rfl rfl rfl (o_z ?_)))
     obtain rfl := sm hy160
     replace hB := hB.st S168
     replace h10 := h10.st S168
     replace h13 := h13.st S168
     replace h16 := h16.st S168
     replace h19 := h19.st S168
     replace h22 := h22.st S168
     replace h25 := h25.st S168
     replace h32 := h32.st S168
     replace h75 := h75.st S168
     exact ⟨(), _, ⟨rfl, rfl, rfl, rfl, rfl, trivial⟩, hB, h32, h10, h13, h16, h19, h22, h25, h75⟩
    ·
     replace hy160 := im hy160 c163
     refine o_mv rfl rfl (owp_no rfl rfl rfl rfl (owp_no rfl rfl rfl rfl (owp_no rfl rfl rfl rfl (owp_no rfl rfl rfl rfl (owp_no rfl rfl rfl rfl (owp_no rfl rfl rfl rfl (o_pf rfl rfl rfl (o_z ?_))))))))
     obtain rfl := sm hy160
     exact ⟨(), _, ⟨rfl, rfl, rfl, rfl, rfl, trivial⟩, hB, h32, h10, h13, h16, h19, h22, h25, h75⟩
   rintro l171 w172 ⟨x162, O173, hs174, hB, h32, h10, h13, h16, h19, h22, h25, h75⟩
   refine ewp_sub _ hs174 ?_
   refine ewp_cond rfl (fun c175 => ?_) (fun c175 => ?_)
   ·
    replace hy155 := ip hy155 c175
    refine ewp_region (o_as rfl rfl (o_z ?_))
    obtain rfl := sm hy155
    exact ⟨(), _, ⟨rfl, rfl, rfl, rfl, trivial⟩, hB, h32, h10, h13, h16, h19, h22, h25, h75, (show inI64 (2) from by decide)⟩
   ·
    replace hy155 := im' hy155 c175
    refine ewp_skip ?_
    obtain rfl := sm hy155
    exact ⟨(), _, ⟨rfl, rfl, rfl, rfl, trivial⟩, hB, h32, h10, h13, h16, h19, h22, h25, h75, r104⟩
  rintro l176 w177 ⟨x157, O178, hs179, hB, h32, h10, h13, h16, h19, h22, h25, h75, r158⟩
  refine ewp_sub _ hs179 ?_
  refine ewp_seq (ewp_seq ?_)
  obtain ⟨y180, hy181, hm⟩ := bs hm
  refine ewp_join (fun l' w' => ∃ (x183 : Unit) (O' : Lab), subs l' [(1, (.int .i64 x1)), (2, (.pointer (some ⟨g28, 0, none⟩))), (5, (.pointer (some ⟨g71, 0, none⟩))), (6, (.int .i64 y154)), (61, (.bool y180))] ∧ Bs w A w' O' ∧ Lc 2 w' O' g28 54 [(.slice A11 x0.task.vars.length c12), (.slice A14 x0.task.init.length c15), (.slice A17 x0.task.goal.length c18), (.slice A20 x0.task.ops.length c21), (.slice A23 x0.gens.length c24), (.slice A26 x0.state.length c27)] ∧ Vb w' (Fr 0 w' O') (.slice A11 x0.task.vars.length c12) x0.task.vars ∧ Vb w' (Fr 0 w' O') (.slice A14 x0.task.init.length c15) x0.task.init ∧ Vb w' (Fr 0 w' O') (.slice A17 x0.task.goal.length c18) x0.task.goal ∧ Vb w' (Fr 0 w' O') (.slice A20 x0.task.ops.length c21) x0.task.ops ∧ Vb w' (Fr 0 w' O') (.slice A23 x0.gens.length c24) x0.gens ∧ Vb w' (Fr 0 w' O') (.slice A26 x0.state.length c27) x0.state ∧ Lc 3 w' O' g71 26 [(.slice A11 x0.task.vars.length c12), (.slice A14 x0.task.init.length c15), (.slice A17 x0.task.goal.length c18), (.slice A20 x0.task.ops.length c21)]) ?_ ?_
  ·
   refine ewp_region (o_mv rfl rfl (o_eeS rfl rfl rfl (fun c184 => ?_) fun c184 => ?_))
   ·
    replace hy181 := ip hy181 c184
    refine o_mv rfl rfl (owp_yes rfl rfl (o_la (hl := rfl) (hc := (h75.1).cellsAt) rfl rfl ?_))
    refine owp_yes rfl rfl ?_
    obtain ⟨q185, e186, hy181⟩ := bs hy181
    refine l_callA (O := O178) (A := All w177) (R := fun w' F v => Vb w' F v q185) (c_base_Small (fun _ h => h) (Vb.mono (F := Fr 0 w177 O178) (Vb.ofAgg (cs := [(.slice A11 x0.task.vars.length c12), (.slice A14 x0.task.init.length c15), (.slice A17 x0.task.goal.length c18), (.slice A20 x0.task.ops.length c21)]) (x := (⟨x0.task.vars, x0.task.init, x0.task.goal, x0.task.ops⟩ : Tsk)) rfl ⟨_, _, _, _, rfl, h10, h13, h16, h19⟩) Fr.lt) e186) rfl rfl fun v191 w187 O188 S189 h190 => ?_
    obtain rfl := h190.bool
    cases q185
    case false =>
     replace hy181 := iF hy181
     refine owp_yes rfl rfl (o_nf rfl rfl (o_pt rfl rfl rfl (o_z ?_)))
     obtain rfl := sm hy181
     replace hB := hB.st S189
     replace h10 := h10.st S189
     replace h13 := h13.st S189
     replace h16 := h16.st S189
     replace h19 := h19.st S189
     replace h22 := h22.st S189
     replace h25 := h25.st S189
     replace h32 := h32.st S189
     replace h75 := h75.st S189
     exact ⟨(), _, ⟨rfl, rfl, rfl, rfl, rfl, trivial⟩, hB, h32, h10, h13, h16, h19, h22, h25, h75⟩
    replace hy181 := iT hy181
    refine owp_yes rfl rfl (o_nt rfl rfl (o_pt rfl rfl rfl (o_z ?_)))
    obtain rfl := sm hy181
    replace hB := hB.st S189
    replace h10 := h10.st S189
    replace h13 := h13.st S189
    replace h16 := h16.st S189
    replace h19 := h19.st S189
    replace h22 := h22.st S189
    replace h25 := h25.st S189
    replace h32 := h32.st S189
    replace h75 := h75.st S189
    exact ⟨(), _, ⟨rfl, rfl, rfl, rfl, rfl, trivial⟩, hB, h32, h10, h13, h16, h19, h22, h25, h75⟩
   ·
    replace hy181 := im hy181 c184
    refine o_mv rfl rfl (owp_no rfl rfl rfl rfl (owp_no rfl rfl rfl rfl (owp_no rfl rfl rfl rfl (o_pf rfl rfl rfl (o_z ?_)))))
    obtain rfl := sm hy181
    exact ⟨(), _, ⟨rfl, rfl, rfl, rfl, rfl, trivial⟩, hB, h32, h10, h13, h16, h19, h22, h25, h75⟩
  rintro l192 w193 ⟨x183, O194, hs195, hB, h32, h10, h13, h16, h19, h22, h25, h75⟩
  refine ewp_sub _ hs195 ?_
  refine ewp_cond rfl (fun c196 => ?_) (fun c196 => ?_)
  ·
   replace hm := ip hm c196
   refine ewp_seq (ewp_region (o_as rfl rfl (o_z ?_)))
   refine ewp_ret ?_
   obtain rfl := sm hm
   exact ret1v rfl (res_tmp rfl) ⟨hB.ext, vBool⟩
  ·
   replace hm := im' hm c196
   refine ewp_skip (ewp_seq (ewp_region (o_la (hl := rfl) (hc := (h75.1).cellsAt) rfl rfl ?_)))
   refine o_fa rfl rfl (o_ld (hc := Blk.cell (i := 4) (h32.1) rfl) rfl rfl ?_)
   refine o_fa rfl rfl (o_ld (hc := Blk.cell (i := 5) (h32.1) rfl) rfl rfl ?_)
   obtain ⟨q197, e198, hm⟩ := bs hm
   refine l_call (O := O194) (R := fun w' F v => T3 w' F v q197) (c_symmetry_Canonical Fr.lt (Vb.ofAgg (cs := [(.slice A11 x0.task.vars.length c12), (.slice A14 x0.task.init.length c15), (.slice A17 x0.task.goal.length c18), (.slice A20 x0.task.ops.length c21)]) (x := (⟨x0.task.vars, x0.task.init, x0.task.goal, x0.task.ops⟩ : Tsk)) rfl ⟨_, _, _, _, rfl, h10, h13, h16, h19⟩) h22 h25 e198) rfl rfl fun v203 w199 O200 S201 h202 => ?_
   obtain ⟨v204, v205, v206, rfl, h207, h208, h209⟩ := h202
   obtain ⟨A210, c211, rfl⟩ := h207.form
   obtain ⟨A212, c213, rfl⟩ := h208.form
   obtain ⟨rfl, r214⟩ := h209.err
   refine o_mv rfl rfl (o_ex rfl rfl rfl (o_ex rfl rfl rfl (o_ex rfl rfl rfl (o_as rfl rfl (o_as rfl rfl (o_as rfl rfl (o_z ?_)))))))
   refine ewp_seq (ewp_region ?_)
   replace h75 := h75.st S201
   refine o_la (hl := rfl) (hc := (h75.1).cellsAt) rfl rfl ?_
   refine o_fa rfl rfl ?_
   replace h32 := h32.st S201
   refine o_ld (hc := Blk.cell (i := 4) (h32.1) rfl) rfl rfl ?_
   refine o_fa rfl rfl (o_ld (hc := Blk.cell (i := 5) (h32.1) rfl) rfl rfl ?_)
   refine o_mv rfl rfl ?_
   obtain ⟨q215, e216, hm⟩ := bs hm
   replace h10 := h10.st S201
   replace h13 := h13.st S201
   replace h16 := h16.st S201
   replace h19 := h19.st S201
   replace h22 := h22.st S201
   replace h25 := h25.st S201
   refine l_call (O := O200) (R := fun w' F v => T2 w' F v q215) (c_symmetry_Orbit Fr.lt (Vb.ofAgg (cs := [(.slice A11 x0.task.vars.length c12), (.slice A14 x0.task.init.length c15), (.slice A17 x0.task.goal.length c18), (.slice A20 x0.task.ops.length c21)]) (x := (⟨x0.task.vars, x0.task.init, x0.task.goal, x0.task.ops⟩ : Tsk)) rfl ⟨_, _, _, _, rfl, h10, h13, h16, h19⟩) h22 h25 rx1 e216) rfl rfl fun v221 w217 O218 S219 h220 => ?_
   obtain ⟨v222, v223, rfl, h224, h225⟩ := h220
   obtain ⟨A226, c227, rfl⟩ := h224.form
   obtain ⟨rfl, r228⟩ := h225.err
   refine o_mv rfl rfl (o_ex rfl rfl rfl (o_ex rfl rfl rfl (o_as rfl rfl (o_as rfl rfl (o_z ?_)))))
   refine ewp_seq (ewp_seq (ewp_region (o_mv rfl rfl (o_neS rfl rfl rfl (fun c229 => ?_) fun c229 => ?_))))
   ·
    replace hm := ip hm c229
    refine o_z ?_
    refine ewp_true rfl (ewp_seq ?_)
    obtain ⟨y230, hy231, hm⟩ := bs hm
    refine ewp_join (fun l' w' => ∃ (x233 : Unit) (O' : Lab), subs l' [(4, (.bool y230))] ∧ Bs w A w' O') ?_ ?_
    ·
     refine ewp_region (o_mv rfl rfl ?_)
     obtain ⟨q234, e235, hy231⟩ := bs hy231
     refine l_callA (O := O218) (A := All w217) (R := fun w' F v => Vb w' F v q234) (c_base_Num (fun _ h => h) r214 e235) rfl rfl fun v240 w236 O237 S238 h239 => ?_
     obtain ⟨rfl, r241⟩ := h239.int
     refine o_mv rfl rfl (o_eeS rfl rfl rfl (fun c242 => ?_) fun c242 => ?_)
     ·
      replace hy231 := ip hy231 c242
      refine o_mv rfl rfl (owp_yes rfl rfl (o_mv rfl rfl (owp_yes rfl rfl ?_)))
      obtain ⟨q243, e244, hy231⟩ := bs hy231
      refine l_callA (O := O237) (A := All w236) (R := fun w' F v => Vb w' F v q243) (c_base_Num (fun _ h => h) r228 e244) rfl rfl fun v249 w245 O246 S247 h248 => ?_
      obtain ⟨rfl, r250⟩ := h248.int
      refine owp_yes rfl rfl (o_mv rfl rfl (owp_yes rfl rfl (o_eeS rfl rfl rfl (fun c251 => ?_) fun c251 => ?_)))
      ·
       replace hy231 := ip hy231 c251
       refine o_pt rfl rfl rfl (o_mv rfl rfl (owp_yes rfl rfl (o_mv rfl rfl (owp_yes rfl rfl (o_ln rfl rfl ?_)))))
       replace h207 := ((h207.st S219).st S238).st S247
       have l253 : q197.1.length ≤ 9223372036854775807 := Nat.le_trans h207.len.2.1 h207.len.2.2
       have r252 : inI64 (q197.1.length : Int) := rngNat l253
       refine owp_yes rfl rfl (o_mv rfl rfl (owp_yes rfl rfl (o_ln rfl rfl ?_)))
       replace h208 := ((h208.st S219).st S238).st S247
       have l255 : q197.2.1.length ≤ 9223372036854775807 := Nat.le_trans h208.len.2.1 h208.len.2.2
       have r254 : inI64 (q197.2.1.length : Int) := rngNat l255
       refine owp_yes rfl rfl ?_
       obtain ⟨n256, e257, hy231⟩ := bs hy231
       have r258 := (chkI_rng e257)
       refine o_adE (he := e257) rfl rfl rfl ?_
       refine owp_yes rfl rfl (o_mv rfl rfl (owp_yes rfl rfl (o_ln rfl rfl ?_)))
       replace h224 := (h224.st S238).st S247
       have l260 : q215.1.length ≤ 9223372036854775807 := Nat.le_trans h224.len.2.1 h224.len.2.2
       have r259 : inI64 (q215.1.length : Int) := rngNat l260
       refine owp_yes rfl rfl ?_
       obtain ⟨n261, e262, hy231⟩ := bs hy231
       have r263 := (chkI_rng e262)
       refine o_adE (he := e262) rfl rfl rfl ?_
       refine owp_yes rfl rfl (o_eeS rfl rfl rfl (fun c264 => ?_) fun c264 => ?_)
       ·
        replace hy231 := ip hy231 c264
        refine o_pt rfl rfl rfl (o_as rfl rfl (o_z ?_))
        obtain rfl := sm hy231
        replace hB := (((hB.st S201).st S219).st S238).st S247
        exact ⟨(), _, ⟨rfl, trivial⟩, hB⟩
       ·
        replace hy231 := im hy231 c264
        refine o_pt rfl rfl rfl (o_as rfl rfl (o_z ?_))
        obtain rfl := sm hy231
        replace hB := (((hB.st S201).st S219).st S238).st S247
        exact ⟨(), _, ⟨rfl, trivial⟩, hB⟩
      ·
       replace hy231 := im hy231 c251
       refine o_pt rfl rfl rfl (o_mv rfl rfl (owp_no rfl rfl rfl rfl (owp_no rfl rfl rfl rfl (owp_no rfl rfl rfl rfl (owp_no rfl rfl rfl rfl (owp_no rfl rfl rfl rfl (owp_no rfl rfl rfl rfl (owp_no rfl rfl rfl rfl (owp_no rfl rfl rfl rfl (owp_no rfl rfl rfl rfl (o_pf rfl rfl rfl (o_as rfl rfl (o_z ?_)))))))))))))
       obtain rfl := sm hy231
       replace hB := (((hB.st S201).st S219).st S238).st S247
       exact ⟨(), _, ⟨rfl, trivial⟩, hB⟩
     ·
      replace hy231 := im hy231 c242
      refine o_mv rfl rfl (owp_no rfl rfl rfl rfl (owp_no rfl rfl rfl rfl (owp_no rfl rfl rfl rfl (owp_no rfl rfl rfl rfl (o_pf rfl rfl rfl (o_mv rfl rfl (owp_no rfl rfl rfl rfl (owp_no rfl rfl rfl rfl (owp_no rfl rfl rfl rfl (owp_no rfl rfl rfl rfl (owp_no rfl rfl rfl rfl (owp_no rfl rfl rfl rfl (owp_no rfl rfl rfl rfl (owp_no rfl rfl rfl rfl ?_))))))))))))))
      refine owp_no rfl rfl rfl rfl (o_pf rfl rfl rfl (o_as rfl rfl (o_z ?_)))
      obtain rfl := sm hy231
      replace hB := ((hB.st S201).st S219).st S238
      exact ⟨(), _, ⟨rfl, trivial⟩, hB⟩
    replace hB := (hB.st S201).st S219
    rintro l265 w266 ⟨x233, O267, hs268, hB⟩
    refine ewp_sub _ hs268 ?_
    refine ewp_ret ?_
    obtain rfl := sm hm
    exact ret1v rfl (res_tmp rfl) ⟨hB.ext, vBool⟩
   ·
    replace hm := im hm c229
    refine o_z ?_
    refine ewp_false rfl (ewp_skip (ewp_seq (ewp_region (o_fa rfl rfl ?_))))
    replace h32 := h32.st S219
    refine o_ld (hc := Blk.cell (i := 4) (h32.1) rfl) rfl rfl ?_
    refine o_fa rfl rfl (o_ld (hc := Blk.cell (i := 5) (h32.1) rfl) rfl rfl ?_)
    obtain ⟨q269, e270, hm⟩ := bs hm
    replace h22 := h22.st S219
    replace h25 := h25.st S219
    refine l_call (O := O218) (R := fun w' F v => T2 w' F v q269) (c_ref51_Canonical Fr.lt h22 h25 e270) rfl rfl fun v275 w271 O272 S273 h274 => ?_
    obtain ⟨v276, v277, rfl, h278, h279⟩ := h274
    obtain ⟨A280, c281, rfl⟩ := h278.form
    obtain ⟨A282, c283, rfl⟩ := h279.form
    refine o_mv rfl rfl (o_ex rfl rfl rfl (o_ex rfl rfl rfl (o_as rfl rfl (o_as rfl rfl (o_z ?_)))))
    refine ewp_seq (ewp_seq ?_)
    obtain ⟨y284, hy285, hm⟩ := bs hm
    refine ewp_join (fun l' w' => ∃ (x287 : Unit) (O' : Lab), subs l' [(1, (.int .i64 x1)), (2, (.pointer (some ⟨g28, 0, none⟩))), (5, (.pointer (some ⟨g71, 0, none⟩))), (12, (.slice A226 q215.1.length c227)), (13, (errV q215.2.n)), (126, (.bool y284))] ∧ Bs w A w' O' ∧ Lc 2 w' O' g28 54 [(.slice A11 x0.task.vars.length c12), (.slice A14 x0.task.init.length c15), (.slice A17 x0.task.goal.length c18), (.slice A20 x0.task.ops.length c21), (.slice A23 x0.gens.length c24), (.slice A26 x0.state.length c27)] ∧ Vb w' (Fr 0 w' O') (.slice A11 x0.task.vars.length c12) x0.task.vars ∧ Vb w' (Fr 0 w' O') (.slice A14 x0.task.init.length c15) x0.task.init ∧ Vb w' (Fr 0 w' O') (.slice A17 x0.task.goal.length c18) x0.task.goal ∧ Vb w' (Fr 0 w' O') (.slice A20 x0.task.ops.length c21) x0.task.ops ∧ Vb w' (Fr 0 w' O') (.slice A23 x0.gens.length c24) x0.gens ∧ Vb w' (Fr 0 w' O') (.slice A26 x0.state.length c27) x0.state ∧ Lc 3 w' O' g71 26 [(.slice A11 x0.task.vars.length c12), (.slice A14 x0.task.init.length c15), (.slice A17 x0.task.goal.length c18), (.slice A20 x0.task.ops.length c21)] ∧ Vb w' (Fr 0 w' O') (.slice A226 q215.1.length c227) q215.1) ?_ ?_
    ·
     refine ewp_region (o_mv rfl rfl (o_rnS rfl rfl (fun c288 => ?_) fun c288 => ?_))
     ·
      replace hy285 := ip hy285 c288
      refine o_mv rfl rfl (owp_no rfl rfl rfl rfl (owp_no rfl rfl rfl rfl (owp_no rfl rfl rfl rfl (owp_no rfl rfl rfl rfl (o_pt rfl rfl rfl (o_mv rfl rfl (owp_no rfl rfl rfl rfl (owp_no rfl rfl rfl rfl (owp_no rfl rfl rfl rfl (owp_no rfl rfl rfl rfl (o_pt rfl rfl rfl (o_z ?_))))))))))))
      obtain rfl := sm hy285
      replace hB := ((hB.st S201).st S219).st S273
      replace h10 := (h10.st S219).st S273
      replace h13 := (h13.st S219).st S273
      replace h16 := (h16.st S219).st S273
      replace h19 := (h19.st S219).st S273
      replace h22 := h22.st S273
      replace h25 := h25.st S273
      replace h32 := h32.st S273
      replace h75 := (h75.st S219).st S273
      replace h224 := h224.st S273
      exact ⟨(), _, ⟨rfl, rfl, rfl, rfl, rfl, rfl, trivial⟩, hB, h32, h10, h13, h16, h19, h22, h25, h75, h224⟩
     ·
      replace hy285 := im hy285 c288
      refine o_mv rfl rfl (owp_yes rfl rfl (o_mv rfl rfl (owp_yes rfl rfl (o_mv rfl rfl (owp_yes rfl rfl ?_)))))
      obtain ⟨q289, e290, hy285⟩ := bs hy285
      replace h207 := (h207.st S219).st S273
      refine l_callA (O := O272) (A := All w271) (R := fun w' F v => Vb w' F v q289) (c_base_Ints (fun _ h => h) (Vb.mono (F := Fr 0 w271 O272) h207 Fr.lt) (Vb.mono (F := Fr 0 w271 O272) h278 Fr.lt) e290) rfl rfl fun v295 w291 O292 S293 h294 => ?_
      obtain rfl := h294.bool
      cases q289
      case false =>
       replace hy285 := iF hy285
       refine owp_yes rfl rfl (o_nf rfl rfl (o_pf rfl rfl rfl (o_mv rfl rfl (owp_no rfl rfl rfl rfl (owp_no rfl rfl rfl rfl (owp_no rfl rfl rfl rfl (owp_no rfl rfl rfl rfl (o_pt rfl rfl rfl (o_z ?_)))))))))
       obtain rfl := sm hy285
       replace hB := (((hB.st S201).st S219).st S273).st S293
       replace h10 := ((h10.st S219).st S273).st S293
       replace h13 := ((h13.st S219).st S273).st S293
       replace h16 := ((h16.st S219).st S273).st S293
       replace h19 := ((h19.st S219).st S273).st S293
       replace h22 := (h22.st S273).st S293
       replace h25 := (h25.st S273).st S293
       replace h32 := (h32.st S273).st S293
       replace h75 := ((h75.st S219).st S273).st S293
       replace h224 := (h224.st S273).st S293
       exact ⟨(), _, ⟨rfl, rfl, rfl, rfl, rfl, rfl, trivial⟩, hB, h32, h10, h13, h16, h19, h22, h25, h75, h224⟩
      replace hy285 := iT hy285
      refine owp_yes rfl rfl (o_nt rfl rfl (o_pf rfl rfl rfl (o_mv rfl rfl (owp_yes rfl rfl (o_mv rfl rfl (owp_yes rfl rfl (o_mv rfl rfl (owp_yes rfl rfl ?_))))))))
      obtain ⟨q296, e297, hy285⟩ := bs hy285
      replace h208 := ((h208.st S219).st S273).st S293
      replace h279 := h279.st S293
      refine l_callA (O := O292) (A := All w291) (R := fun w' F v => Vb w' F v q296) (c_base_Ints (fun _ h => h) (Vb.mono (F := Fr 0 w291 O292) h208 Fr.lt) (Vb.mono (F := Fr 0 w291 O292) h279 Fr.lt) e297) rfl rfl fun v302 w298 O299 S300 h301 => ?_
      obtain rfl := h301.bool
      cases q296
      case false =>
       replace hy285 := iF hy285
       refine owp_yes rfl rfl (o_nf rfl rfl (o_pf rfl rfl rfl (o_z ?_)))
       obtain rfl := sm hy285
       replace hB := ((((hB.st S201).st S219).st S273).st S293).st S300
       replace h10 := (((h10.st S219).st S273).st S293).st S300
       replace h13 := (((h13.st S219).st S273).st S293).st S300
       replace h16 := (((h16.st S219).st S273).st S293).st S300
       replace h19 := (((h19.st S219).st S273).st S293).st S300
       replace h22 := ((h22.st S273).st S293).st S300
       replace h25 := ((h25.st S273).st S293).st S300
       replace h32 := ((h32.st S273).st S293).st S300
       replace h75 := (((h75.st S219).st S273).st S293).st S300
       replace h224 := ((h224.st S273).st S293).st S300
       exact ⟨(), _, ⟨rfl, rfl, rfl, rfl, rfl, rfl, trivial⟩, hB, h32, h10, h13, h16, h19, h22, h25, h75, h224⟩
      replace hy285 := iT hy285
      refine owp_yes rfl rfl (o_nt rfl rfl (o_pf rfl rfl rfl (o_z ?_)))
      obtain rfl := sm hy285
      replace hB := ((((hB.st S201).st S219).st S273).st S293).st S300
      replace h10 := (((h10.st S219).st S273).st S293).st S300
      replace h13 := (((h13.st S219).st S273).st S293).st S300
      replace h16 := (((h16.st S219).st S273).st S293).st S300
      replace h19 := (((h19.st S219).st S273).st S293).st S300
      replace h22 := ((h22.st S273).st S293).st S300
      replace h25 := ((h25.st S273).st S293).st S300
      replace h32 := ((h32.st S273).st S293).st S300
      replace h75 := (((h75.st S219).st S273).st S293).st S300
      replace h224 := ((h224.st S273).st S293).st S300
      exact ⟨(), _, ⟨rfl, rfl, rfl, rfl, rfl, rfl, trivial⟩, hB, h32, h10, h13, h16, h19, h22, h25, h75, h224⟩
    replace hB := ((hB.st S201).st S219).st S273
    replace h10 := (h10.st S219).st S273
    replace h13 := (h13.st S219).st S273
    replace h16 := (h16.st S219).st S273
    replace h19 := (h19.st S219).st S273
    replace h22 := h22.st S273
    replace h25 := h25.st S273
    replace h32 := h32.st S273
    replace h75 := (h75.st S219).st S273
    replace h224 := h224.st S273
    rintro l303 w304 ⟨x287, O305, hs306, hB, h32, h10, h13, h16, h19, h22, h25, h75, h224⟩
    refine ewp_sub _ hs306 ?_
    refine ewp_cond rfl (fun c307 => ?_) (fun c307 => ?_)
    ·
     replace hm := ip hm c307
     refine ewp_seq (ewp_region (o_as rfl rfl (o_z ?_)))
     refine ewp_ret ?_
     obtain rfl := sm hm
     exact ret1v rfl (res_tmp rfl) ⟨hB.ext, vBool⟩
    ·
     replace hm := im' hm c307
     refine ewp_skip (ewp_seq (ewp_region (o_fa rfl rfl (o_ld (hc := Blk.cell (i := 0) (h75.1) rfl) rfl rfl ?_))))
     refine o_fa rfl rfl (o_ld (hc := Blk.cell (i := 4) (h32.1) rfl) rfl rfl ?_)
     refine o_fa rfl rfl (o_ld (hc := Blk.cell (i := 5) (h32.1) rfl) rfl rfl ?_)
     obtain ⟨q308, e309, hm⟩ := bs hm
     refine l_call (O := O305) (R := fun w' F v => Vb w' F v q308) (c_ref51_Orbit Fr.lt h10 h22 h25 e309) rfl rfl fun v314 w310 O311 S312 h313 => ?_
     obtain ⟨A315, c316, rfl⟩ := h313.form
     refine o_as rfl rfl (o_z ?_)
     refine ewp_seq (ewp_seq (ewp_region (o_mv rfl rfl (o_ln rfl rfl ?_))))
     have l318 : q308.length ≤ 9223372036854775807 := Nat.le_trans h313.len.2.1 h313.len.2.2
     have r317 : inI64 (q308.length : Int) := rngNat l318
     refine o_mv rfl rfl ?_
     obtain ⟨q319, e320, hm⟩ := bs hm
     refine l_callA (O := O311) (A := All w310) (R := fun w' F v => Vb w' F v q319) (c_base_Clip (fun _ h => h) rx1 (show inI64 (0) from by decide) (show inI64 (65536) from by decide) e320) rfl rfl fun v325 w321 O322 S323 h324 => ?_
     obtain ⟨rfl, r326⟩ := h324.int
     refine o_gtS rfl rfl rfl (fun c327 => ?_) fun c327 => ?_
     ·
      replace hm := ip hm c327
      refine o_z ?_
      refine ewp_true rfl (ewp_seq ?_)
      obtain ⟨y328, hy329, hm⟩ := bs hm
      refine ewp_join (fun l' w' => ∃ (x331 : Unit) (O' : Lab), subs l' [(4, (.bool y328))] ∧ Bs w A w' O') ?_ ?_
      ·
       refine ewp_region (o_mv rfl rfl ?_)
       obtain ⟨q332, e333, hy329⟩ := bs hy329
       refine l_callA (O := O322) (A := All w321) (R := fun w' F v => Vb w' F v q332) (c_base_Is (fun _ h => h) r228 (show inI64 (10) from by decide) e333) rfl rfl fun v338 w334 O335 S336 h337 => ?_
       obtain rfl := h337.bool
       cases q332
       case false =>
        replace hy329 := iF hy329
        refine o_mv rfl rfl (owp_no rfl rfl rfl rfl (owp_no rfl rfl rfl rfl (owp_no rfl rfl rfl rfl (o_pf rfl rfl rfl (o_as rfl rfl (o_z ?_))))))
        obtain rfl := sm hy329
        replace hB := ((hB.st S312).st S323).st S336
        exact ⟨(), _, ⟨rfl, trivial⟩, hB⟩
       replace hy329 := iT hy329
       refine o_mv rfl rfl (owp_yes rfl rfl (o_mv rfl rfl (owp_yes rfl rfl (o_ln rfl rfl ?_))))
       replace h224 := ((h224.st S312).st S323).st S336
       have l340 : q215.1.length ≤ 9223372036854775807 := Nat.le_trans h224.len.2.1 h224.len.2.2
       have r339 : inI64 (q215.1.length : Int) := rngNat l340
       refine owp_yes rfl rfl (o_eeS rfl rfl rfl (fun c341 => ?_) fun c341 => ?_)
       ·
        replace hy329 := ip hy329 c341
        refine o_pt rfl rfl rfl (o_as rfl rfl (o_z ?_))
        obtain rfl := sm hy329
        replace hB := ((hB.st S312).st S323).st S336
        exact ⟨(), _, ⟨rfl, trivial⟩, hB⟩
       ·
        replace hy329 := im hy329 c341
        refine o_pt rfl rfl rfl (o_as rfl rfl (o_z ?_))
        obtain rfl := sm hy329
        replace hB := ((hB.st S312).st S323).st S336
        exact ⟨(), _, ⟨rfl, trivial⟩, hB⟩
      replace hB := (hB.st S312).st S323
      rintro l342 w343 ⟨x331, O344, hs345, hB⟩
      refine ewp_sub _ hs345 ?_
      refine ewp_ret ?_
      obtain rfl := sm hm
      exact ret1v rfl (res_tmp rfl) ⟨hB.ext, vBool⟩
     ·
      replace hm := im hm c327
      refine o_z ?_
      refine ewp_false rfl (ewp_skip (ewp_seq (ewp_seq ?_)))
      obtain ⟨y346, hy347, hm⟩ := bs hm
      refine ewp_join (fun l' w' => ∃ (x349 : Unit) (O' : Lab), subs l' [(12, (.slice A226 q215.1.length c227)), (16, (.slice A315 q308.length c316)), (154, (.bool y346))] ∧ Bs w A w' O' ∧ Vb w' (Fr 0 w' O') (.slice A226 q215.1.length c227) q215.1 ∧ Vb w' (Fr 0 w' O') (.slice A315 q308.length c316) q308) ?_ ?_
      ·
       refine ewp_region (o_mv rfl rfl (o_rnS rfl rfl (fun c350 => ?_) fun c350 => ?_))
       ·
        replace hy347 := ip hy347 c350
        refine o_mv rfl rfl (owp_no rfl rfl rfl rfl (owp_no rfl rfl rfl rfl (owp_no rfl rfl rfl rfl (owp_no rfl rfl rfl rfl (owp_no rfl rfl rfl rfl (o_pt rfl rfl rfl (o_z ?_)))))))
        obtain rfl := sm hy347
        replace hB := (hB.st S312).st S323
        replace h224 := (h224.st S312).st S323
        replace h313 := h313.st S323
        exact ⟨(), _, ⟨rfl, rfl, rfl, trivial⟩, hB, h224, h313⟩
       ·
        replace hy347 := im hy347 c350
        refine o_mv rfl rfl (owp_yes rfl rfl (o_mv rfl rfl (owp_yes rfl rfl (o_ln rfl rfl ?_))))
        replace h224 := (h224.st S312).st S323
        have l352 : q215.1.length ≤ 9223372036854775807 := Nat.le_trans h224.len.2.1 h224.len.2.2
        have r351 : inI64 (q215.1.length : Int) := rngNat l352
        refine owp_yes rfl rfl (o_mv rfl rfl (owp_yes rfl rfl (o_ln rfl rfl ?_)))
        replace h313 := h313.st S323
        have l354 : q308.length ≤ 9223372036854775807 := Nat.le_trans h313.len.2.1 h313.len.2.2
        have r353 : inI64 (q308.length : Int) := rngNat l354
        refine owp_yes rfl rfl (o_neS rfl rfl rfl (fun c355 => ?_) fun c355 => ?_)
        ·
         replace hy347 := ip hy347 c355
         refine o_pf rfl rfl rfl (o_z ?_)
         obtain rfl := sm hy347
         replace hB := (hB.st S312).st S323
         exact ⟨(), _, ⟨rfl, rfl, rfl, trivial⟩, hB, h224, h313⟩
        ·
         replace hy347 := im hy347 c355
         refine o_pf rfl rfl rfl (o_z ?_)
         obtain rfl := sm hy347
         replace hB := (hB.st S312).st S323
         exact ⟨(), _, ⟨rfl, rfl, rfl, trivial⟩, hB, h224, h313⟩
      replace hB := (hB.st S312).st S323
      replace h224 := (h224.st S312).st S323
      replace h313 := h313.st S323
      rintro l356 w357 ⟨x349, O358, hs359, hB, h224, h313⟩
      refine ewp_sub _ hs359 ?_
      refine ewp_cond rfl (fun c360 => ?_) (fun c360 => ?_)
      ·
       replace hm := ip hm c360
       refine ewp_seq (ewp_region (o_as rfl rfl (o_z ?_)))
       refine ewp_ret ?_
       obtain rfl := sm hm
       exact ret1v rfl (res_tmp rfl) ⟨hB.ext, vBool⟩
      ·
       replace hm := im' hm c360
       refine ewp_skip (ewp_seq (ewp_seq (ewp_region (o_mv rfl rfl (o_ln rfl rfl ?_)))))
       have l362 : q215.1.length ≤ 9223372036854775807 := Nat.le_trans h224.len.2.1 h224.len.2.2
       have r361 : inI64 (q215.1.length : Int) := rngNat l362
       refine o_mv rfl rfl (o_z ?_)
       obtain ⟨res363, hL364, hm⟩ := bs hm
       refine ewp_join (aft res363 (fun (s365 : Unit) (x366 : Unit) => []) (fun s365 x366 w' => ∃ O' : Lab, Bs w A w' O')) ?_ ?_
       ·
        refine ewp_block (ewp_rng (σ := Unit) (X := Unit) (q215.1.length) hL364 rfl l362 (fun (s365 : Unit) (x366 : Unit) => [(12, (.slice A226 q215.1.length c227)), (16, (.slice A315 q308.length c316))]) _ (fun s365 x366 w' => ∃ O' : Lab, Bs w A w' O' ∧ Vb w' (Fr 0 w' O') (.slice A226 q215.1.length c227) q215.1 ∧ Vb w' (Fr 0 w' O') (.slice A315 q308.length c316) q308) _ () ⟨O358, hB, h224, h313⟩ ⟨rfl, rfl, rfl, rfl, trivial⟩ (fun _ _ => ⟨rfl, rfl⟩) (fun _ _ => trivial) (fun _ _ _ ⟨O', hB, h224, h313⟩ => ⟨O', hB⟩) ⟨rfl, rfl, rfl⟩ ⟨rfl, rfl⟩ ?_)
        rintro k367 a368 s365 x366 w369 cc371 hx372 ⟨O370, hB, h224, h313⟩ hf373 hret374 hbrk375
        have rk367 : inI64 (k367 : Int) := rngK hx372 l362
        refine ewp_seq (ewp_region (o_mv rfl rfl (o_as rfl rfl (o_z ?_))))
        refine ewp_seq (ewp_drawX [(8, [])] O370 ?_)
        refine x_pre (fuel := 2) [] [(0, true), (1, true), (2, true), (3, true), (4, true), (5, true), (6, true), (7, true)] (by kernel_rfl) rfl ?_
        refine h_mv rfl rfl rfl (h_mv rfl rfl rfl ?_)
        obtain ⟨b378, o379, ce380, hA381, hF384, hl382, hd383, v385, rfl, h386⟩ := h224.elem hx372
        replace h386 := Vb.of_slice h386
        obtain ⟨A387, c388, rfl⟩ := h386.form
        refine h_iaE (hA := hA381) (hj := rfl) (hlt := hl382) rfl rfl rfl rfl ?_
        refine h_ldC (hc := fun w' ⟨O', hq⟩ => cat0 (cellsAt_agree (hq.agree (i := 0) (by decide)) hF384 hd383)) rfl rfl rfl ?_
        refine h_mv rfl rfl rfl (h_mv rfl rfl rfl ?_)
        obtain ⟨a389, e390, hf373⟩ := bs hf373
        obtain ⟨b391, o392, ce393, hA394, hF397, hl395, hd396, v398, rfl, h399⟩ := h313.elem e390
        replace h399 := Vb.of_slice h399
        obtain ⟨A400, c401, rfl⟩ := h399.form
        refine h_iaE (hA := hA394) (hj := rfl) (hlt := hl395) rfl rfl rfl rfl ?_
        refine h_ldC (hc := fun w' ⟨O', hq⟩ => cat0 (cellsAt_agree (hq.agree (i := 0) (by decide)) hF397 hd396)) rfl rfl rfl ?_
        refine hwp_nilT ?_
        refine x_one (i := 8) (by kernel_rfl) rfl ?_
        obtain ⟨q402, e403, hf373⟩ := bs hf373
        refine l_callA (O := O370) (A := All w369) (R := fun w' F v => Vb w' F v q402) (c_base_Ints (fun _ h => h) (Vb.mono (F := Fr 0 w369 O370) h386 Fr.lt) (Vb.mono (F := Fr 0 w369 O370) h399 Fr.lt) e403) rfl rfl fun v408 w404 O405 S406 h407 => ?_
        obtain rfl := h407.bool
        have hZ := S406.lst [] (fun _ h => h.elim)
        cases q402
        case false =>
         replace hf373 := iF hf373
         refine x_go [] hZ (by kernel_rfl) ?_
         refine x_pre (fuel := 0) [] [(9, true)] (by kernel_rfl) rfl ?_
         refine h_nf rfl rfl rfl (hwp_nilT ?_)
         refine x_nil (by kernel_rfl) ?_
         refine ewp_true rfl (ewp_seq (ewp_region (o_as rfl rfl (o_z ?_))))
         refine ewp_ret ?_
         obtain rfl := sm hf373
         obtain rfl := hret374 _ rfl
         obtain rfl := sm (fin_ret hm)
         replace hB := hB.st S406
         exact ret1v rfl (res_tmp rfl) ⟨hB.ext, vBool⟩
        replace hf373 := iT hf373
        refine x_go [] hZ (by kernel_rfl) ?_
        refine x_pre (fuel := 0) [] [(9, true)] (by kernel_rfl) rfl ?_
        refine h_nt rfl rfl rfl (hwp_nilT ?_)
        refine x_nil (by kernel_rfl) ?_
        refine ewp_false rfl (ewp_skip ?_)
        obtain rfl := sm hf373
        refine (?_ : Exists _)
        replace hB := hB.st S406
        replace h224 := h224.st S406
        replace h313 := h313.st S406
        exact ⟨_, (), rfl, ⟨rfl, rfl, rfl, rfl, trivial⟩, _, hB, h224, h313⟩
       rintro l409 w410 ⟨s413, x414, rfl, hs412, O411, hB⟩
       replace hm := fin_done hm
       refine ewp_sub _ hs412 ?_
       refine ewp_seq (ewp_region (o_as rfl rfl (o_z ?_)))
       refine ewp_ret ?_
       obtain rfl := sm hm
       exact ret1v rfl (res_tmp rfl) ⟨hB.ext, vBool⟩
end
section
open Go Go.RowKit Go.ChangeShapes Go.WideShapes Go.Deep
theorem c_swap : Try.prog.cellsOf 29 = 3 := by kernel_rfl
instance : Reads Try.prog 52 (List Swp) := readsSlice Try.underlying52 c_swap (by decide)
theorem len6 {cs : List Value} (h : cs.length = 6) : ∃ a b c d e f, cs = [a, b, c, d, e, f] := by
  match cs, h with
  | [a, b, c, d, e, f], _ => exact ⟨a, b, c, d, e, f, rfl⟩
instance : Reads Try.prog 54 Qst := ⟨fun {H enc w n cs x} h => by
  obtain ⟨hl, m, hf⟩ := readsField Try.underlying54 h
  obtain ⟨v0, v1, v2, v3, v4, v5, rfl⟩ := len6 (hl.trans (by kernel_rfl : Try.prog.cellsOf 54 = 6))
  obtain ⟨x0, g0⟩ := hf 0 26 0 4 rfl (by kernel_rfl)
  replace g0 : DataW.trod enc Try.prog w 0 (fun _ => true) true m 26 [v0, v1, v2, v3] = some x0 := g0
  obtain ⟨x1, g1⟩ := hf 1 52 4 1 rfl (by kernel_rfl)
  replace g1 : DataW.trod enc Try.prog w 0 (fun _ => true) true m 52 [v4] = some x1 := g1
  obtain ⟨x2, g2⟩ := hf 2 22 5 1 rfl (by kernel_rfl)
  replace g2 : DataW.trod enc Try.prog w 0 (fun _ => true) true m 22 [v5] = some x2 := g2
  obtain ⟨z0, a, b, c, d, e0, q1, q2, q3, q4⟩ := (inferInstance : Reads Try.prog 26 Tsk).of g0
  obtain ⟨rfl, rfl, rfl, rfl⟩ : v0 = a ∧ v1 = b ∧ v2 = c ∧ v3 = d := by simpa using e0
  obtain ⟨z1, r1⟩ := (inferInstance : Reads Try.prog 52 (List Swp)).of g1
  obtain ⟨z2, r2⟩ := (inferInstance : Reads Try.prog 22 (List Int)).of g2
  exact ⟨⟨z0, z1, z2⟩, v0, v1, v2, v3, v4, v5, rfl, q1, q2, q3, q4, r1, r2⟩⟩
end
section
section
variable {α σ ρ : Type}
theorem fin_d {s : σ} {f : σ → Option ρ} : fin (.done s) f = f s := rfl
theorem fin_r {c : ρ} {f : σ → Option ρ} : fin (.ret c) f = some c := rfl
theorem if_t {x y : α} : (if true = true then x else y) = x := rfl
theorem if_f {x y : α} : (if false = true then x else y) = y := rfl
theorem not_t {x y : α} : (if (!true) = true then x else y) = y := rfl
theorem not_f {x y : α} : (if (!false) = true then x else y) = x := rfl
theorem rng_inv_from {f : Nat → α → σ → Option (Ctl σ ρ)} {I : Nat → σ → Prop} {R : ρ → Prop} : ∀ (ys : List α) (j : Nat) (s : σ), I j s →
    (∀ k x s, ys[k]? = some x → I (j + k) s → (∃ s', f (j + k) x s = some (.next s') ∧ I (j + k + 1) s') ∨ (∃ r, f (j + k) x s = some (.ret r) ∧ R r)) →
    (∃ s', rng f ys j s = some (.done s') ∧ I (j + ys.length) s') ∨ ∃ r, rng f ys j s = some (.ret r) ∧ R r
  | [], j, s, h0, _ => .inl ⟨s, rfl, h0⟩
  | y :: ys, j, s, h0, h => by
    rcases h 0 y s rfl h0 with ⟨s', h1, h2⟩ | ⟨r, h1, h2⟩
    · have h1' : f j y s = some (.next s') := h1
      simp only [rng, h1']
      rcases rng_inv_from (I := I) (R := R) ys (j + 1) s' h2 (fun k x s hk hI => by
        have := h (k + 1) x s (by simpa using hk) (by rwa [show j + (k + 1) = j + 1 + k from by omega])
        rwa [show j + (k + 1) = j + 1 + k from by omega] at this) with ⟨s2, h3, h4⟩ | h3
      · exact .inl ⟨s2, h3, by rw [List.length_cons, show j + (ys.length + 1) = j + 1 + ys.length from by omega]; exact h4⟩
      · exact .inr h3
    · have h1' : f j y s = some (.ret r) := h1
      simp only [rng, h1']
      exact .inr ⟨r, rfl, h2⟩
theorem rng_inv {f : Nat → α → σ → Option (Ctl σ ρ)} {xs : List α} {s₀ : σ} (I : Nat → σ → Prop) (R : ρ → Prop) (h0 : I 0 s₀)
    (h : ∀ k x s, xs[k]? = some x → I k s → (∃ s', f k x s = some (.next s') ∧ I (k + 1) s') ∨ (∃ r, f k x s = some (.ret r) ∧ R r)) :
    (∃ s', rng f xs 0 s₀ = some (.done s') ∧ I xs.length s') ∨ ∃ r, rng f xs 0 s₀ = some (.ret r) ∧ R r := by
  have := rng_inv_from (f := f) (I := I) (R := R) xs 0 s₀ h0 (fun k x s hk hI => by rw [Nat.zero_add] at hI ⊢; exact h k x s hk hI)
  rwa [Nat.zero_add] at this
/-- A loop that runs to its end. -/
theorem rng_all {f : Nat → α → σ → Option (Ctl σ ρ)} {xs : List α} {s₀ : σ} (I : Nat → σ → Prop) (h0 : I 0 s₀) (h : ∀ k x s, xs[k]? = some x → I k s → ∃ s', f k x s = some (.next s') ∧ I (k + 1) s') :
    ∃ s', rng f xs 0 s₀ = some (.done s') ∧ I xs.length s' := by
  rcases rng_inv I (fun _ => False) h0 (fun k x s hk hI => .inl (h k x s hk hI)) with h | ⟨_, _, h⟩
  · exact h
  · exact h.elim
/-- A loop whose state is known in each round. -/
theorem rng_fun {f : Nat → α → σ → Option (Ctl σ ρ)} {xs : List α} (g : Nat → σ) (h : ∀ k x, xs[k]? = some x → f k x (g k) = some (.next (g (k + 1)))) : rng f xs 0 (g 0) = some (.done (g xs.length)) := by
  obtain ⟨s', h1, h2⟩ := rng_all (f := f) (xs := xs) (s₀ := g 0) (fun k s => s = g k) rfl (fun k x s hk hI => ⟨_, by rw [hI]; exact h k x hk, rfl⟩)
  rw [h1, h2]
theorem rng_from {f : Nat → α → σ → Option (Ctl σ ρ)} {xs : List α} {s₀ : σ} (g : Nat → σ) (h0 : s₀ = g 0) (h : ∀ k x, xs[k]? = some x → f k x (g k) = some (.next (g (k + 1)))) : rng f xs 0 s₀ = some (.done (g xs.length)) := by
  rw [h0]; exact rng_fun g h
theorem rng_unit {f : Nat → α → Unit → Option (Ctl Unit ρ)} {xs : List α} (h : ∀ k x, xs[k]? = some x → f k x () = some (.next ())) : rng f xs 0 () = some (.done ()) := rng_fun (fun _ => ()) h
theorem rngN_fun {f : Nat → σ → Option (Ctl σ ρ)} {N : Nat} (g : Nat → σ) (h : ∀ k, k < N → f k (g k) = some (.next (g (k + 1)))) : rngN f N (g 0) = some (.done (g N)) := by
  have := rng_fun (f := fun _ k s => f k s) (xs := List.range N) g (fun k x hk => by
    obtain ⟨hlt, rfl⟩ := List.getElem?_eq_some_iff.1 hk
    simpa using h k (by simpa using hlt))
  rwa [List.length_range] at this
theorem rngN_from {f : Nat → σ → Option (Ctl σ ρ)} {N : Nat} {s₀ : σ} (g : Nat → σ) (h0 : s₀ = g 0) (h : ∀ k, k < N → f k (g k) = some (.next (g (k + 1)))) : rngN f N s₀ = some (.done (g N)) := by
  rw [h0]; exact rngN_fun g h
end
end
section
section
variable {α σ ρ β : Type}
theorem lop_wf' {f : σ → Option (Ctl σ ρ)} (I : σ → Prop) (B : σ → Prop) (R : ρ → Prop) (μ : σ → Nat) (h : ∀ s, I s → (∃ s', f s = some (.next s') ∧ I s' ∧ μ s' < μ s) ∨ (∃ s', f s = some (.brk s') ∧ B s') ∨ ∃ r, f s = some (.ret r) ∧ R r) :
    ∀ s, I s → (∃ s', lop f s = some (.done s') ∧ B s') ∨ ∃ r, lop f s = some (.ret r) ∧ R r := by
  have key : ∀ (n : Nat) s, I s → μ s < n → (∃ s', lop f s = some (.done s') ∧ B s') ∨ ∃ r, lop f s = some (.ret r) ∧ R r := by
    intro n
    induction n with
    | zero => intro s _ hn; omega
    | succ n ih =>
      intro s hI hn
      rw [lop_eq]
      rcases h s hI with ⟨s', h1, h2, h3⟩ | ⟨s', h1, h2⟩ | ⟨r, h1, h2⟩
      · rw [h1]; exact ih s' h2 (by omega)
      · rw [h1]; exact .inl ⟨s', rfl, h2⟩
      · rw [h1]; exact .inr ⟨r, rfl, h2⟩
  exact fun s hI => key (μ s + 1) s hI (by omega)
/-- A loop, and what is said of what comes behind it. -/
theorem lop_ex {f : σ → Option (Ctl σ ρ)} {s₀ : σ} {k : Fin σ ρ → Option β} {P : β → Prop} (I : σ → Prop) (B : σ → Prop) (R : ρ → Prop) (μ : σ → Nat) (h0 : I s₀)
    (h : ∀ s, I s → (∃ s', f s = some (.next s') ∧ I s' ∧ μ s' < μ s) ∨ (∃ s', f s = some (.brk s') ∧ B s') ∨ ∃ r, f s = some (.ret r) ∧ R r)
    (hb : ∀ s, B s → ∃ r, k (.done s) = some r ∧ P r) (hr : ∀ q, R q → ∃ r, k (.ret q) = some r ∧ P r) : ∃ r, bnd (lop f s₀) k = some r ∧ P r := by
  rcases lop_wf' I B R μ h s₀ h0 with ⟨s, h1, h2⟩ | ⟨q, h1, h2⟩
  · rw [h1, bnd_some]; exact hb s h2
  · rw [h1, bnd_some]; exact hr q h2
theorem rng_ex {f : Nat → α → σ → Option (Ctl σ ρ)} {xs : List α} {s₀ : σ} {k : Fin σ ρ → Option β} {P : β → Prop} (I : Nat → σ → Prop) (R : ρ → Prop) (h0 : I 0 s₀)
    (h : ∀ i x s, xs[i]? = some x → I i s → (∃ s', f i x s = some (.next s') ∧ I (i + 1) s') ∨ ∃ q, f i x s = some (.ret q) ∧ R q)
    (hb : ∀ s, I xs.length s → ∃ r, k (.done s) = some r ∧ P r) (hr : ∀ q, R q → ∃ r, k (.ret q) = some r ∧ P r) : ∃ r, bnd (rng f xs 0 s₀) k = some r ∧ P r := by
  have key : ∀ (ys : List α) (j : Nat) (s : σ), (∀ i, ys[i]? = xs[j + i]?) → j + ys.length = xs.length → I j s → ∃ r, bnd (rng f ys j s) k = some r ∧ P r := by
    intro ys
    induction ys with
    | nil => intro j s _ hl hI; exact hb s (by simp at hl; rw [← hl]; exact hI)
    | cons y ys ih =>
      intro j s hg hl hI
      have hy : xs[j]? = some y := by have := hg 0; simpa using this.symm
      simp only [rng]
      rcases h j y s hy hI with ⟨s', h1, h2⟩ | ⟨q, h1, h2⟩
      · rw [h1]
        exact ih (j + 1) s' (fun i => by have := hg (i + 1); rw [show j + 1 + i = j + (i + 1) from by omega, ← this]; simp) (by simp at hl; omega) h2
      · rw [h1, bnd_some]; exact hr q h2
  exact key xs 0 s₀ (fun i => by rw [Nat.zero_add]) (by omega) h0
theorem rng_bnd {f : Nat → α → σ → Option (Ctl σ ρ)} {xs : List α} {s₀ : σ} {k : Fin σ ρ → Option β} {r : Option β} (I : Nat → σ → Prop) (h0 : I 0 s₀)
    (h : ∀ i x s, xs[i]? = some x → I i s → ∃ s', f i x s = some (.next s') ∧ I (i + 1) s') (hb : ∀ s, I xs.length s → k (.done s) = r) : bnd (rng f xs 0 s₀) k = r := by
  obtain ⟨s, h1, h2⟩ := rng_all I h0 h
  rw [h1, bnd_some]
  exact hb s h2
end
end
section
open Go Go.RowKit
def rangeI (n : Nat) : List Int := (List.range n).map fun i : Nat => (i : Int)
theorem mem_rangeI {n : Nat} {x : Int} : x ∈ rangeI n ↔ 0 ≤ x ∧ x < n := by
  unfold rangeI
  rw [List.mem_map]
  constructor
  · rintro ⟨i, hi, rfl⟩; have := List.mem_range.1 hi; omega
  · rintro ⟨h1, h2⟩; exact ⟨x.toNat, List.mem_range.2 (by omega), by omega⟩
theorem rangeI_len (n : Nat) : (rangeI n).length = n := by simp [rangeI]
theorem rangeI_nodup (n : Nat) : (rangeI n).Nodup := by
  unfold rangeI
  rw [List.nodup_iff_pairwise_ne, List.pairwise_map]
  exact (List.nodup_iff_pairwise_ne.1 List.nodup_range).imp fun h => by omega
theorem count_one {l : List Int} {x : Int} (hn : l.Nodup) (h : x ∈ l) : l.count x = 1 := by
  have h1 := List.nodup_iff_count.1 hn x
  have h2 := List.count_pos_iff.2 h
  omega
/-- A list is a permutation of 0 .. n - 1. -/
def PermR (l : List Int) (n : Nat) : Prop := l.Perm (rangeI n)
theorem perm_of_subset : ∀ {l₁ l₂ : List Int}, l₁.Nodup → (∀ x ∈ l₁, x ∈ l₂) → l₂.length ≤ l₁.length → l₁.Perm l₂
  | [], l₂, _, _, hl => by
    have : l₂ = [] := List.eq_nil_of_length_eq_zero (by simpa using hl)
    rw [this]
  | x :: l₁, l₂, hn, hs, hl => by
    have hx := hs x List.mem_cons_self
    have hp := List.perm_cons_erase hx
    obtain ⟨h1, h2⟩ := List.nodup_cons.1 hn
    refine (List.Perm.cons x (perm_of_subset h2 (fun y hy => ?_) ?_)).trans hp.symm
    · have : y ≠ x := fun e => h1 (e ▸ hy)
      exact (List.mem_erase_of_ne this).2 (hs y (List.mem_cons_of_mem _ hy))
    · rw [List.length_erase_of_mem hx]
      simp at hl; omega
theorem PermR.len {l : List Int} {n : Nat} (h : PermR l n) : l.length = n := by rw [h.length_eq, rangeI_len]
theorem PermR.mem {l : List Int} {n : Nat} (h : PermR l n) {x : Int} (hx : x ∈ l) : 0 ≤ x ∧ x < n := mem_rangeI.1 (h.mem_iff.1 hx)
theorem PermR.nodup {l : List Int} {n : Nat} (h : PermR l n) : l.Nodup := h.symm.nodup (rangeI_nodup n)
theorem permR_of {l : List Int} {n : Nat} (h1 : l.Nodup) (h2 : ∀ x ∈ l, 0 ≤ x ∧ x < n) (h3 : l.length = n) : PermR l n := perm_of_subset h1 (fun x hx => mem_rangeI.2 (h2 x hx)) (by rw [rangeI_len]; omega)
theorem bof_if {p q : Prop} (h : p ↔ q) : some (bof p) = some (bof q) := by rw [bof_eq h]
theorem take_succ_mem {α : Type} {l : List α} {k : Nat} {x y : α} (h : l[k]? = some x) : y ∈ l.take (k + 1) ↔ y ∈ l.take k ∨ y = x := by
  rw [List.take_add_one, h, List.mem_append]; simp
theorem perm_eq {l : List Int} {n : Int} (hl : l.length ≤ 1000000 ∨ (l.length : Int) ≠ n) : m_symmetry_permutation l n = some (bof ((l.length : Int) = n ∧ PermR l l.length)) := by
  unfold m_symmetry_permutation
  by_cases hn : (l.length : Int) = n
  case neg => rw [if_pos hn, bof_f (fun h => hn h.1)]
  have hl' : l.length ≤ 1000000 := hl.resolve_right fun h => h hn
  subst hn
  rw [if_neg (by simp), mkI_eq (by omega) (by omega), bnd_some]
  rcases rng_inv (ρ := Bool) (f := fun (_ : Nat) (a26 : Int) (s23 : (List Bool)) => bnd (if a26 < 0 then (some true) else (if (l.length : Int) ≤ a26 then (some true) else (bnd (atI s23 a26) fun a54 => some a54)) : Option Bool) fun y48 => if y48 = true then (some (.ret false)) else (bnd (atI s23 a26) fun _ => some (.next (s23.set (a26).toNat true)))) (xs := l) (s₀ := List.replicate l.length false)
    (fun k s => s.length = l.length ∧ (∀ j : Nat, j < l.length → s[j]? = some (bof ((j : Int) ∈ l.take k))) ∧ (l.take k).Nodup ∧ ∀ x ∈ l.take k, 0 ≤ x ∧ x < l.length) (fun r => r = false ∧ ¬ PermR l l.length)
    ⟨by simp, fun j hj => by rw [List.getElem?_replicate, if_pos hj, List.take_zero, bof_f (List.not_mem_nil)], by simp, by simp⟩ (fun k x s hx hI => by
      obtain ⟨i1, i2, i3, i4⟩ := hI
      by_cases h1 : x < 0
      · rw [if_pos h1, bnd_some, if_t]
        exact .inr ⟨_, rfl, rfl, fun hp => by have := hp.mem (List.mem_of_getElem? hx); omega⟩
      · rw [if_neg h1]
        by_cases h2 : (l.length : Int) ≤ x
        · rw [if_pos h2, bnd_some, if_t]
          exact .inr ⟨_, rfl, rfl, fun hp => by have := hp.mem (List.mem_of_getElem? hx); omega⟩
        · rw [if_neg h2]
          obtain ⟨j, rfl⟩ := Int.eq_ofNat_of_zero_le (by omega : 0 ≤ x)
          rw [atI_eq, i2 j (by omega), bnd_some, bnd_some]
          by_cases hm : (j : Int) ∈ l.take k
          · rw [bof_t hm, if_t]
            refine .inr ⟨_, rfl, rfl, fun hp => ?_⟩
            have hnd := hp.nodup
            rw [← List.take_append_drop k l, List.nodup_append] at hnd
            have hd : (j : Int) ∈ l.drop k := List.mem_of_getElem? (i := 0) (by rw [List.getElem?_drop, Nat.add_zero]; exact hx)
            exact hnd.2.2 _ hm _ hd rfl
          · rw [bof_f hm, if_f, bnd_some]
            refine .inl ⟨_, rfl, by simpa using i1, fun q hq => ?_, ?_, fun y hy => ?_⟩
            · rw [show ((j : Int)).toNat = j from by omega, List.getElem?_set]
              by_cases hjq : j = q
              · subst hjq
                rw [if_pos rfl, if_pos (by omega), bof_t ((take_succ_mem hx).2 (.inr rfl))]
              · rw [if_neg hjq, i2 q hq]
                refine bof_if ⟨fun h => (take_succ_mem hx).2 (.inl h), fun h => ((take_succ_mem hx).1 h).resolve_right (by omega)⟩
            · rw [List.take_add_one, hx]
              refine List.nodup_append.2 ⟨i3, by simp, fun a ha b hb => ?_⟩
              have : b = (j : Int) := by simpa using hb
              rw [this]; exact fun e => hm (e ▸ ha)
            · rcases (take_succ_mem hx).1 hy with hy | rfl
              · exact i4 y hy
              · omega) with ⟨s, hr, _, _, hnd, hrg⟩ | ⟨r, hr, rfl, hno⟩
  · rw [hr, bnd_some, fin_d]
    rw [List.take_length] at hnd hrg
    rw [bof_t ⟨rfl, permR_of hnd hrg rfl⟩]
  · rw [hr, bnd_some, fin_r, bof_f (fun h => hno h.2)]
theorem count_loop {l : List Int} {v : Int} {ρ : Type} (hl : l.length ≤ 1000000) : rng (ρ := ρ) (fun (_ : Nat) (a28 : Int) (s25 : Int) => if a28 = v then (bnd (chkI (s25 + 1)) fun n49 => some (.next n49)) else (some (.next s25))) l 0 0 = some (.done ((l.count v : Nat) : Int)) := by
  rw [rng_from (fun k => (((l.take k).count v : Nat) : Int)) ?ha ?hb, List.take_length]
  case ha => rfl
  case hb =>
    intro k x hx
    have hk := lt_of_get hx
    have hc := List.count_le_length (a := v) (l := l.take k)
    rw [List.length_take] at hc
    rw [List.take_add_one, hx, List.count_append]
    by_cases h : x = v
    · rw [if_pos h, chkI_eq (by unfold inI64; omega), bnd_some]
      subst h; simp
    · rw [if_neg h]; simp [h]
theorem refperm_eq {l : List Int} {n : Int} (hl : l.length ≤ 1000000 ∨ (l.length : Int) ≠ n) : m_ref51_permutation l n = some (bof ((l.length : Int) = n ∧ PermR l l.length)) := by
  unfold m_ref51_permutation
  by_cases hn : (l.length : Int) = n
  case neg => rw [if_pos hn, bof_f (fun h => hn h.1)]
  have hl' : l.length ≤ 1000000 := hl.resolve_right fun h => h hn
  subst hn
  rw [if_neg (by simp), natI_eq, bnd_some]
  have key := rng_inv (ρ := Bool) (f := fun (_ : Nat) (k10 : Nat) (_ : Unit) => bnd (rng (ρ := Ctl Unit Bool) (fun (_ : Nat) (a28 : Int) (s25 : Int) => if a28 = (k10 : Int) then (bnd (chkI (s25 + 1)) fun n49 => some (.next n49)) else (some (.next s25))) l 0 0) fun res23 => fin res23 fun (s56 : Int) => if s56 ≠ 1 then (some (.ret false)) else (some (.next ()))) (xs := List.range l.length) (s₀ := ())
    (fun k _ => ∀ j : Nat, j < k → l.count (j : Int) = 1) (fun r => r = false ∧ ¬ PermR l l.length) (fun j hj => by omega) (fun k x _ hx hI => by
      obtain ⟨hlt, rfl⟩ := List.getElem?_eq_some_iff.1 hx
      have hk : k < l.length := by simpa using hlt
      rw [List.getElem_range, count_loop hl', bnd_some, fin_d]
      by_cases h1 : l.count (k : Int) = 1
      · rw [if_neg (by rw [h1]; simp)]
        exact .inl ⟨_, rfl, fun j hj => by
          by_cases hjk : j = k
          · rw [hjk]; exact h1
          · exact hI j (by omega)⟩
      · rw [if_pos (by omega)]
        refine .inr ⟨_, rfl, rfl, fun hp => h1 ?_⟩
        rw [hp.count_eq, count_one (rangeI_nodup _) (mem_rangeI.2 ⟨by omega, by omega⟩)])
  rcases key with ⟨_, hr, hc⟩ | ⟨r, hr, rfl, hno⟩
  · rw [show rngN _ _ _ = _ from hr, bnd_some, fin_d]
    rw [List.length_range] at hc
    have hp : PermR l l.length := (perm_of_subset (rangeI_nodup l.length) (fun x hx => by
      obtain ⟨h1, h2⟩ := mem_rangeI.1 hx
      have := hc x.toNat (by omega)
      rw [show ((x.toNat : Nat) : Int) = x from by omega] at this
      exact List.count_pos_iff.1 (by omega)) (by rw [rangeI_len]; omega)).symm
    rw [bof_t ⟨rfl, hp⟩]
  · rw [show rngN _ _ _ = _ from hr, bnd_some, fin_r, bof_f (fun h => hno h.2)]
end
section
open Go Go.RowKit
theorem rng_dec {α : Type} {f : Nat → α → Unit → Option (Ctl Unit Bool)} {xs : List α} (P : Nat → Prop) (h : ∀ k x, xs[k]? = some x → f k x () = if bof (P k) = true then some (.next ()) else some (.ret false)) :
    (bnd (rng (ρ := Bool) f xs 0 ()) fun r => fin r fun _ => some true) = some (bof (∀ k, k < xs.length → P k)) := by
  rcases rng_inv (f := f) (xs := xs) (s₀ := ()) (fun k _ => ∀ j, j < k → P j) (fun r => r = false ∧ ¬ ∀ k, k < xs.length → P k) (fun j hj => by omega) (fun k x _ hx hI => by
    rw [h k x hx]
    by_cases hp : P k
    · rw [bof_t hp, if_t]
      exact .inl ⟨_, rfl, upto_step hI hp⟩
    · rw [bof_f hp, if_f]
      exact .inr ⟨_, rfl, rfl, fun hh => hp (hh k (lt_of_get hx))⟩) with ⟨_, hr, hc⟩ | ⟨r, hr, rfl, hno⟩
  · rw [hr, bnd_some, fin_d, bof_t hc]
  · rw [hr, bnd_some, fin_r, bof_f hno]
theorem perm_n {l : List Int} {n : Nat} (hn : n ≤ 1000000) : m_symmetry_permutation l (n : Int) = some (bof (PermR l n)) := by
  rw [perm_eq (by omega)]
  exact bof_if ⟨fun h => by have : l.length = n := by omega
                            rw [← this]; exact h.2, fun h => ⟨by rw [h.len], by rw [h.len]; exact h⟩⟩
theorem refperm_n {l : List Int} {n : Nat} (hn : n ≤ 1000000) : m_ref51_permutation l (n : Int) = some (bof (PermR l n)) := by
  rw [refperm_eq (by omega)]
  exact bof_if ⟨fun h => by have : l.length = n := by omega
                            rw [← this]; exact h.2, fun h => ⟨by rw [h.len], by rw [h.len]; exact h⟩⟩
/-- Facts go to facts. -/
def FactsPerm (t : Tsk) (x : Swp) : Prop := PermR x.vars t.vars.length ∧ x.vals.length = t.vars.length ∧ ∀ (k : Nat), k < t.vars.length → ∃ (n : Nat) (a : Int) (l : List Int), t.vars[k]? = some (n : Int) ∧ x.vars[k]? = some a ∧ x.vals[k]? = some l ∧ atI t.vars a = some (n : Int) ∧ PermR l n
theorem facts_eq {t : Tsk} {x : Swp} (hok : TaskOk t) : m_symmetry_facts t x = some (bof (FactsPerm t x)) := by
  obtain ⟨hl, _, hv, _⟩ := hok
  unfold m_symmetry_facts
  rw [perm_n (by omega), bnd_some]
  by_cases h1 : PermR x.vars t.vars.length
  case neg => rw [bof_f h1, if_f, bnd_some, if_t, bof_f (fun h => h1 h.1)]
  rw [bof_t h1, if_t]
  by_cases h2 : x.vals.length = t.vars.length
  case neg => rw [if_pos (by omega), bnd_some, if_t, bof_f (fun h => h2 h.2.1)]
  rw [if_neg (by omega), bnd_some, if_f]
  rw [rng_dec (fun k => ∃ (n : Nat) (a : Int) (l : List Int), t.vars[k]? = some (n : Int) ∧ x.vars[k]? = some a ∧ x.vals[k]? = some l ∧ atI t.vars a = some (n : Int) ∧ PermR l n) (fun k y hy => by
    have hk := lt_of_get hy
    obtain ⟨a, ha⟩ := some_of_lt (l := x.vars) (k := k) (by rw [h1.len]; omega)
    obtain ⟨l, hll⟩ := some_of_lt (l := x.vals) (k := k) (by omega)
    have hy2 := hv k y hy
    obtain ⟨n, rfl⟩ := Int.eq_ofNat_of_zero_le (by omega : 0 ≤ y)
    obtain ⟨ha1, ha2⟩ := h1.mem (List.mem_of_getElem? ha)
    obtain ⟨j, rfl⟩ := Int.eq_ofNat_of_zero_le ha1
    obtain ⟨m, hm⟩ := some_of_lt (l := t.vars) (k := j) (by omega)
    rw [ha, bnd_some, atI_eq, hm, bnd_some]
    by_cases hmn : m = (n : Int)
    · rw [if_neg (by simpa using hmn), hll, bnd_some, perm_n (by omega), bnd_some]
      by_cases hp : PermR l n
      · rw [bof_t hp, if_t, bnd_some, if_f, bof_t ⟨n, _, l, hy, rfl, rfl, by rw [atI_eq, hm, hmn], hp⟩, if_t]
      · rw [bof_f hp, if_f, bnd_some, if_t, bof_f (fun ⟨n', a', l', q1, q2, q3, q4, q5⟩ => by
          have e1 : (n : Int) = n' := by rw [hy] at q1; exact Option.some.inj q1
          have e2 : l = l' := Option.some.inj q3
          have e3 : n = n' := by omega
          subst e2 e3; exact hp q5), if_f]
    · rw [if_pos hmn, bnd_some, if_t, bof_f (fun ⟨n', a', l', q1, q2, q3, q4, q5⟩ => by
        have e1 : (n : Int) = n' := by rw [hy] at q1; exact Option.some.inj q1
        have e2 : (j : Int) = a' := Option.some.inj q2
        rw [← e2, atI_eq, hm] at q4
        exact hmn (by rw [e1]; exact Option.some.inj q4)), if_f])]
  exact bof_if ⟨fun h => ⟨h1, h2, h⟩, fun h => h.2.2⟩
theorem shape_eq {t : Tsk} {x : Swp} (hok : TaskOk t) : m_ref51_shape t x = some (bof (FactsPerm t x ∧ PermR x.ops t.ops.length)) := by
  obtain ⟨hl, hlo, hv, _⟩ := hok
  unfold m_ref51_shape
  rw [refperm_n (by omega), bnd_some]
  by_cases h1 : PermR x.vars t.vars.length
  case neg => rw [bof_f h1, if_f, bnd_some, if_t, bof_f (fun h => h1 h.1.1)]
  rw [bof_t h1, if_t]
  by_cases h2 : x.vals.length = t.vars.length
  case neg => rw [if_pos (by omega), bnd_some, if_t, bof_f (fun h => h2 h.1.2.1)]
  rw [if_neg (by omega), refperm_n (by omega), bnd_some]
  by_cases h3 : PermR x.ops t.ops.length
  case neg => rw [bof_f h3, if_f, bnd_some, if_t, bof_f (fun h => h3 h.2)]
  rw [bof_t h3, if_t, bnd_some, if_f]
  rw [rng_dec (fun k => ∃ (n : Nat) (a : Int) (l : List Int), t.vars[k]? = some (n : Int) ∧ x.vars[k]? = some a ∧ x.vals[k]? = some l ∧ atI t.vars a = some (n : Int) ∧ PermR l n) (fun k y hy => by
    have hk := lt_of_get hy
    obtain ⟨a, ha⟩ := some_of_lt (l := x.vars) (k := k) (by rw [h1.len]; omega)
    obtain ⟨l, hll⟩ := some_of_lt (l := x.vals) (k := k) (by omega)
    have hy2 := hv k y hy
    obtain ⟨n, rfl⟩ := Int.eq_ofNat_of_zero_le (by omega : 0 ≤ y)
    obtain ⟨ha1, ha2⟩ := h1.mem (List.mem_of_getElem? ha)
    obtain ⟨j, rfl⟩ := Int.eq_ofNat_of_zero_le ha1
    obtain ⟨m, hm⟩ := some_of_lt (l := t.vars) (k := j) (by omega)
    rw [ha, bnd_some, atI_eq, hm, bnd_some]
    by_cases hmn : m = (n : Int)
    · rw [if_neg (by simpa using hmn), hll, bnd_some, refperm_n (by omega), bnd_some]
      by_cases hp : PermR l n
      · rw [bof_t hp, if_t, bnd_some, if_f, bof_t ⟨n, _, l, hy, rfl, rfl, by rw [atI_eq, hm, hmn], hp⟩, if_t]
      · rw [bof_f hp, if_f, bnd_some, if_t, bof_f (fun ⟨n', a', l', q1, q2, q3, q4, q5⟩ => by
          have e1 : (n : Int) = n' := by rw [hy] at q1; exact Option.some.inj q1
          have e2 : l = l' := Option.some.inj q3
          have e3 : n = n' := by omega
          subst e2 e3; exact hp q5), if_f]
    · rw [if_pos hmn, bnd_some, if_t, bof_f (fun ⟨n', a', l', q1, q2, q3, q4, q5⟩ => by
        have e1 : (n : Int) = n' := by rw [hy] at q1; exact Option.some.inj q1
        have e2 : (j : Int) = a' := Option.some.inj q2
        rw [← e2, atI_eq, hm] at q4
        exact hmn (by rw [e1]; exact Option.some.inj q4)), if_f])]
  exact bof_if ⟨fun h => ⟨⟨h1, h2, h⟩, h3⟩, fun h => h.1.2.2⟩
theorem equal_facts (a b : List Fct) : m_slices_Equal_Lapi_Fact_api_Fact a b = some (bof (a = b)) := by
  unfold m_slices_Equal_Lapi_Fact_api_Fact
  by_cases hl : a.length = b.length
  case neg => rw [if_pos (by omega), bof_f (fun h => hl (by rw [h]))]
  rw [if_neg (by omega), rng_dec (fun k => a[k]? = b[k]?) (fun k y hy => by
    obtain ⟨z, hz⟩ := some_of_lt (l := b) (k := k) (by have := lt_of_get hy; omega)
    rw [hz, bnd_some]
    by_cases h : y = z
    · rw [if_neg (by simp [h]), bof_t (by rw [hy, h]), if_t]
    · rw [if_pos (fun hh => h (by cases y; cases z; simpa using hh)), bof_f (by rw [hy]; simpa using h), if_f])]
  refine bof_if ⟨fun h => List.ext_getElem? fun k => ?_, fun h => by rw [h]; exact fun _ _ => rfl⟩
  by_cases hk : k < a.length
  · exact h k hk
  · rw [List.getElem?_eq_none (by omega), List.getElem?_eq_none (by omega)]
theorem base_facts (a b : List Fct) : m_base_Facts a b = some (bof (a = b)) := equal_facts a b
theorem alike1 (a b : Eff) : m_symmetry_alike_l1 a b = some (bof (a = b)) := by
  unfold m_symmetry_alike_l1
  by_cases h1 : a.var = b.var
  case neg => rw [if_neg h1, bnd_some, bof_f (fun h => h1 (by rw [h]))]
  by_cases h2 : a.val = b.val
  case neg => rw [if_pos h1, if_neg h2, bnd_some, bof_f (fun h => h2 (by rw [h]))]
  rw [if_pos h1, if_pos h2, equal_facts, bnd_some]
  by_cases h3 : a.cond = b.cond
  · rw [bof_t h3, if_t, bnd_some, bof_t (by cases a; cases b; simp_all)]
  · rw [bof_f h3, if_f, bnd_some, bof_f (fun h => h3 (by rw [h]))]
theorem equal_effs (a b : List Eff) : m_slices_EqualFunc_Lapi_Effect_Lapi_Effect_api_Effect_api_Effect__symmetry_alike_l1 a b = some (bof (a = b)) := by
  unfold m_slices_EqualFunc_Lapi_Effect_Lapi_Effect_api_Effect_api_Effect__symmetry_alike_l1
  by_cases hl : a.length = b.length
  case neg => rw [if_pos (by omega), bof_f (fun h => hl (by rw [h]))]
  rw [if_neg (by omega), rng_dec (fun k => a[k]? = b[k]?) (fun k y hy => by
    obtain ⟨z, hz⟩ := some_of_lt (l := b) (k := k) (by have := lt_of_get hy; omega)
    rw [hz, bnd_some, alike1, bnd_some]
    by_cases h : y = z
    · rw [bof_t h, if_t, bof_t (by rw [hy, h]), if_t]
    · rw [bof_f h, if_f, bof_f (by rw [hy]; simpa using h), if_f])]
  refine bof_if ⟨fun h => List.ext_getElem? fun k => ?_, fun h => by rw [h]; exact fun _ _ => rfl⟩
  by_cases hk : k < a.length
  · exact h k hk
  · rw [List.getElem?_eq_none (by omega), List.getElem?_eq_none (by omega)]
theorem alike_eq (p q : Opr) : m_symmetry_alike p q = some (bof (p.cost = q.cost ∧ p.pre = q.pre ∧ p.effs = q.effs)) := by
  unfold m_symmetry_alike
  by_cases h1 : p.cost = q.cost
  case neg => rw [if_neg h1, bnd_some, bof_f (fun h => h1 h.1)]
  rw [if_pos h1, equal_facts, bnd_some]
  by_cases h2 : p.pre = q.pre
  case neg => rw [bof_f h2, if_f, bnd_some, bof_f (fun h => h2 h.2.1)]
  rw [bof_t h2, if_t, equal_effs, bnd_some]
  by_cases h3 : p.effs = q.effs
  · rw [bof_t h3, if_t, bnd_some, bof_t ⟨h1, h2, h3⟩]
  · rw [bof_f h3, if_f, bnd_some, bof_f (fun h => h3 h.2.2)]
/-- The image of a fact. -/
def imF (x : Swp) (f : Fct) : Fct := ⟨(x.vars[f.var.toNat]?).getD 0, (((x.vals[f.var.toNat]?).getD [])[f.val.toNat]?).getD 0⟩
def imL (x : Swp) (fs : List Fct) : List Fct := srt_symmetry_mapped_l1 (fs.map (imF x))
def imE (x : Swp) (e : Eff) : Eff := ⟨imL x e.cond, (imF x ⟨e.var, e.val⟩).var, (imF x ⟨e.var, e.val⟩).val⟩
def imO (x : Swp) (o : Opr) : Opr := ⟨⟨#[]⟩, o.cost, imL x o.pre, o.effs.map (imE x)⟩
theorem imF_at {t : Tsk} {x : Swp} {f : Fct} (hp : FactsPerm t x) (hf : FactOk t.vars f) : ∃ l, atI x.vars f.var = some (imF x f).var ∧ atI x.vals f.var = some l ∧ atI l f.val = some (imF x f).val ∧ 0 ≤ (imF x f).var ∧ 0 ≤ (imF x f).val := by
  obtain ⟨h1, h2, n, hn, h3⟩ := hf
  obtain ⟨fv, fz⟩ := f
  simp only at h1 h2 hn h3 ⊢
  obtain ⟨j, rfl⟩ := Int.eq_ofNat_of_zero_le h1
  obtain ⟨i, rfl⟩ := Int.eq_ofNat_of_zero_le h2
  rw [show ((j : Int)).toNat = j from by omega] at hn
  obtain ⟨m, a, l, q1, q2, q3, q4, q5⟩ := hp.2.2 j (lt_of_get hn)
  have e : (m : Int) = n := by rw [hn] at q1; exact (Option.some.inj q1).symm
  obtain ⟨z, hz⟩ := some_of_lt (l := l) (k := i) (by rw [q5.len]; omega)
  have ha := hp.1.mem (List.mem_of_getElem? q2)
  have hz' := q5.mem (List.mem_of_getElem? hz)
  refine ⟨l, ?_, ?_, ?_, ?_, ?_⟩ <;> simp [imF, atI_eq, q2, q3, hz] <;> omega
end
section
open Go Go.RowKit
theorem facts_pw {vars : List Int} {f : List Fct} (h : FactsOk vars f) : (∀ x ∈ f, FactOk vars x) ∧ f.Pairwise fun x y => x.var < y.var := by
  refine ⟨fun x hx => by obtain ⟨i, hi⟩ := List.getElem?_of_mem hx; exact h.1 i x hi, ?_⟩
  rw [List.pairwise_iff_getElem]
  intro i j hi hj hij
  exact factsOk_lt h j i _ _ hij (List.getElem?_eq_getElem hi) (List.getElem?_eq_getElem hj)
theorem sorted_eq {a b : List Fct} (hp : a.Perm b) (ha : a.Pairwise fun x y => x.var < y.var) (hb : b.Pairwise fun x y => x.var < y.var) : a = b :=
  List.Perm.eq_of_pairwise (fun x y _ _ h1 h2 => by omega) ha hb hp
def VarsNe (f : List Fct) : Prop := f.Pairwise fun x y => x.var ≠ y.var
theorem VarsNe.perm {a b : List Fct} (hp : a.Perm b) (h : VarsNe a) : VarsNe b := (hp.pairwise_iff (fun h e => h e.symm)).1 h
theorem srt_strict {a : List Fct} (h : VarsNe a) : (srt_symmetry_mapped_l1 a).Pairwise fun x y => x.var < y.var := by
  have h1 := srtF_sorted a
  have h2 : VarsNe (srt_symmetry_mapped_l1 a) := h.perm (srtF_perm a).symm
  exact (h1.and h2).imp fun ⟨p, q⟩ => by omega
theorem imF_var {t : Tsk} {x : Swp} {f g : Fct} (hp : FactsPerm t x) (hf : FactOk t.vars f) (hg : FactOk t.vars g) (h : (imF x f).var = (imF x g).var) : f.var = g.var := by
  obtain ⟨_, hf1, _⟩ := imF_at hp hf
  obtain ⟨_, hg1, _⟩ := imF_at hp hg
  obtain ⟨i, hi, hi'⟩ := atI_some hf1
  obtain ⟨j, hj, hj'⟩ := atI_some hg1
  rw [h, ← hj'] at hi'
  have h1 : i < x.vars.length := by rw [hj'] at hi'; exact lt_of_get hi'
  have h2 := lt_of_get hj'
  rw [List.getElem?_eq_getElem h1, List.getElem?_eq_getElem h2] at hi'
  have hij := (List.getElem_inj hp.1.nodup).1 (Option.some.inj hi')
  rw [hi, hj, hij]
theorem im_ne {t : Tsk} {x : Swp} {fs : List Fct} (hp : FactsPerm t x) (hf : FactsOk t.vars fs) : VarsNe (fs.map (imF x)) := by
  obtain ⟨h1, h2⟩ := facts_pw hf
  unfold VarsNe
  rw [List.pairwise_map]
  refine List.Pairwise.imp_of_mem (fun {a b} ha hb hab => ?_) h2
  intro e
  have := imF_var hp (h1 a ha) (h1 b hb) e
  omega
theorem facts_len {t : Tsk} {fs : List Fct} (hok : TaskOk t) (hf : FactsOk t.vars fs) : fs.length ≤ 64 := by have := factsOk_len hf; have := hok.1; omega
theorem map_take {α β : Type} {f : α → β} {l : List α} {k : Nat} {x : α} (h : l[k]? = some x) : (l.take (k + 1)).map f = (l.take k).map f ++ [f x] := by
  rw [List.take_add_one, h]; simp
theorem mapped_eq {t : Tsk} {x : Swp} {fs : List Fct} (hok : TaskOk t) (hp : FactsPerm t x) (hf : FactsOk t.vars fs) : m_symmetry_mapped x fs = some (imL x fs) := by
  have hl := facts_len hok hf
  unfold m_symmetry_mapped
  rw [rng_from (fun k => (fs.take k).map (imF x)) (by simp) (fun k f hk => by
    obtain ⟨l, h1, h2, h3, _⟩ := imF_at hp (hf.1 k f hk)
    have := lt_of_get hk
    rw [h1, bnd_some, h2, bnd_some, h3, bnd_some, appI_eq (by simp; omega) (by simp; omega), bnd_some, map_take hk]), bnd_some, fin_d, List.take_length, if_pos (by simp; omega), bnd_some]
  rfl
/-- A fact, set into facts that are sorted. -/
def insF (f : Fct) : List Fct → List Fct
  | [] => [f]
  | a :: l => if f.var < a.var then f :: a :: l else a :: insF f l
theorem with_t {f : Fct} {ρ : Type} : ∀ (l acc : List Fct) (k : Nat), acc.length + l.length ≤ 1000 → rng (ρ := ρ) (fun (_ : Nat) (a18 : Fct) (s15 : (List Fct) × Bool) => bnd (bnd (if (!s15.2) = true then (if f.var < a18.var then (some true) else (some false)) else (some false) : Option Bool) fun y54 => if y54 = true then (bnd (appI 16 s15.1 [f]) fun u65 => some (u65, true)) else (some (s15.1, s15.2)) : Option ((List Fct) × Bool)) fun y48 => bnd (appI 16 y48.1 [a18]) fun u81 => some (.next (u81, y48.2))) l k (acc, true) = some (.done (acc ++ l, true))
  | [], acc, k, _ => by simp [rng]
  | a :: l, acc, k, h => by
    simp at h
    have := with_t (f := f) (ρ := ρ) l (acc ++ [a]) (k + 1) (by simp; omega)
    rw [rng, not_t, bnd_some, if_f, bnd_some, appI_eq (by simp; omega) (by simp; omega), bnd_some]
    simp only
    rw [this]; simp
theorem with_f {f : Fct} {ρ : Type} : ∀ (l acc : List Fct) (k : Nat), acc.length + l.length ≤ 900 → ∃ r : List Fct × Bool, rng (ρ := ρ) (fun (_ : Nat) (a18 : Fct) (s15 : (List Fct) × Bool) => bnd (bnd (if (!s15.2) = true then (if f.var < a18.var then (some true) else (some false)) else (some false) : Option Bool) fun y54 => if y54 = true then (bnd (appI 16 s15.1 [f]) fun u65 => some (u65, true)) else (some (s15.1, s15.2)) : Option ((List Fct) × Bool)) fun y48 => bnd (appI 16 y48.1 [a18]) fun u81 => some (.next (u81, y48.2))) l k (acc, false) = some (.done r) ∧ r.1.length ≤ 1000 ∧ (if r.2 = true then r.1 else r.1 ++ [f]) = acc ++ insF f l
  | [], acc, k, h => ⟨(acc, false), by simp [rng], by simp at h; simp; omega, by simp [insF]⟩
  | a :: l, acc, k, h => by
    simp at h
    rw [rng, not_f]
    by_cases hlt : f.var < a.var
    · have := with_t (f := f) (ρ := ρ) l (acc ++ [f] ++ [a]) (k + 1) (by simp; omega)
      refine ⟨(acc ++ [f] ++ [a] ++ l, true), ?_, ?_, ?_⟩
      · rw [if_pos hlt, bnd_some, if_t, appI_eq (by simp; omega) (by simp; omega), bnd_some, bnd_some, appI_eq (by simp; omega) (by simp; omega), bnd_some]
        simp only
        rw [this]
      · simp; omega
      · simp [insF, hlt]
    · obtain ⟨r, h1, h2, h3⟩ := with_f (f := f) (ρ := ρ) l (acc ++ [a]) (k + 1) (by simp; omega)
      refine ⟨r, ?_, h2, ?_⟩
      · rw [if_neg hlt, bnd_some, if_f, bnd_some, appI_eq (by simp; omega) (by simp; omega), bnd_some]
        simp only
        rw [h1]
      · rw [h3]; simp [insF, hlt]
theorem with_eq {f : Fct} {l : List Fct} (h : l.length ≤ 900) : m_ref06_With l f = some (insF f l) := by
  unfold m_ref06_With
  obtain ⟨⟨r1, r2⟩, h1, h2, h3⟩ := with_f (f := f) (ρ := List Fct) l [] 0 (by simpa using h)
  rw [h1, bnd_some, fin_d]
  simp only at h2 h3 ⊢
  cases r2 with
  | true => rw [not_t, bnd_some]; simpa using h3
  | false => rw [not_f, appI_eq (by simp; omega) (by simp; omega), bnd_some, bnd_some]; simpa using h3
theorem insF_perm (f : Fct) : ∀ l, (insF f l).Perm (f :: l)
  | [] => by simp [insF]
  | a :: l => by
    unfold insF
    split
    · exact List.Perm.refl _
    · exact ((insF_perm f l).cons a).trans (List.Perm.swap f a l)
theorem insF_sorted {f : Fct} : ∀ {l : List Fct}, l.Pairwise (fun x y => x.var < y.var) → (∀ y ∈ l, y.var ≠ f.var) → (insF f l).Pairwise fun x y => x.var < y.var
  | [], _, _ => by simp [insF]
  | a :: l, h, hn => by
    obtain ⟨h1, h2⟩ := List.pairwise_cons.1 h
    unfold insF
    split
    · rename_i hlt
      refine List.pairwise_cons.2 ⟨fun y hy => ?_, h⟩
      rcases List.mem_cons.1 hy with rfl | hy
      · exact hlt
      · have := h1 y hy; omega
    · rename_i hlt
      refine List.pairwise_cons.2 ⟨fun y hy => ?_, insF_sorted h2 fun y hy => hn y (List.mem_cons_of_mem _ hy)⟩
      rcases List.mem_cons.1 ((insF_perm f l).mem_iff.1 hy) with rfl | hy
      · have := hn a List.mem_cons_self; omega
      · exact h1 y hy
theorem value_no {l : List Fct} {v : Int} (h : ∀ y ∈ l, y.var ≠ v) : m_ref06_Value l v = some (-1) := by
  unfold m_ref06_Value
  rw [rng_unit (fun k y hy => by rw [if_neg (h y (List.mem_of_getElem? hy))]), bnd_some, fin_d]
theorem make_eq {l : List Fct} (hl : l.length ≤ 64) (hv : ∀ x ∈ l, 0 ≤ x.var ∧ 0 ≤ x.val) (hn : VarsNe l) : m_ref06_Make l = some (srt_symmetry_mapped_l1 l, 0) := by
  unfold m_ref06_Make
  rw [rng_unit (fun k y hy => by
    have := hv y (List.mem_of_getElem? hy)
    rw [if_neg (by omega), if_neg (by omega), bnd_some, if_f]), bnd_some, fin_d]
  obtain ⟨s, h1, h2, h3⟩ := rng_all (ρ := List Fct × Int) (f := fun (_ : Nat) (a60 : Fct) (s57 : (List Fct)) => bnd (m_ref06_Value s57 a60.var) fun q88 => bnd (if 0 ≤ q88 then (if q88 ≠ a60.val then (some true) else (some false)) else (some false) : Option Bool) fun y96 => if y96 = true then (some (.ret (([] : List Fct), 2))) else (if q88 < 0 then (bnd (m_ref06_With s57 a60) fun q108 => some (.next q108)) else (some (.next s57)))) (xs := l) (s₀ := []) (fun k s => s.Perm (l.take k) ∧ s.Pairwise fun x y => x.var < y.var) ⟨by simp, by simp⟩ (fun k f s hk hI => by
    obtain ⟨i1, i2⟩ := hI
    have hne : ∀ y ∈ s, y.var ≠ f.var := fun y hy => by
      have hy := i1.mem_iff.1 hy
      have hd : f ∈ l.drop k := List.mem_of_getElem? (i := 0) (by rw [List.getElem?_drop, Nat.add_zero]; exact hk)
      have hn' := hn
      unfold VarsNe at hn'
      rw [← List.take_append_drop k l, List.pairwise_append] at hn'
      exact hn'.2.2 y hy f hd
    have hsl : s.length ≤ 900 := by rw [i1.length_eq, List.length_take]; omega
    rw [value_no hne, bnd_some, if_neg (by omega), bnd_some, if_f, if_pos (by omega), with_eq hsl, bnd_some]
    refine ⟨_, rfl, ?_, insF_sorted i2 hne⟩
    rw [List.take_add_one, hk]
    exact (insF_perm f s).trans ((i1.cons f).trans (List.perm_append_singleton f _).symm))
  rw [h1, bnd_some, fin_d]
  rw [List.take_length] at h2
  rw [sorted_eq (h2.trans (srtF_perm l).symm) h3 (srt_strict hn)]
theorem reffact_eq {t : Tsk} {x : Swp} {f : Fct} (hp : FactsPerm t x) (hf : FactOk t.vars f) : m_ref51_Fact x f = some (imF x f) := by
  unfold m_ref51_Fact
  obtain ⟨l, h1, h2, h3, _⟩ := imF_at hp hf
  rw [h1, bnd_some, h2, bnd_some, h3, bnd_some]
theorem reffacts_eq {t : Tsk} {x : Swp} {fs : List Fct} (hok : TaskOk t) (hp : FactsPerm t x) (hf : FactsOk t.vars fs) : m_ref51_Facts x fs = some (imL x fs) := by
  have hl := facts_len hok hf
  unfold m_ref51_Facts
  rw [rng_from (fun k => (fs.take k).map (imF x)) (by simp) (fun k f hk => by
    have := lt_of_get hk
    rw [reffact_eq hp (hf.1 k f hk), bnd_some, appI_eq (by simp; omega) (by simp; omega), bnd_some, map_take hk]), bnd_some, fin_d, List.take_length, make_eq (by simpa using hl) (fun y hy => by
      obtain ⟨f, hf', rfl⟩ := List.mem_map.1 hy
      obtain ⟨_, _, _, _, h⟩ := imF_at hp ((facts_pw hf).1 f hf')
      exact h) (im_ne hp hf), bnd_some]
  rfl
theorem image_eq {t : Tsk} {x : Swp} {o : Opr} (hok : TaskOk t) (hp : FactsPerm t x) (ho : OpOk t.vars o) : m_symmetry_image x o = some (imO x o) := by
  obtain ⟨_, _, hl, _, hpre, heff⟩ := ho
  unfold m_symmetry_image
  rw [mapped_eq hok hp hpre, bnd_some, bnd_some, rng_from (fun k => (o.effs.take k).map (imE x)) (by simp) (fun k e hk => by
    obtain ⟨h1, h2⟩ := heff k e hk
    obtain ⟨l, g1, g2, g3, _⟩ := imF_at hp h2
    have := lt_of_get hk
    rw [show e.var = (⟨e.var, e.val⟩ : Fct).var from rfl, g1, bnd_some, g2, bnd_some, show e.val = (⟨e.var, e.val⟩ : Fct).val from rfl, g3, bnd_some, mapped_eq hok hp h1, bnd_some, appI_eq (by simp; omega) (by simp; omega), bnd_some, map_take hk]
    rfl), bnd_some, fin_d, List.take_length]
  rfl
theorem eff_ext {a b : Eff} : a = b ↔ a.var = b.var ∧ a.val = b.val ∧ a.cond = b.cond := ⟨fun h => by rw [h]; exact ⟨rfl, rfl, rfl⟩, fun ⟨h1, h2, h3⟩ => by cases a; cases b; simp_all⟩
theorem fits_eq {t : Tsk} {x : Swp} {o p : Opr} (hok : TaskOk t) (hp : FactsPerm t x) (ho : OpOk t.vars o) : m_ref51_fits x o p = some (bof (o.cost = p.cost ∧ imL x o.pre = p.pre ∧ o.effs.map (imE x) = p.effs)) := by
  obtain ⟨_, _, hl, _, hpre, heff⟩ := ho
  unfold m_ref51_fits
  by_cases h1 : o.cost = p.cost
  case neg => rw [if_pos h1, bnd_some, if_t, bof_f (fun h => h1 h.1)]
  rw [if_neg (by simpa using h1)]
  by_cases h2 : o.effs.length = p.effs.length
  case neg => rw [if_pos (by omega), bnd_some, if_t, bof_f (fun h => h2 (by rw [← h.2.2]; simp))]
  rw [if_neg (by omega), reffacts_eq hok hp hpre, bnd_some, base_facts, bnd_some]
  by_cases h3 : imL x o.pre = p.pre
  case neg => rw [bof_f h3, if_f, bnd_some, if_t, bof_f (fun h => h3 h.2.1)]
  rw [bof_t h3, if_t, bnd_some, if_f, rng_dec (fun k => (o.effs.map (imE x))[k]? = p.effs[k]?) (fun k e hk => by
    obtain ⟨g1, g2⟩ := heff k e hk
    obtain ⟨z, hz⟩ := some_of_lt (l := p.effs) (k := k) (by have := lt_of_get hk; omega)
    have hE : (o.effs.map (imE x))[k]? = some (imE x e) := by rw [List.getElem?_map, hk]; rfl
    rw [reffact_eq hp g2, bnd_some, hz, bnd_some, hE]
    have hex := @eff_ext (imE x e) z
    by_cases k1 : (imF x ⟨e.var, e.val⟩).var = z.var
    case neg => rw [if_pos k1, bnd_some, if_t, bof_f (fun h => k1 (hex.1 (Option.some.inj h)).1), if_f]
    rw [if_neg (by simpa using k1), bnd_some]
    by_cases k2 : (imF x ⟨e.var, e.val⟩).val = z.val
    case neg => rw [if_pos k2, bnd_some, if_t, bof_f (fun h => k2 (hex.1 (Option.some.inj h)).2.1), if_f]
    rw [if_neg (by simpa using k2), bnd_some, reffacts_eq hok hp g1, bnd_some, base_facts, bnd_some]
    by_cases k3 : imL x e.cond = z.cond
    · rw [bof_t k3, if_t, bnd_some, if_f, bof_t (by rw [hex.2 ⟨k1, k2, k3⟩]), if_t]
    · rw [bof_f k3, if_f, bnd_some, if_t, bof_f (fun h => k3 (hex.1 (Option.some.inj h)).2.2), if_f])]
  refine bof_if ⟨fun h => ⟨h1, h3, List.ext_getElem? fun k => ?_⟩, fun h => by rw [h.2.2]; exact fun _ _ => rfl⟩
  by_cases hk : k < o.effs.length
  · exact h k hk
  · rw [List.getElem?_eq_none (by simp; omega), List.getElem?_eq_none (by omega)]
/-- A map is a symmetry of a task. -/
def SymP (t : Tsk) (x : Swp) : Prop := FactsPerm t x ∧ PermR x.ops t.ops.length ∧ imL x t.goal = t.goal ∧ ∀ k, k < t.ops.length → ∃ (o p : Opr) (a : Int), t.ops[k]? = some o ∧ x.ops[k]? = some a ∧ atI t.ops a = some p ∧ o.cost = p.cost ∧ imL x o.pre = p.pre ∧ o.effs.map (imE x) = p.effs
theorem is_eq {t : Tsk} {x : Swp} (hok : TaskOk t) : m_symmetry_is t x = some (bof (SymP t x)) := by
  unfold m_symmetry_is
  rw [facts_eq hok, bnd_some]
  by_cases h1 : FactsPerm t x
  case neg => rw [bof_f h1, if_f, bnd_some, if_t, bof_f (fun h => h1 h.1)]
  have hlo := hok.2.1
  rw [bof_t h1, if_t, perm_n (by omega), bnd_some]
  by_cases h2 : PermR x.ops t.ops.length
  case neg => rw [bof_f h2, if_f, bnd_some, if_t, bof_f (fun h => h2 h.2.1)]
  rw [bof_t h2, if_t, mapped_eq hok h1 hok.2.2.2.2.1, bnd_some, equal_facts, bnd_some]
  by_cases h3 : imL x t.goal = t.goal
  case neg => rw [bof_f h3, if_f, bnd_some, if_t, bof_f (fun h => h3 h.2.2.1)]
  rw [bof_t h3, if_t, bnd_some, if_f, rng_dec (fun k => ∃ (o p : Opr) (a : Int), t.ops[k]? = some o ∧ x.ops[k]? = some a ∧ atI t.ops a = some p ∧ o.cost = p.cost ∧ imL x o.pre = p.pre ∧ o.effs.map (imE x) = p.effs) (fun k o hk => by
    have := lt_of_get hk
    obtain ⟨a, ha⟩ := some_of_lt (l := x.ops) (k := k) (by rw [h2.len]; omega)
    obtain ⟨ha1, ha2⟩ := h2.mem (List.mem_of_getElem? ha)
    obtain ⟨j, rfl⟩ := Int.eq_ofNat_of_zero_le ha1
    obtain ⟨p, hp⟩ := some_of_lt (l := t.ops) (k := j) (by omega)
    rw [ha, bnd_some, atI_eq, hp, bnd_some, image_eq hok h1 (hok.2.2.2.2.2 k o hk), bnd_some, alike_eq, bnd_some]
    have e : (∃ (o p : Opr) (a : Int), t.ops[k]? = some o ∧ some (j : Int) = some a ∧ atI t.ops a = some p ∧ o.cost = p.cost ∧ imL x o.pre = p.pre ∧ o.effs.map (imE x) = p.effs) ↔ ((imO x o).cost = p.cost ∧ (imO x o).pre = p.pre ∧ (imO x o).effs = p.effs) := by
      constructor
      · rintro ⟨o', p', a', q1, q2, q3, q4⟩
        obtain rfl : o = o' := by rw [hk] at q1; exact Option.some.inj q1
        obtain rfl := Option.some.inj q2
        rw [atI_eq, hp] at q3
        obtain rfl := Option.some.inj q3
        exact q4
      · intro h
        exact ⟨o, p, j, hk, rfl, by rw [atI_eq, hp], h⟩
    rw [bof_eq e])]
  exact bof_if ⟨fun h => ⟨h1, h2, h3, h⟩, fun h => h.2.2.2⟩
theorem refcheck_eq {t : Tsk} {x : Swp} : m_ref51_Check t x = some (bof (TaskOk t ∧ SymP t x)) := by
  unfold m_ref51_Check m_base_Good
  rw [bnd_some]
  by_cases hok : TaskOk t
  case neg => rw [bof_f hok, if_f, bnd_some, if_t, bof_f (fun h => hok h.1)]
  rw [bof_t hok, if_t, shape_eq hok, bnd_some]
  by_cases h12 : FactsPerm t x ∧ PermR x.ops t.ops.length
  case neg => rw [bof_f h12, if_f, bnd_some, if_t, bof_f (fun h => h12 ⟨h.2.1, h.2.2.1⟩)]
  obtain ⟨h1, h2⟩ := h12
  have hlo := hok.2.1
  rw [bof_t ⟨h1, h2⟩, if_t, reffacts_eq hok h1 hok.2.2.2.2.1, bnd_some, base_facts, bnd_some]
  by_cases h3 : imL x t.goal = t.goal
  case neg => rw [bof_f h3, if_f, bnd_some, if_t, bof_f (fun h => h3 h.2.2.2.1)]
  rw [bof_t h3, if_t, bnd_some, if_f, rng_dec (fun k => ∃ (o p : Opr) (a : Int), t.ops[k]? = some o ∧ x.ops[k]? = some a ∧ atI t.ops a = some p ∧ o.cost = p.cost ∧ imL x o.pre = p.pre ∧ o.effs.map (imE x) = p.effs) (fun k o hk => by
    have := lt_of_get hk
    obtain ⟨a, ha⟩ := some_of_lt (l := x.ops) (k := k) (by rw [h2.len]; omega)
    obtain ⟨ha1, ha2⟩ := h2.mem (List.mem_of_getElem? ha)
    obtain ⟨j, rfl⟩ := Int.eq_ofNat_of_zero_le ha1
    obtain ⟨p, hp⟩ := some_of_lt (l := t.ops) (k := j) (by omega)
    rw [ha, bnd_some, atI_eq, hp, bnd_some, fits_eq hok h1 (hok.2.2.2.2.2 k o hk), bnd_some]
    have e : (∃ (o p : Opr) (a : Int), t.ops[k]? = some o ∧ some (j : Int) = some a ∧ atI t.ops a = some p ∧ o.cost = p.cost ∧ imL x o.pre = p.pre ∧ o.effs.map (imE x) = p.effs) ↔ (o.cost = p.cost ∧ imL x o.pre = p.pre ∧ o.effs.map (imE x) = p.effs) := by
      constructor
      · rintro ⟨o', p', a', q1, q2, q3, q4⟩
        obtain rfl : o = o' := by rw [hk] at q1; exact Option.some.inj q1
        obtain rfl := Option.some.inj q2
        rw [atI_eq, hp] at q3
        obtain rfl := Option.some.inj q3
        exact q4
      · intro h
        exact ⟨o, p, j, hk, rfl, by rw [atI_eq, hp], h⟩
    rw [bof_eq e])]
  exact bof_if ⟨fun h => ⟨hok, h1, h2, h3, h⟩, fun h => h.2.2.2.2⟩
theorem check_eq {t : Tsk} {x : Swp} : m_symmetry_Check t x = some (bof (TaskOk t ∧ SymP t x)) := by
  unfold m_symmetry_Check m_task_Check
  rw [bnd_some]
  by_cases hok : TaskOk t
  case neg => rw [if_neg (fun h => hok (check_ok.1 h)), bnd_some, bof_f (fun h => hok h.1)]
  rw [if_pos (check_ok.2 hok), is_eq hok, bnd_some]
  by_cases h : SymP t x
  · rw [bof_t h, if_t, bnd_some, bof_t ⟨hok, h⟩]
  · rw [bof_f h, if_f, bnd_some, bof_f (fun hh => h hh.2)]
end
section
open Go Go.RowKit
theorem demand1 {t : Tsk} {x : Swp} (hok : TaskOk t) : m_symmetry_demand t [x] = some ⟨if bof (SymP t x) = true then 0 else 2⟩ := by
  unfold m_symmetry_demand m_task_Check
  rw [bnd_some, if_neg (by rw [check_ok.2 hok]; simp)]
  by_cases h : SymP t x
  · rw [rng_unit (fun k y hy => by
      obtain rfl : y = x := by simpa using List.mem_of_getElem? hy
      rw [is_eq hok, bnd_some, bof_t h, if_t]), bnd_some, fin_d, bof_t h, if_t]
  · have : rng (ρ := Err) (fun (_ : Nat) (a41 : Swp) (_ : Unit) => bnd (m_symmetry_is t a41) fun q77 => if q77 = true then some (.next ()) else some (.ret (⟨2⟩ : Err))) [x] 0 () = some (.ret ⟨2⟩) := by
      simp only [rng]
      rw [is_eq hok, bnd_some, bof_f h, if_f]
    rw [this, bnd_some, fin_r, bof_f h, if_f]
theorem demand_no {t : Tsk} {xs : List Swp} (hok : ¬ TaskOk t) : m_symmetry_demand t xs = some ⟨checkN t⟩ := by
  unfold m_symmetry_demand m_task_Check
  rw [bnd_some, if_pos (fun h => hok (check_ok.1 h))]
/-- The image of a state. -/
def ImS (x : Swp) (s r : List Int) : Prop := r.length = s.length ∧ ∀ (k : Nat) v, s[k]? = some v → ∃ (a : Nat) (l : List Int) (z : Int), x.vars[k]? = some (a : Int) ∧ x.vals[k]? = some l ∧ atI l v = some z ∧ r[a]? = some z
theorem moved_eq {t : Tsk} {x : Swp} {s : List Int} (hok : TaskOk t) (hp : FactsPerm t x) (hs : StateOk t.vars s) : ∃ r, m_symmetry_moved x s = some r ∧ ImS x s r := by
  obtain ⟨hsl, hsv⟩ := hs
  have hl := hok.1
  unfold m_symmetry_moved
  rw [mkI_eq (by omega) (by omega), bnd_some]
  obtain ⟨r, h1, h2, h3⟩ := rng_all (ρ := List Int) (f := fun (k42 : Nat) (a43 : Int) (s40 : (List Int)) => bnd (x.vars[k42]?) fun a65 => bnd (x.vals[k42]?) fun a75 => bnd (atI a75 a43) fun a88 => bnd (atI s40 a65) fun _ => some (.next (s40.set (a65).toNat a88))) (xs := s) (s₀ := List.replicate s.length 0)
    (fun k r => r.length = s.length ∧ ∀ (j : Nat) v, j < k → s[j]? = some v → ∃ (a : Nat) (l : List Int) (z : Int), x.vars[j]? = some (a : Int) ∧ x.vals[j]? = some l ∧ atI l v = some z ∧ r[a]? = some z) ⟨by simp, fun j v hj => by omega⟩ (fun k v r hk hI => by
    obtain ⟨i1, i2⟩ := hI
    have hlt := lt_of_get hk
    obtain ⟨n, a, l, q1, q2, q3, q4, q5⟩ := hp.2.2 k (by omega)
    obtain ⟨ha1, ha2⟩ := hp.1.mem (List.mem_of_getElem? q2)
    obtain ⟨a, rfl⟩ := Int.eq_ofNat_of_zero_le ha1
    obtain ⟨h1, h2⟩ := hsv k v n hk q1
    obtain ⟨u, rfl⟩ := Int.eq_ofNat_of_zero_le h1
    obtain ⟨z, hz⟩ := some_of_lt (l := l) (k := u) (by rw [q5.len]; omega)
    obtain ⟨y, hy⟩ := some_of_lt (l := r) (k := a) (by omega)
    rw [q2, bnd_some, q3, bnd_some, atI_eq, hz, bnd_some, atI_eq, hy, bnd_some]
    refine ⟨_, rfl, by simpa using i1, fun j v' hj hv' => ?_⟩
    rw [show ((a : Int)).toNat = a from by omega]
    by_cases hjk : j = k
    · subst hjk
      rw [hk] at hv'
      obtain rfl := Option.some.inj hv'
      exact ⟨a, l, z, q2, q3, by rw [atI_eq, hz], by rw [List.getElem?_set_self (by omega)]⟩
    · obtain ⟨a', l', z', g1, g2, g3, g4⟩ := i2 j v' (by omega) hv'
      refine ⟨a', l', z', g1, g2, g3, ?_⟩
      rw [List.getElem?_set_ne (fun e => hjk ?_), g4]
      have hj1 := lt_of_get g1
      have hk1 := lt_of_get q2
      rw [e] at q2
      have := g1.trans q2.symm
      rw [List.getElem?_eq_getElem hj1, List.getElem?_eq_getElem hk1] at this
      exact (List.getElem_inj hp.1.nodup).1 (Option.some.inj this))
  exact ⟨r, by rw [h1, bnd_some, fin_d], h2, fun k v hk => h3 k v (lt_of_get hk) hk⟩
theorem ref_moved (x : Swp) (s : List Int) : m_ref51_State x s = m_symmetry_moved x s := rfl
def exT : Tsk := ⟨[2, 2], [0, 0], ([] : List Fct), [(⟨(⟨#[]⟩ : ByteArray), 0, ([] : List Fct), [(⟨([] : List Fct), 0, 1⟩ : Eff)]⟩ : Opr), (⟨(⟨#[]⟩ : ByteArray), 0, ([] : List Fct), [(⟨([] : List Fct), 1, 1⟩ : Eff)]⟩ : Opr)]⟩
def exX : Swp := ⟨[1, 0], [[0, 1], [0, 1]], [1, 0]⟩
theorem permR_10 : PermR [1, 0] 2 := by unfold PermR rangeI; decide
theorem permR_01 : PermR [0, 1] 2 := by unfold PermR rangeI; decide
theorem below2 {k : Nat} (h : k < 2) : k = 0 ∨ k = 1 := by omega
theorem fo_nil (vars : List Int) : FactsOk vars [] := ⟨fun _ _ h => by simp at h, fun _ _ _ h => by simp at h⟩
theorem get2 {α : Type} {a b y : α} {k : Nat} (h : [a, b][k]? = some y) : y = a ∨ y = b := by
  have := List.mem_of_getElem? h
  simpa using this
theorem exT_ok : TaskOk exT := by
  refine ⟨by decide, by decide, fun i n h => ?_, ⟨rfl, fun i v n h1 h2 => ?_⟩, fo_nil _, fun i o h => ?_⟩
  · rcases get2 h with rfl | rfl <;> omega
  · have e1 : v = 0 := by rcases get2 h1 with rfl | rfl <;> rfl
    have e2 : n = 2 := by rcases get2 h2 with rfl | rfl <;> rfl
    omega
  · have hone : ∀ (c : Int), (c = 0 ∨ c = 1) → OpOk exT.vars ⟨⟨#[]⟩, 0, [], [⟨[], c, 1⟩]⟩ := fun c hc => by
      refine ⟨Int.le_refl 0, (by decide : (0 : Int) ≤ 1048576), (by decide : 1 ≤ 64), ?_, fo_nil _, fun j e he => ?_⟩
      · exact ⟨(by decide : 0 ≤ 256), fun i h => absurd h (Nat.not_lt_zero _)⟩
      · have : e = ⟨[], c, 1⟩ := by simpa using List.mem_of_getElem? he
        subst this
        refine ⟨fo_nil _, by simp; omega, by simp, 2, ?_, by simp⟩
        rcases hc with rfl | rfl <;> rfl
    rcases get2 h with rfl | rfl
    · exact hone 0 (.inl rfl)
    · exact hone 1 (.inr rfl)
theorem srt_nil : srt_symmetry_mapped_l1 [] = [] := List.eq_nil_of_length_eq_zero (by rw [srt_symmetry_mapped_l1_len]; rfl)
theorem imL_nil (x : Swp) : imL x [] = [] := srt_nil
theorem exX_sym : SymP exT exX := by
  refine ⟨⟨permR_10, rfl, fun k hk => ?_⟩, permR_10, imL_nil _, fun k hk => ?_⟩
  · rcases below2 hk with rfl | rfl
    · exact ⟨2, 1, [0, 1], rfl, rfl, rfl, rfl, permR_01⟩
    · exact ⟨2, 0, [0, 1], rfl, rfl, rfl, rfl, permR_01⟩
  · rcases below2 hk with rfl | rfl
    · refine ⟨_, _, 1, rfl, rfl, rfl, rfl, imL_nil _, ?_⟩
      show [imE exX ⟨[], 0, 1⟩] = _
      unfold imE
      rw [imL_nil]; rfl
    · refine ⟨_, _, 0, rfl, rfl, rfl, rfl, imL_nil _, ?_⟩
      show [imE exX ⟨[], 1, 1⟩] = _
      unfold imE
      rw [imL_nil]; rfl
theorem exS_ok : StateOk exT.vars [1, 0] := ⟨rfl, fun i v n h1 h2 => by
  have e1 : v = 1 ∨ v = 0 := get2 h1
  have e2 : n = 2 := by rcases get2 h2 with rfl | rfl <;> rfl
  omega⟩
theorem state_ok {t : Tsk} {x : Swp} {s : List Int} (hok : TaskOk t) (hx : SymP t x) (hs : StateOk t.vars s) {r : List Int} (hr : m_symmetry_moved x s = some r) : m_symmetry_State t x s = some (r, ⟨0⟩) := by
  unfold m_symmetry_State m_task_Proper
  rw [demand1 hok, bnd_some, bof_t hx, if_t, if_neg (by simp), bnd_some, bof_t hs, if_t, hr, bnd_some]
theorem awake51 : m_law51_awake = some true := by
  unfold m_law51_awake
  change (bnd (m_symmetry_State exT exX [1, 0]) fun q103 => bnd (bnd (m_symmetry_Check exT exX) fun q121 => if q121 = true then if q103.2.n = 0 then (bnd (m_base_Ints q103.1 [0, 1]) fun q135 => if q135 = true then some true else some false) else (some false) else some false : Option Bool) fun y117 => some y117) = _
  rw [state_ok exT_ok exX_sym exS_ok (r := [0, 1]) rfl, bnd_some, check_eq, bof_t ⟨exT_ok, exX_sym⟩, bnd_some, if_t, if_pos rfl]
  unfold m_base_Ints
  rw [bnd_some, bof_t rfl, if_t, bnd_some]
theorem long_some (x : Swp) : ∃ b, m_law51_long x = some b := by
  unfold m_law51_long
  obtain ⟨s, h, _⟩ := rng_all (ρ := Bool) (f := fun (_ : Nat) (a32 : List Int) (s29 : Int) => some (.next (wr (s29 + (a32.length : Int))))) (xs := x.vals) (s₀ := wr ((wr ((x.vars.length : Int) + (x.vals.length : Int))) + (x.ops.length : Int))) (fun _ _ => True) trivial (fun k y s _ _ => ⟨_, rfl, trivial⟩)
  rw [h, bnd_some, fin_d]
  by_cases hc : 500 < s
  · exact ⟨true, by rw [if_pos hc]; rfl⟩
  · exact ⟨false, by rw [if_neg hc]; rfl⟩
end
section
open Go Go.RowKit
theorem perm_onto {l : List Int} {n : Nat} (h : PermR l n) {a : Nat} (ha : a < n) : ∃ k : Nat, k < n ∧ l[k]? = some (a : Int) := by
  have : (a : Int) ∈ l := h.mem_iff.2 (mem_rangeI.2 ⟨by omega, by omega⟩)
  obtain ⟨k, hk⟩ := List.getElem?_of_mem this
  exact ⟨k, by rw [← h.len]; exact lt_of_get hk, hk⟩
theorem ims_ok {t : Tsk} {x : Swp} {s r : List Int} (hx : FactsPerm t x) (hs : StateOk t.vars s) (h : ImS x s r) : StateOk t.vars r := by
  refine ⟨h.1.trans hs.1, fun a z n hz hn => ?_⟩
  obtain ⟨v, hv, hva⟩ := perm_onto hx.1 (lt_of_get hn)
  obtain ⟨u, hu⟩ := some_of_lt (l := s) (k := v) (by rw [hs.1]; exact hv)
  obtain ⟨b, l, z', q1, q2, q3, q4⟩ := h.2 v u hu
  obtain rfl : b = a := by rw [hva] at q1; have := Option.some.inj q1; omega
  obtain ⟨m, b', l', p1, p2, p3, p4, p5⟩ := hx.2.2 v hv
  obtain rfl : b' = (b : Int) := by rw [hva] at p2; exact (Option.some.inj p2).symm
  obtain rfl : l = l' := by rw [q2] at p3; exact Option.some.inj p3
  rw [atI_eq, hn] at p4
  rw [q4] at hz
  obtain rfl := Option.some.inj hz
  obtain ⟨j, _, hj⟩ := atI_some q3
  have := p5.mem (List.mem_of_getElem? hj)
  have := Option.some.inj p4
  omega
end
section
open Go Go.RowKit
theorem cmpI_eq (a b : Int) : m_cmp_Compare_int a b = some (Lib.compareInt a b) := by
  unfold m_cmp_Compare_int m_cmp_isNaN_int
  rcases ci_cases a b with ⟨h1, h2⟩ | ⟨h1, h2⟩ | ⟨h1, h2⟩
  · simp [bnd, h1, h2]
  · subst h1; simp [bnd, h2]
  · have : ¬ a < b := by omega
    simp [bnd, h1, h2, this]
theorem cmpL_eq (xs ys : List Int) : m_slices_Compare_Lint_int xs ys = some (cfL xs ys) := by
  have : ∃ r, m_slices_Compare_Lint_int xs ys = some r ∧ r = cfL xs ys := by
    unfold m_slices_Compare_Lint_int
    refine rng_ex (fun m _ => m ≤ ys.length ∧ cfL xs ys = cfL (xs.drop m) (ys.drop m)) (fun r => r = cfL xs ys) ⟨Nat.zero_le _, rfl⟩ ?_ ?_ (fun q hq => ⟨_, rfl, hq⟩)
    · rintro m x _ hx ⟨h1, h2⟩
      by_cases hge : (ys.length : Int) ≤ (m : Int)
      · rw [if_pos hge]
        refine .inr ⟨_, rfl, ?_⟩
        rw [h2, drop_nil (l := ys) (by omega), List.drop_eq_getElem_cons (lt_of_get hx)]
        rfl
      · rw [if_neg hge]
        obtain ⟨y, hy⟩ := some_lt (l := ys) (k := m) (by omega)
        have hst := cfL_step hx hy
        rw [hy, bnd_some, cmpI_eq, bnd_some]
        by_cases hc : Lib.compareInt x y ≠ 0
        · rw [if_pos hc]
          rw [if_pos hc] at hst
          exact .inr ⟨_, rfl, by rw [h2, hst]⟩
        · rw [if_neg hc]
          rw [if_neg hc] at hst
          exact .inl ⟨(), rfl, by omega, by rw [h2, hst]⟩
    · rintro _ ⟨h1, h2⟩
      rw [fin_d]
      rw [List.drop_length] at h2
      by_cases hll : (xs.length : Int) < (ys.length : Int)
      · rw [if_pos hll]
        refine ⟨_, rfl, ?_⟩
        rw [h2, List.drop_eq_getElem_cons (l := ys) (i := xs.length) (by omega)]
        rfl
      · rw [if_neg hll]
        refine ⟨_, rfl, ?_⟩
        rw [h2, drop_nil (l := ys) (by omega)]
        rfl
  obtain ⟨r, h1, h2⟩ := this
  rw [h1, h2]
theorem less_eq {xs ys : List Int} (hl : xs.length = ys.length) : m_ref51_less xs ys = some (decide (cfL xs ys < 0)) := by
  have : ∃ r, m_ref51_less xs ys = some r ∧ r = decide (cfL xs ys < 0) := by
    unfold m_ref51_less
    refine rng_ex (fun m _ => cfL xs ys = cfL (xs.drop m) (ys.drop m)) (fun r => r = decide (cfL xs ys < 0)) rfl ?_ ?_ (fun q hq => ⟨_, rfl, hq⟩)
    · rintro m x _ hx h2
      obtain ⟨y, hy⟩ := some_lt (l := ys) (k := m) (by have := lt_of_get hx; omega)
      have hst := cfL_step hx hy
      rw [hy, bnd_some]
      rcases ci_cases x y with ⟨p1, p2⟩ | ⟨p1, p2⟩ | ⟨p1, p2⟩
      · rw [if_pos (by omega), bnd_some, if_pos p1, bnd_some]
        rw [p2] at hst
        exact .inr ⟨_, rfl, by rw [h2, hst]; rfl⟩
      · rw [if_neg (by omega)]
        rw [p2] at hst
        exact .inl ⟨(), rfl, by rw [h2, hst]; rfl⟩
      · rw [if_pos (by omega), bnd_some, if_neg (by omega), bnd_some]
        rw [p2] at hst
        exact .inr ⟨_, rfl, by rw [h2, hst]; rfl⟩
    · intro _ h2
      refine ⟨_, rfl, ?_⟩
      rw [List.drop_length, drop_nil (l := ys) (by omega)] at h2
      rw [h2]; rfl
  obtain ⟨r, h1, h2⟩ := this
  rw [h1, h2]
/-- A state's text. -/
def txt (s : List Int) : ByteArray := strB (s.map bw)
theorem text_eq {s : List Int} (hl : s.length ≤ 1000000) : m_symmetry_text s = some (txt s) := by
  unfold m_symmetry_text
  rw [mkI_eq (by omega) (by omega), bnd_some]
  refine rng_bnd (fun m l => l.length = s.length ∧ ∀ (i : Nat) x, i < m → s[i]? = some x → l[i]? = some (bw x)) ⟨by simp, fun i x hi => by omega⟩ ?_ ?_
  · rintro m x l hx ⟨h1, h2⟩
    have hm := lt_of_get hx
    obtain ⟨u, hu⟩ := some_lt (l := l) (k := m) (by omega)
    rw [hu, bnd_some]
    refine ⟨_, rfl, by simpa using h1, fun i y hi hy => ?_⟩
    by_cases e : i = m
    · subst e
      rw [hx] at hy
      rw [List.getElem?_set_self (by omega), Option.some.inj hy]
    · rw [List.getElem?_set_ne (by omega)]
      exact h2 i y (by omega) hy
  · rintro l ⟨h1, h2⟩
    have hls : l = s.map bw := by
      apply List.ext_getElem?
      intro i
      rw [List.getElem?_map]
      rcases Nat.lt_or_ge i s.length with hi | hi
      · obtain ⟨x, hx⟩ := some_lt (l := s) (k := i) hi
        rw [hx, h2 i x hi hx]; rfl
      · rw [List.getElem?_eq_none (by omega), List.getElem?_eq_none hi]; rfl
    subst hls
    rw [fin_d, strI_eq (by simp; omega), bnd_some]
    rfl
end
section
open Go Go.RowKit
theorem states_eq {vars : List Int} (h0 : ∀ (i : Nat) n, vars[i]? = some n → 0 ≤ n ∧ n ≤ 64) (hb : ∀ k, (statesL (vars.take k)).length ≤ 1000000) (hvn : vars.length ≤ 1000) : m_base_States vars = some (statesL vars) := by
  unfold m_base_States
  rw [rng_from (fun k => statesL (vars.take k)) ?_ ?_]
  · rw [bnd_some, fin_d, List.take_length]
  · rfl
  intro k n hn
  obtain ⟨N, rfl⟩ := Int.eq_ofNat_of_zero_le (h0 k n hn).1
  have hN := (h0 k _ hn).2
  have hk := lt_of_get hn
  have hlen := hb k
  rw [rng_from (fun i => ((statesL (vars.take k)).take i).flatMap (exts N)) ?_ ?_]
  · rw [bnd_some, fin_d, List.take_length, statesL_step hn]; rfl
  · rfl
  intro i s hs
  have hsl := statesL_mem vars k (by omega) s (List.mem_of_getElem? hs)
  have hfl := grows_len N ((statesL (vars.take k)).take i)
  have hfl2 : ((statesL (vars.take k)).take i).length * N ≤ 1000000 * 64 := Nat.mul_le_mul (by rw [List.length_take]; omega) (by omega)
  rw [natI_eq, bnd_some, rngN_from (fun x => ((statesL (vars.take k)).take i).flatMap (exts N) ++ exts x s) ?_ ?_]
  · rw [bnd_some, fin_d, flat_step _ hs]
  · simp [exts]
  intro x hx
  rw [appI_eq (by simp; omega) (by simp; omega), bnd_some, appI_eq (by simp; omega) (by simp; omega), bnd_some, appI_eq (by simp only [List.length_append, exts_len, List.length_singleton]; omega) (by simp only [List.length_append, exts_len, List.length_singleton]; omega), bnd_some, exts_step]
  simp
theorem states_small {t : Tsk} (h : SmallOk t) : m_base_States t.vars = some (statesL t.vars) :=
  states_eq (fun i n hn => by have := h.ok.vars i n hn; omega) (fun k => by have := h.states k; omega) (by have := h.1; omega)
end
section
open Go Go.RowKit
noncomputable def imS (x : Swp) (s : List Int) : List Int := (m_symmetry_moved x s).getD []
theorem imS_eq {t : Tsk} {x : Swp} {s : List Int} (hok : TaskOk t) (hp : FactsPerm t x) (hs : StateOk t.vars s) : m_symmetry_moved x s = some (imS x s) ∧ ImS x s (imS x s) ∧ StateOk t.vars (imS x s) := by
  obtain ⟨r, h1, h2⟩ := moved_eq hok hp hs
  have : imS x s = r := by unfold imS; rw [h1]; rfl
  rw [this]
  exact ⟨h1, h2, ims_ok hp hs h2⟩
/-- How many states lie below. -/
def muL (vars s : List Int) : Nat := ((statesL vars).filter fun x => decide (cfL x s < 0)).length
theorem filter_lt {α : Type} {p q : α → Bool} : ∀ {l : List α}, (∀ x ∈ l, p x = true → q x = true) → (∃ x ∈ l, q x = true ∧ p x = false) → (l.filter p).length < (l.filter q).length
  | [], _, h => by obtain ⟨x, hx, _⟩ := h; cases hx
  | y :: l, hsub, ⟨x, hx, h1, h2⟩ => by
    have hle : (l.filter p).length ≤ (l.filter q).length := by
      clear hx
      induction l with
      | nil => simp
      | cons z l ih =>
        have ihh := ih fun a ha => hsub a (by rcases List.mem_cons.1 ha with rfl | ha; exact List.mem_cons_self; exact List.mem_cons_of_mem _ (List.mem_cons_of_mem _ ha))
        have hz := hsub z (List.mem_cons_of_mem _ List.mem_cons_self)
        rw [List.filter_cons, List.filter_cons]
        cases hp : p z with
        | true => rw [hz hp]; simp; omega
        | false => cases q z <;> simp <;> omega
    rw [List.filter_cons, List.filter_cons]
    rcases List.mem_cons.1 hx with rfl | hx
    · rw [h1, h2]; simp; omega
    · have ih := filter_lt (l := l) (fun a ha => hsub a (List.mem_cons_of_mem _ ha)) ⟨x, hx, h1, h2⟩
      have hy := hsub y List.mem_cons_self
      cases hp : p y with
      | true => rw [hy hp]; simp; omega
      | false => cases q y <;> simp <;> omega
theorem muL_lt {vars s r : List Int} (hr : StateOk vars r) (h : cfL r s < 0) : muL vars r < muL vars s := by
  refine filter_lt (fun x _ hx => ?_) ⟨r, mem_statesL.2 hr, by simpa using h, by rw [cfL_self]; simp⟩
  simp at hx ⊢
  have h3 := cfL_trans (Int.le_of_lt hx) (Int.le_of_lt h)
  rcases Int.lt_or_eq_of_le h3 with h4 | h4
  · exact h4
  · exfalso
    have := cfL_eq h4
    rw [← this, cfL_neg] at h
    omega
noncomputable def canF (x1 : List Swp) : (List Int) × (List Int) × Int → Option (Ctl ((List Int) × (List Int) × Int) ((List Int) × (List Int) × Err)) :=
  fun (s58 : (List Int) × (List Int) × Int) => if s58.2.2 < (x1.length : Int) then (bnd (atI x1 s58.2.2) fun a84 => bnd (m_symmetry_moved a84 s58.1) fun q107 => bnd (m_slices_Compare_Lint_int q107 s58.1) fun q116 => if 0 ≤ q116 then (bnd (chkI (s58.2.2 + 1)) fun n125 => some (.next (s58.1, s58.2.1, n125))) else (bnd (appI 8 s58.2.1 [s58.2.2]) fun u128 => some (.next (q107, u128, 0)))) else (some (.brk (s58.1, s58.2.1, s58.2.2)))
noncomputable def canG (x0 : List Swp) : (List Int) × (List Int) → Option (Ctl ((List Int) × (List Int)) ((List Int) × (List Int))) :=
  fun (s9 : (List Int) × (List Int)) => bnd (rng (ρ := Ctl ((List Int) × (List Int)) ((List Int) × (List Int))) (fun (k34 : Nat) (a35 : Swp) (s32 : Int) => bnd (if s32 < 0 then (bnd (m_ref51_State a35 s9.1) fun q71 => bnd (m_ref51_less q71 s9.1) fun q80 => if q80 = true then some true else some false) else (some false) : Option Bool) fun y47 => if y47 = true then (some (.next (k34 : Int))) else (some (.next s32))) x0 0 (-1)) fun res30 => fin res30 fun (s96 : Int) => if s96 < 0 then (some (.ret (s9.1, s9.2))) else (bnd (atI x0 s96) fun a101 => bnd (m_ref51_State a101 s9.1) fun q124 => bnd (appI 8 s9.2 [s96]) fun u133 => some (.next (q124, u133)))
/-- The first generator that makes a state less. -/
def FstL (gens : List Swp) (s : List Int) (k : Nat) : Prop := ∃ x, gens[k]? = some x ∧ cfL (imS x s) s < 0
theorem canF_walk {t : Tsk} (hok : TaskOk t) {gens : List Swp} (hg : ∀ x ∈ gens, SymP t x) (hgl : gens.length ≤ 1000) {s used : List Int} (hs : StateOk t.vars s) (hu : used.length ≤ 100000) : ∀ (n k : Nat), gens.length - k = n → k ≤ gens.length →
    ((∀ j, k ≤ j → ¬ FstL gens s j) ∧ lop (canF gens) (s, used, (k : Int)) = some (.done (s, used, (gens.length : Int)))) ∨ ∃ m x, k ≤ m ∧ (∀ j, k ≤ j → j < m → ¬ FstL gens s j) ∧ gens[m]? = some x ∧ cfL (imS x s) s < 0 ∧ lop (canF gens) (s, used, (k : Int)) = lop (canF gens) (imS x s, used ++ [(m : Int)], 0) := by
  intro n
  induction n with
  | zero =>
    intro k hk hkl
    have : k = gens.length := by omega
    subst this
    refine .inl ⟨fun j hj hf => by obtain ⟨x, hx, _⟩ := hf; have := lt_of_get hx; omega, ?_⟩
    rw [lop_eq]
    simp only [canF]
    rw [if_neg (by omega)]
  | succ n ih =>
    intro k hk hkl
    obtain ⟨x, hx⟩ := some_lt (l := gens) (k := k) (by omega)
    obtain ⟨h1, h2, h3⟩ := imS_eq hok (hg x (List.mem_of_getElem? hx)).1 hs
    have hkl' := lt_of_get hx
    have step : canF gens (s, used, (k : Int)) = if 0 ≤ cfL (imS x s) s then some (.next (s, used, (k : Int) + 1)) else some (.next (imS x s, used ++ [(k : Int)], 0)) := by
      simp only [canF]
      rw [if_pos (by omega), atI_eq, hx, bnd_some, h1, bnd_some, cmpL_eq, bnd_some, chkI_eq (by unfold inI64; omega), bnd_some, appI_eq (by simp; omega) (by simp; omega), bnd_some]
    by_cases hc : 0 ≤ cfL (imS x s) s
    · have e1 : lop (canF gens) (s, used, (k : Int)) = lop (canF gens) (s, used, ((k + 1 : Nat) : Int)) := by
        rw [lop_eq, step, if_pos hc]
        simp
      have hnot : ¬ FstL gens s k := fun ⟨y, hy, hlt⟩ => by
        rw [hx] at hy
        obtain rfl := Option.some.inj hy
        omega
      rcases ih (k + 1) (by omega) (by omega) with ⟨g1, g2⟩ | ⟨m, y, g1, g2, g3, g4, g5⟩
      · refine .inl ⟨fun j hj => ?_, by rw [e1, g2]⟩
        by_cases e : j = k
        · subst e; exact hnot
        · exact g1 j (by omega)
      · refine .inr ⟨m, y, by omega, fun j hj hjm => ?_, g3, g4, by rw [e1, g5]⟩
        by_cases e : j = k
        · subst e; exact hnot
        · exact g2 j (by omega) hjm
    · refine .inr ⟨k, x, Nat.le_refl _, fun j h1 h2 => by omega, hx, by omega, ?_⟩
      rw [lop_eq, step, if_neg hc]
theorem canG_step {t : Tsk} (hok : TaskOk t) {gens : List Swp} (hg : ∀ x ∈ gens, SymP t x) {s used : List Int} (hs : StateOk t.vars s) (hu : used.length ≤ 100000) :
    ((∀ j, ¬ FstL gens s j) ∧ canG gens (s, used) = some (.ret (s, used))) ∨ ∃ (m : Nat) (x : Swp), (∀ j, j < m → ¬ FstL gens s j) ∧ gens[m]? = some x ∧ cfL (imS x s) s < 0 ∧ canG gens (s, used) = some (.next (imS x s, used ++ [(m : Int)])) := by
  have key := rng_all (ρ := Ctl ((List Int) × (List Int)) ((List Int) × (List Int))) (xs := gens) (s₀ := (-1 : Int)) (f := fun (k34 : Nat) (a35 : Swp) (s32 : Int) => bnd (if s32 < 0 then (bnd (m_ref51_State a35 s) fun q71 => bnd (m_ref51_less q71 s) fun q80 => if q80 = true then some true else some false) else (some false) : Option Bool) fun y47 => if y47 = true then (some (.next (k34 : Int))) else (some (.next s32))) (fun m a => (a = -1 ∧ ∀ j, j < m → ¬ FstL gens s j) ∨ ∃ (q : Nat) (x : Swp), a = (q : Int) ∧ (∀ j, j < q → ¬ FstL gens s j) ∧ gens[q]? = some x ∧ cfL (imS x s) s < 0) (.inl ⟨rfl, fun j hj => by omega⟩) (fun k x a hx hI => by
      obtain ⟨h1, h2, h3⟩ := imS_eq hok (hg x (List.mem_of_getElem? hx)).1 hs
      rcases hI with ⟨rfl, hno⟩ | ⟨q, y, rfl, hno, hy, hlt⟩
      · rw [if_pos (by omega), ref_moved, h1, bnd_some, less_eq (by rw [h3.1, hs.1]), bnd_some]
        by_cases hlt : cfL (imS x s) s < 0
        · rw [decide_eq_true hlt, if_t, bnd_some, if_t]
          exact ⟨_, rfl, .inr ⟨k, x, rfl, hno, hx, hlt⟩⟩
        · rw [decide_eq_false hlt, if_f, bnd_some, if_f]
          refine ⟨_, rfl, .inl ⟨rfl, fun j hj => ?_⟩⟩
          by_cases e : j = k
          · subst e
            rintro ⟨y, hy, hl⟩
            rw [hx] at hy
            obtain rfl := Option.some.inj hy
            exact hlt hl
          · exact hno j (by omega)
      · rw [if_neg (by omega), bnd_some, if_f]
        exact ⟨_, rfl, .inr ⟨q, y, rfl, hno, hy, hlt⟩⟩)
  obtain ⟨a, g1, g2⟩ := key
  unfold canG
  dsimp only
  rw [g1, bnd_some, fin_d]
  rcases g2 with ⟨rfl, hno⟩ | ⟨q, x, rfl, hno, hx, hlt⟩
  · rw [if_pos (by omega)]
    refine .inl ⟨fun j hf => ?_, rfl⟩
    obtain ⟨x, hx, hl⟩ := hf
    exact hno j (lt_of_get hx) ⟨x, hx, hl⟩
  · obtain ⟨h1, h2, h3⟩ := imS_eq hok (hg x (List.mem_of_getElem? hx)).1 hs
    rw [if_neg (by omega), atI_eq, hx, bnd_some, ref_moved, h1, bnd_some, appI_eq (by simp; omega) (by simp; omega), bnd_some]
    exact .inr ⟨q, x, hno, hx, hlt, rfl⟩
/-- Generators by number, one behind the other. -/
inductive Word (gens : List Swp) : List Int → List Int → List Int → Prop
  | nil {s : List Int} : Word gens s [] s
  | cons {s r ws : List Int} {m : Nat} {x : Swp} : gens[m]? = some x → Word gens (imS x s) ws r → Word gens s ((m : Int) :: ws) r
theorem can_both {t : Tsk} (hok : TaskOk t) {gens : List Swp} (hg : ∀ x ∈ gens, SymP t x) (hgl : gens.length ≤ 1000) : ∀ (n : Nat) (s used : List Int), StateOk t.vars s → muL t.vars s < n → used.length + n ≤ 100000 →
    ∃ r ws, lop (canF gens) (s, used, 0) = some (.done (r, used ++ ws, (gens.length : Int))) ∧ lop (canG gens) (s, used) = some (.ret (r, used ++ ws)) ∧ StateOk t.vars r ∧ cfL r s ≤ 0 ∧ Word gens s ws r := by
  intro n
  induction n with
  | zero => intro s used _ h; omega
  | succ n ih =>
    intro s used hs hmu hul
    rcases canF_walk hok hg hgl hs (used := used) (by omega) gens.length 0 (by omega) (by omega) with ⟨f1, f2⟩ | ⟨m, x, f1, f2, f3, f4, f5⟩
    · rcases canG_step hok hg hs (used := used) (by omega) with ⟨g1, g2⟩ | ⟨q, y, _, g3, g4, _⟩
      · refine ⟨s, [], by simpa using f2, by rw [lop_eq, g2, List.append_nil], hs, by rw [cfL_self]; omega, .nil⟩
      · exact absurd ⟨y, g3, g4⟩ (f1 q (by omega))
    · rcases canG_step hok hg hs (used := used) (by omega) with ⟨g1, _⟩ | ⟨q, y, g2, g3, g4, g5⟩
      · exact absurd ⟨x, f3, f4⟩ (g1 m)
      · have hqm : q = m := by
          rcases Nat.lt_trichotomy q m with h | h | h
          · exact absurd ⟨y, g3, g4⟩ (f2 q (by omega) h)
          · exact h
          · exact absurd ⟨x, f3, f4⟩ (g2 m h)
        subst hqm
        rw [f3] at g3
        obtain rfl := Option.some.inj g3
        obtain ⟨h1, h2, h3⟩ := imS_eq hok (hg x (List.mem_of_getElem? f3)).1 hs
        have hlt := muL_lt h3 f4
        obtain ⟨r, ws, r1, r2, r3, r4, r5⟩ := ih (imS x s) (used ++ [(q : Int)]) h3 (by omega) (by simp; omega)
        refine ⟨r, (q : Int) :: ws, ?_, ?_, r3, cfL_trans r4 (by omega), .cons f3 r5⟩
        · have f5' : lop (canF gens) (s, used, 0) = lop (canF gens) (imS x s, used ++ [(q : Int)], 0) := f5
          rw [f5', r1]
          simp
        · rw [lop_eq, g5]
          simp only
          rw [r2]
          simp
theorem demandL {t : Tsk} (hok : TaskOk t) {gens : List Swp} : m_symmetry_demand t gens = some ⟨if bof (∀ x ∈ gens, SymP t x) = true then 0 else 2⟩ := by
  have : ∃ r, m_symmetry_demand t gens = some r ∧ r = ⟨if bof (∀ x ∈ gens, SymP t x) = true then 0 else 2⟩ := by
    unfold m_symmetry_demand m_task_Check
    rw [check_ok.2 hok, bnd_some, if_neg (by simp)]
    refine rng_ex (fun m _ => ∀ x ∈ gens.take m, SymP t x) (fun r => r = ⟨2⟩ ∧ ¬ ∀ x ∈ gens, SymP t x) (fun x hx => by simp at hx) ?_ ?_ ?_
    · intro m x _ hx hI
      rw [is_eq hok, bnd_some]
      by_cases h : SymP t x
      · rw [bof_t h, if_t]
        refine .inl ⟨(), rfl, fun y hy => ?_⟩
        rcases (take_succ_mem hx).1 hy with hy | rfl
        · exact hI y hy
        · exact h
      · rw [bof_f h, if_f]
        exact .inr ⟨_, rfl, rfl, fun hh => h (hh x (List.mem_of_getElem? hx))⟩
    · intro _ hI
      rw [List.take_length] at hI
      exact ⟨_, rfl, by rw [bof_t hI]; rfl⟩
    · rintro q ⟨rfl, hn⟩
      exact ⟨_, rfl, by rw [bof_f hn]; rfl⟩
  obtain ⟨r, h1, h2⟩ := this
  rw [h1, h2]
theorem muL_few {t : Tsk} (hs : SmallOk t) (s : List Int) : muL t.vars s ≤ 512 := Nat.le_trans (List.length_filter_le _ _) hs.many
/-- Canonical's answer, of the program and of the document. -/
theorem canon_eq {t : Tsk} (hsm : SmallOk t) {gens : List Swp} (hg : ∀ x ∈ gens, SymP t x) (hgl : gens.length ≤ 1000) {s : List Int} (hs : StateOk t.vars s) :
    ∃ r ws, m_symmetry_Canonical t gens s = some (r, ws, ⟨0⟩) ∧ m_ref51_Canonical gens s = some (r, ws) ∧ StateOk t.vars r ∧ cfL r s ≤ 0 ∧ Word gens s ws r := by
  have hok := hsm.ok
  obtain ⟨r, ws, r1, r2, r3, r4, r5⟩ := can_both hok hg hgl 513 s [] hs (by have := muL_few hsm s; omega) (by simp)
  rw [List.nil_append] at r1 r2
  refine ⟨r, ws, ?_, ?_, r3, r4, r5⟩
  · have unf : m_symmetry_Canonical t gens s = bnd (m_symmetry_demand t gens) fun q30 => if q30.n ≠ 0 then (some (([] : List Int), ([] : List Int), (⟨q30.n⟩ : Err))) else (bnd (m_task_Proper t.vars s) fun q39 => if q39 = true then bnd (m_slices_Clone_Lint_int s) fun q46 => bnd (lop (canF gens) (q46, ([] : List Int), 0)) fun res56 => fin res56 fun (s144 : (List Int) × (List Int) × Int) => some (s144.1, s144.2.1, (⟨0⟩ : Err)) else some (([] : List Int), ([] : List Int), (⟨2⟩ : Err))) := rfl
    have hc : m_slices_Clone_Lint_int s = some s := if_pos ⟨by have := hs.1; have := hok.1; omega, by have := hs.1; have := hok.1; omega⟩
    rw [unf, demandL hok, bof_t hg, bnd_some, if_t, if_neg (by simp)]
    unfold m_task_Proper
    rw [bof_t hs, bnd_some, if_t, hc, bnd_some, r1, bnd_some, fin_d]
  · have unf : m_ref51_Canonical gens s = bnd (lop (canG gens) (s, ([] : List Int))) fun res7 => fin res7 fun (_ : (List Int) × (List Int)) => none := rfl
    rw [unf, r2, bnd_some, fin_r]
end
section
open Go Go.RowKit
inductive Orb (gens : List Swp) (s0 : List Int) : List Int → Prop
  | self : Orb gens s0 s0
  | step {s : List Int} {x : Swp} : Orb gens s0 s → x ∈ gens → Orb gens s0 (imS x s)
theorem Orb.ok {t : Tsk} (hok : TaskOk t) {gens : List Swp} (hg : ∀ x ∈ gens, SymP t x) {s0 s : List Int} (h0 : StateOk t.vars s0) (h : Orb gens s0 s) : StateOk t.vars s := by
  induction h with
  | self => exact h0
  | step _ hx ih => exact (imS_eq hok (hg _ hx).1 ih).2.2
theorem txt_inj {t : Tsk} (hok : TaskOk t) {a b : List Int} (ha : StateOk t.vars a) (hb : StateOk t.vars b) (h : txt a = txt b) : a = b := by
  have h1 : (a.map bw).map (fun b : Byt => UInt8.ofNat b.n.toNat) = (b.map bw).map fun b : Byt => UInt8.ofNat b.n.toNat := by
    unfold txt strB at h
    have := congrArg ByteArray.data h
    simpa using this
  apply List.ext_getElem?
  intro i
  rcases Nat.lt_or_ge i t.vars.length with hi | hi
  · obtain ⟨n, hn⟩ := some_lt (l := t.vars) (k := i) hi
    obtain ⟨x, hx⟩ := some_lt (l := a) (k := i) (by rw [ha.1]; exact hi)
    obtain ⟨y, hy⟩ := some_lt (l := b) (k := i) (by rw [hb.1]; exact hi)
    have hx1 := ha.2 i x n hx hn
    have hy1 := hb.2 i y n hy hn
    have hn1 := hok.2.2.1 i n hn
    have h2 := congrArg (·[i]?) h1
    simp only [List.getElem?_map, hx, hy, Option.map_some] at h2
    have h3 := congrArg UInt8.toNat (Option.some.inj h2)
    simp [bw] at h3
    rw [hx, hy]
    congr 1
    omega
  · rw [List.getElem?_eq_none (by rw [ha.1]; exact hi), List.getElem?_eq_none (by rw [hb.1]; exact hi)]
theorem cfL_snoc : ∀ {a b : List Int} {x y : Int}, a.length = b.length → cfL (a ++ [x]) (b ++ [y]) = if cfL a b ≠ 0 then cfL a b else Lib.compareInt x y
  | [], [], x, y, _ => by
    have e : cfL [] [] = 0 := rfl
    rw [e]
    show (if Lib.compareInt x y ≠ 0 then Lib.compareInt x y else 0) = if (0 : Int) ≠ 0 then 0 else Lib.compareInt x y
    by_cases h : Lib.compareInt x y = 0
    · simp [h]
    · simp [h]
  | [], _ :: _, _, _, h => by simp at h
  | _ :: _, [], _, _, h => by simp at h
  | p :: a, q :: b, x, y, h => by
    have ih := cfL_snoc (a := a) (b := b) (x := x) (y := y) (by simpa using h)
    show (if Lib.compareInt p q ≠ 0 then Lib.compareInt p q else cfL (a ++ [x]) (b ++ [y])) = _
    show _ = if (if Lib.compareInt p q ≠ 0 then Lib.compareInt p q else cfL a b) ≠ 0 then (if Lib.compareInt p q ≠ 0 then Lib.compareInt p q else cfL a b) else _
    by_cases hc : Lib.compareInt p q ≠ 0
    · rw [if_pos hc, if_pos hc, if_pos hc]
    · rw [if_neg hc, if_neg hc, ih]
theorem grows_sorted {out : List (List Int)} {k : Nat} (n : Int) (hl : ∀ s ∈ out, s.length = k) (hp : out.Pairwise fun a b => cfL a b < 0) : (grows out n).Pairwise (fun a b => cfL a b < 0) ∧ ∀ s ∈ grows out n, s.length = k + 1 := by
  constructor
  · unfold grows
    rw [List.pairwise_flatMap]
    constructor
    · intro s hs
      unfold exts
      rw [List.pairwise_map]
      refine List.pairwise_lt_range.imp fun {a b} hab => ?_
      rw [cfL_snoc rfl, cfL_self, if_neg (by simp)]
      rcases ci_cases (a : Int) (b : Int) with ⟨_, h⟩ | ⟨h, _⟩ | ⟨h, _⟩ <;> omega
    · refine hp.imp_of_mem fun {a b} ha hb hab x hx y hy => ?_
      obtain ⟨p, _, rfl⟩ := mem_exts.1 hx
      obtain ⟨q, _, rfl⟩ := mem_exts.1 hy
      rw [cfL_snoc (by rw [hl a ha, hl b hb]), if_pos (by omega)]
      exact hab
  · intro s hs
    unfold grows at hs
    obtain ⟨a, ha, hx⟩ := List.mem_flatMap.1 hs
    obtain ⟨p, _, rfl⟩ := mem_exts.1 hx
    simp [hl a ha]
theorem states_sorted (vars : List Int) : (statesL vars).Pairwise fun a b => cfL a b < 0 := by
  have key : ∀ (vars : List Int) (out : List (List Int)) (k : Nat), (∀ s ∈ out, s.length = k) → out.Pairwise (fun a b => cfL a b < 0) → (vars.foldl grows out).Pairwise fun a b => cfL a b < 0 := by
    intro vars
    induction vars with
    | nil => intro out k _ h; exact h
    | cons n vars ih =>
      intro out k h1 h2
      obtain ⟨g1, g2⟩ := grows_sorted n h1 h2
      exact ih (grows out n) (k + 1) g2 g1
  exact key vars [[]] 0 (fun s hs => by simp at hs; subst hs; rfl) (List.pairwise_singleton _ _)
end
section
open Go Go.RowKit
/-- The state after an operator's effects. -/
def effsOn (s : List Int) : List Eff → List Int → List Int
  | [], out => out
  | e :: r, out => effsOn s r (if holdsB e.cond s = true then out.set e.var.toNat e.val else out)
def succ (o : Opr) (s : List Int) : List Int := effsOn s o.effs s
end
section
open Go Go.RowKit
theorem flat_get {n : Nat} (hn : 0 < n) : ∀ (l : List (List Int)) (q : Nat), (l.flatMap (exts n))[q]? = (l[q / n]?).map (· ++ [((q % n : Nat) : Int)])
  | [], q => by simp
  | a :: l, q => by
    rw [List.flatMap_cons]
    by_cases hq : q < n
    · rw [List.getElem?_append_left (by rw [exts_len]; exact hq), Nat.div_eq_of_lt hq, Nat.mod_eq_of_lt hq]
      simp [exts, hq]
    · rw [List.getElem?_append_right (by rw [exts_len]; omega), exts_len, flat_get hn l (q - n)]
      obtain ⟨r, rfl⟩ : ∃ r, q = r + n := ⟨q - n, by omega⟩
      rw [Nat.add_sub_cancel, Nat.add_div_right _ hn, Nat.add_mod_right]
      simp
theorem states_inj {vars : List Int} (hv : ∀ (i : Nat) n, vars[i]? = some n → 1 ≤ n) : ∀ (k : Nat), k ≤ vars.length → ∀ (i j : Nat) (s : List Int), (statesL (vars.take k))[i]? = some s → (statesL (vars.take k))[j]? = some s → i = j
  | 0, _, i, j, s, h1, h2 => by
    have e1 := lt_of_get h1
    have e2 := lt_of_get h2
    simp [statesL] at e1 e2
    omega
  | k + 1, hk, i, j, s, h1, h2 => by
    obtain ⟨n, hn⟩ := some_of_lt (l := vars) (k := k) (by omega)
    have hn1 := hv k n hn
    rw [statesL_step hn] at h1 h2
    unfold grows at h1 h2
    rw [flat_get (by omega)] at h1 h2
    obtain ⟨p, hp, rfl⟩ := Option.map_eq_some_iff.1 h1
    obtain ⟨p', hp', e⟩ := Option.map_eq_some_iff.1 h2
    obtain ⟨e1, e2⟩ := List.append_inj' e rfl
    subst e1
    have := states_inj hv k (by omega) _ _ _ hp hp'
    have e3 : j % n.toNat = i % n.toNat := by
      have := List.singleton_inj.1 e2
      omega
    have d1 := Nat.div_add_mod i n.toNat
    have d2 := Nat.div_add_mod j n.toNat
    rw [this, ← e3] at d1
    omega
theorem states_uniq {t : Tsk} (h : TaskOk t) {i j : Nat} {s : List Int} (h1 : (statesL t.vars)[i]? = some s) (h2 : (statesL t.vars)[j]? = some s) : i = j := by
  have := states_inj (vars := t.vars) (fun i n hn => (h.vars i n hn).1) t.vars.length (Nat.le_refl _) i j s
  rw [List.take_length] at this
  exact this h1 h2
theorem rank_at {t : Tsk} (h : SmallOk t) {s : List Int} (hs : StateOk t.vars s) : ∃ i : Nat, m_base_Rank t.vars s = some (i : Int) ∧ (statesL t.vars)[i]? = some s := by
  unfold m_base_Rank
  obtain ⟨r, h1, i, rfl, h2⟩ := rng_all (ρ := Int) (f := fun (k11 : Nat) (a12 : Int) (s9 : Int) => bnd (t.vars[k11]?) fun a24 => bnd (chkI (s9 * a24)) fun n34 => bnd (chkI (n34 + a12)) fun n45 => some (.next n45)) (xs := s) (s₀ := 0) (fun k r => ∃ i : Nat, r = (i : Int) ∧ (statesL (t.vars.take k))[i]? = some (s.take k)) ⟨0, rfl, by simp [statesL]⟩ (fun k x r hk hI => by
    obtain ⟨i, rfl, hi⟩ := hI
    have hlt := lt_of_get hk
    obtain ⟨n, hn⟩ := some_of_lt (l := t.vars) (k := k) (by rw [← hs.1]; exact hlt)
    have hn1 := h.ok.vars k n hn
    obtain ⟨hx1, hx2⟩ := hs.2 k x n hk hn
    obtain ⟨x, rfl⟩ := Int.eq_ofNat_of_zero_le hx1
    obtain ⟨n, rfl⟩ := Int.eq_ofNat_of_zero_le (by omega : 0 ≤ n)
    have hget : (statesL (t.vars.take (k + 1)))[i * n + x]? = some (s.take (k + 1)) := by
      rw [statesL_step hn]
      show ((statesL (t.vars.take k)).flatMap (exts ((n : Int)).toNat))[i * n + x]? = _
      rw [show ((n : Int)).toNat = n from by omega, flat_get (by omega)]
      have e1 : (i * n + x) / n = i := by
        rw [Nat.mul_comm, Nat.mul_add_div (by omega), Nat.div_eq_of_lt (by omega)]; omega
      have e2 : (i * n + x) % n = x := by
        rw [Nat.mul_comm, Nat.mul_add_mod, Nat.mod_eq_of_lt (by omega)]
      rw [e1, e2, hi, List.take_add_one, hk]; rfl
    have hb := lt_of_get hget
    have hb2 := h.states (k + 1)
    have e3 : (i : Int) * (n : Int) = ((i * n : Nat) : Int) := by simp
    rw [hn, bnd_some, e3, chkI_eq (by unfold inI64; omega), bnd_some, chkI_eq (by unfold inI64; omega), bnd_some]
    exact ⟨_, rfl, i * n + x, by omega, hget⟩)
  rw [List.take_length, hs.1, List.take_length] at h2
  exact ⟨i, by rw [h1, bnd_some, fin_d], h2⟩
theorem rank_eq {t : Tsk} (h : SmallOk t) {s : List Int} {i : Nat} (hi : (statesL t.vars)[i]? = some s) : m_base_Rank t.vars s = some (i : Int) := by
  obtain ⟨j, h1, h2⟩ := rank_at h (mem_statesL.1 (List.mem_of_getElem? hi))
  rw [h1, states_uniq h.ok h2 hi]
end
section
open Go Go.RowKit
def cntT (l : List Bool) : Nat := (l.filter id).length
theorem cntT_le (l : List Bool) : cntT l ≤ l.length := List.length_filter_le _ _
theorem cntT_set : ∀ {l : List Bool} {i : Nat}, l[i]? = some false → cntT (l.set i true) = cntT l + 1
  | [], i, h => by simp at h
  | b :: l, 0, h => by simp at h; subst h; simp [cntT]
  | b :: l, i + 1, h => by
    have := cntT_set (l := l) (i := i) (by simpa using h)
    simp only [cntT] at this ⊢
    cases b <;> simp [this]
def markL : List (List Int) → List Bool → List (List Int)
  | s :: l, b :: bs => if b = true then s :: markL l bs else markL l bs
  | _, _ => []
theorem mem_markL : ∀ {l : List (List Int)} {bs : List Bool} {s : List Int}, s ∈ markL l bs ↔ ∃ i : Nat, l[i]? = some s ∧ bs[i]? = some true
  | [], bs, s => by simp [markL]
  | s :: l, [], s' => by simp [markL]
  | s :: l, b :: bs, s' => by
    have ih := mem_markL (l := l) (bs := bs) (s := s')
    constructor
    · intro h
      simp only [markL] at h
      split at h
      · rename_i hb
        rcases List.mem_cons.1 h with rfl | h
        · exact ⟨0, rfl, by simp [hb]⟩
        · obtain ⟨i, h1, h2⟩ := ih.1 h; exact ⟨i + 1, by simpa using h1, by simpa using h2⟩
      · obtain ⟨i, h1, h2⟩ := ih.1 h; exact ⟨i + 1, by simpa using h1, by simpa using h2⟩
    · rintro ⟨i, h1, h2⟩
      simp only [markL]
      cases i with
      | zero =>
        simp at h1 h2
        subst h1 h2
        simp
      | succ i =>
        have := ih.2 ⟨i, by simpa using h1, by simpa using h2⟩
        split
        · exact List.mem_cons_of_mem _ this
        · exact this
theorem markL_sub : ∀ (l : List (List Int)) (bs : List Bool), (markL l bs).Sublist l
  | [], bs => by simp [markL]
  | s :: l, [] => by simp [markL]
  | s :: l, b :: bs => by
    have ih := markL_sub l bs
    simp only [markL]
    split
    · exact ih.cons_cons s
    · exact ih.cons s
theorem nx {σ ρ : Type} {x : Option (Ctl σ ρ)} {I : σ → Prop} (h : ∃ r, x = some r ∧ ∃ s', r = Ctl.next s' ∧ I s') : ∃ s', x = some (.next s') ∧ I s' := by
  obtain ⟨_, h1, s', rfl, h2⟩ := h
  exact ⟨s', h1, h2⟩
def MkI (t : Tsk) (gens : List Swp) (s0 : List Int) (i0 : Nat) (bs : List Bool) : Prop := bs.length = (statesL t.vars).length ∧ bs[i0]? = some true ∧ ∀ (i : Nat) s, (statesL t.vars)[i]? = some s → bs[i]? = some true → Orb gens s0 s
/-- Closed under the generators up to a place. -/
def ClB (t : Tsk) (gens : List Swp) (bs : List Bool) (n m : Nat) : Prop := ∀ (i : Nat) s x (q j : Nat), (i < n ∨ (i = n ∧ q < m)) → (statesL t.vars)[i]? = some s → gens[q]? = some x → bs[i]? = some true → (statesL t.vars)[j]? = some (imS x s) → bs[j]? = some true
theorem refOrbit_eq {t : Tsk} (hsm : SmallOk t) {gens : List Swp} (hg : ∀ x ∈ gens, SymP t x) {s0 : List Int} (hs0 : StateOk t.vars s0) : ∃ bs : List Bool, m_ref51_Orbit t.vars gens s0 = some (markL (statesL t.vars) bs) ∧ ∀ (i : Nat) s, (statesL t.vars)[i]? = some s → (bs[i]? = some true ↔ Orb gens s0 s) := by
  have hlen : (statesL t.vars).length ≤ 512 := hsm.many
  have hok := hsm.ok
  obtain ⟨i0, hi0, hi0'⟩ := rank_at hsm hs0
  have hil := lt_of_get hi0'
  have key : ∃ r, m_ref51_Orbit t.vars gens s0 = some r ∧ ∃ bs : List Bool, r = markL (statesL t.vars) bs ∧ ∀ (i : Nat) s, (statesL t.vars)[i]? = some s → (bs[i]? = some true ↔ Orb gens s0 s) := by
    unfold m_ref51_Orbit
    rw [states_small hsm, bnd_some, mkI_eq (by omega) (by omega), bnd_some, hi0, bnd_some, atI_eq, List.getElem?_replicate, if_pos hil, bnd_some, Int.toNat_natCast]
    refine lop_ex (fun r => MkI t gens s0 i0 r.1 ∧ (r.2 = false → ClB t gens r.1 (statesL t.vars).length 0)) (fun r => MkI t gens s0 i0 r.1 ∧ ClB t gens r.1 (statesL t.vars).length 0) (fun _ => False) (fun r => 2 * (r.1.length - cntT r.1) + (if r.2 = true then 1 else 0)) ⟨⟨by simp, List.getElem?_set_self (by simpa using hil), fun i s hi hb => ?_⟩, fun hh => by cases hh⟩ ?_ ?_ (fun q hq => hq.elim)
    · dsimp only at hb
      by_cases e1 : i0 = i
      · subst e1
        rw [hi0'] at hi
        obtain rfl := Option.some.inj hi
        exact .self
      · rw [List.getElem?_set_ne e1] at hb
        have := List.eq_of_mem_replicate (List.mem_of_getElem? hb)
        cases this
    · rintro ⟨bs, ch⟩ ⟨hM, hC⟩
      dsimp only at hM hC ⊢
      cases ch with
      | false => rw [if_f]; exact .inr (.inl ⟨_, rfl, hM, hC rfl⟩)
      | true =>
        rw [if_t]
        refine .inl (nx ?_)
        refine rng_ex (fun m r => MkI t gens s0 i0 r.1 ∧ (r.2 = true → cntT bs < cntT r.1) ∧ (r.2 = false → r.1 = bs ∧ ClB t gens bs m 0)) (fun _ => False) ⟨hM, fun hh => (by cases hh), fun _ => ⟨rfl, fun i s x q j h => by omega⟩⟩ ?_ ?_ (fun q hq => hq.elim)
        · rintro k sk ⟨b1, c1⟩ hk ⟨i1, i2, i3⟩
          dsimp only at i1 i2 i3
          have hsk : StateOk t.vars sk := mem_statesL.1 (List.mem_of_getElem? hk)
          refine .inl (nx ?_)
          refine rng_ex (fun q r => MkI t gens s0 i0 r.1 ∧ (r.2 = true → cntT bs < cntT r.1) ∧ (r.2 = false → r.1 = bs ∧ ClB t gens bs k q)) (fun _ => False) ⟨i1, i2, i3⟩ ?_ ?_ (fun q hq => hq.elim)
          · rintro q x ⟨b2, c2⟩ hx ⟨j1, j2, j3⟩
            dsimp only at j1 j2 j3
            refine .inl ?_
            obtain ⟨h1, h2, h3⟩ := imS_eq hok (hg x (List.mem_of_getElem? hx)).1 hsk
            obtain ⟨j, hj, hj'⟩ := rank_at hsm h3
            obtain ⟨u, hu⟩ := some_lt (l := b2) (k := k) (by rw [j1.1]; exact lt_of_get hk)
            obtain ⟨y, hy⟩ := some_lt (l := b2) (k := j) (by rw [j1.1]; exact lt_of_get hj')
            rw [ref_moved, h1, bnd_some, hj, bnd_some]
            dsimp only
            rw [hu, bnd_some]
            have keep : (u = true → y = true) → ∃ s', (some (Ctl.next (b2, c2)) : Option (Ctl ((List Bool) × Bool) (Ctl ((List Bool) × Bool) (Ctl ((List Bool) × Bool) (List (List Int)))))) = some (.next s') ∧ MkI t gens s0 i0 s'.1 ∧ (s'.2 = true → cntT bs < cntT s'.1) ∧ (s'.2 = false → s'.1 = bs ∧ ClB t gens bs k (q + 1)) := fun huy => by
              refine ⟨(b2, c2), rfl, j1, j2, fun hf => ⟨(j3 hf).1, fun i s z r jj hor hi hz hb hjj => ?_⟩⟩
              obtain ⟨g1, g2⟩ := j3 hf
              by_cases e : i = k ∧ r = q
              · obtain ⟨rfl, rfl⟩ := e
                rw [hk] at hi
                obtain rfl := Option.some.inj hi
                rw [hx] at hz
                obtain rfl := Option.some.inj hz
                have e1 := rank_eq hsm hjj
                rw [hj] at e1
                have e2 : j = jj := by have := Option.some.inj e1; omega
                subst e2
                rw [← g1, hu] at hb
                rw [← g1, hy, huy (Option.some.inj hb)]
              · exact g2 i s z r jj (by omega) hi hz hb hjj
            cases u with
            | false => rw [if_f, bnd_some, if_f]; exact keep fun hh => by cases hh
            | true =>
              rw [if_t, atI_eq, hy, bnd_some, bnd_some]
              cases y with
              | true => exact keep fun _ => rfl
              | false =>
                rw [show (!false) = true from rfl, if_t, bnd_some, Int.toNat_natCast]
                refine ⟨_, rfl, ⟨by simpa using j1.1, ?_, fun i' s' hs' hb => ?_⟩, fun _ => ?_, fun hh => by simp at hh⟩
                · show (b2.set j true)[i0]? = some true
                  by_cases e1 : j = i0
                  · subst e1; rw [j1.2.1] at hy; cases hy
                  · rw [List.getElem?_set_ne e1]; exact j1.2.1
                · change (b2.set j true)[i']? = some true at hb
                  by_cases e1 : j = i'
                  · subst e1
                    rw [hj'] at hs'
                    obtain rfl := Option.some.inj hs'
                    exact (j1.2.2 k sk hk hu).step (List.mem_of_getElem? hx)
                  · rw [List.getElem?_set_ne e1] at hb; exact j1.2.2 i' s' hs' hb
                · show cntT bs < cntT (b2.set j true)
                  rw [cntT_set hy]
                  cases hr : c2 with
                  | true => have := j2 hr; omega
                  | false => rw [(j3 hr).1]; omega
          · rintro ⟨b2, c2⟩ ⟨j1, j2, j3⟩
            rw [fin_d]
            refine ⟨_, rfl, _, rfl, j1, j2, fun hf => ⟨(j3 hf).1, fun i s z r jj hor hi hz hb hjj => ?_⟩⟩
            have hrl := lt_of_get hz
            exact (j3 hf).2 i s z r jj (by omega) hi hz hb hjj
        · rintro ⟨b1, c1⟩ ⟨i1, i2, i3⟩
          dsimp only at i1 i2 i3
          rw [fin_d]
          refine ⟨_, rfl, _, rfl, ⟨i1, fun hf => ?_⟩, ?_⟩
          · dsimp only at hf ⊢
            rw [(i3 hf).1]; exact (i3 hf).2
          · have hl1 := cntT_le b1
            have hl2 := i1.1
            have hl3 := hM.1
            dsimp only
            cases hb : c1 with
            | true => have := i2 hb; simp; omega
            | false => rw [(i3 hb).1]; simp
    · rintro ⟨bs, ch⟩ ⟨hM, hC⟩
      dsimp only at hM hC
      rw [fin_d]
      have hback : ∀ s, Orb gens s0 s → ∀ i : Nat, (statesL t.vars)[i]? = some s → bs[i]? = some true := by
        intro s hr
        induction hr with
        | self =>
          intro i hi
          have e1 := rank_eq hsm hi
          rw [hi0] at e1
          have : i0 = i := by have := Option.some.inj e1; omega
          rw [← this]; exact hM.2.1
        | @step s x hr hx ih =>
          intro j hj
          have hso := hr.ok hok hg hs0
          obtain ⟨i, _, hi⟩ := rank_at hsm hso
          obtain ⟨q, hq⟩ := List.getElem?_of_mem hx
          exact hC i s x q j (.inl (lt_of_get hi)) hi hq (ih i hi) hj
      refine rng_ex (fun m acc => acc ++ markL ((statesL t.vars).drop m) (bs.drop m) = markL (statesL t.vars) bs ∧ acc.length ≤ m) (fun _ => False) ⟨by simp, by simp⟩ ?_ ?_ (fun q hq => hq.elim)
      · rintro m x acc hx ⟨g1, g2⟩
        have hml := lt_of_get hx
        obtain ⟨b, hb⟩ := some_lt (l := bs) (k := m) (by rw [hM.1]; exact hml)
        have d1 : (statesL t.vars).drop m = x :: (statesL t.vars).drop (m + 1) := by
          rw [List.drop_eq_getElem_cons hml]
          rw [List.getElem?_eq_getElem hml] at hx
          rw [Option.some.inj hx]
        have d2 : bs.drop m = b :: bs.drop (m + 1) := by
          rw [List.drop_eq_getElem_cons (lt_of_get hb)]
          rw [List.getElem?_eq_getElem (lt_of_get hb)] at hb
          rw [Option.some.inj hb]
        rw [d1, d2] at g1
        simp only [markL] at g1
        refine .inl ?_
        rw [hb, bnd_some]
        cases b with
        | true =>
          rw [if_t] at g1 ⊢
          rw [appI_eq (by simp; omega) (by simp; omega), bnd_some]
          exact ⟨_, rfl, by rw [← g1]; simp, by simp; omega⟩
        | false =>
          rw [if_f] at g1 ⊢
          exact ⟨_, rfl, g1, by omega⟩
      · rintro acc ⟨g1, g2⟩
        refine ⟨_, rfl, bs, ?_, fun i s hi => ⟨hM.2.2 i s hi, fun ho => hback s ho i hi⟩⟩
        rw [List.drop_length] at g1
        simpa [markL] using g1
  obtain ⟨r, h1, bs, rfl, h2⟩ := key
  exact ⟨bs, h1, h2⟩
end
section
open Go Go.RowKit
theorem mget_put {K V : Type} [MKey K] (z : V) (k k' : K) (v : V) : ∀ l : List (K × V), mget z (mput l k v) k' = if k = k' then v else mget z l k'
  | [] => by simp only [mput, mget]
  | p :: r => by
    have ih := mget_put z k k' v r
    simp only [mput]
    by_cases h1 : p.1 = k
    · rw [if_pos h1]
      simp only [mget]
      by_cases h2 : k = k'
      · rw [if_pos h2, if_pos h2]
      · rw [if_neg h2, if_neg h2, if_neg (by rw [h1]; exact h2)]
    · rw [if_neg h1]
      simp only [mget, ih]
      by_cases h2 : k = k'
      · rw [if_pos h2, if_pos h2, if_neg (by rw [← h2]; exact h1)]
      · rw [if_neg h2, if_neg h2]
/-- What is true of the list of states and of the set of texts. -/
def OrI (t : Tsk) (gens : List Swp) (s0 : List Int) (out : List (List Int)) (seen : List (ByteArray × Bool)) : Prop := out.Nodup ∧ s0 ∈ out ∧ (∀ s ∈ out, Orb gens s0 s) ∧ ∀ y, StateOk t.vars y → (mget false seen (txt y) = true ↔ y ∈ out)
theorem OrI.add {t : Tsk} (hok : TaskOk t) {gens : List Swp} {s0 y : List Int} {out : List (List Int)} {seen : List (ByteArray × Bool)} (h : OrI t gens s0 out seen) (hout : ∀ s ∈ out, StateOk t.vars s) (hy : StateOk t.vars y) (ho : Orb gens s0 y) (hn : y ∉ out) : OrI t gens s0 (out ++ [y]) (mput seen (txt y) true) := by
  obtain ⟨h1, h2, h3, h4⟩ := h
  refine ⟨?_, List.mem_append_left _ h2, fun s hs => ?_, fun z hz => ?_⟩
  · rw [List.nodup_append]
    exact ⟨h1, by simp, fun a ha b hb hab => by simp at hb; subst hb hab; exact hn ha⟩
  · rcases List.mem_append.1 hs with hs | hs
    · exact h3 s hs
    · simp at hs; subst hs; exact ho
  · rw [mget_put]
    by_cases e : txt y = txt z
    · have := txt_inj hok hy hz e
      subst this
      simp
    · rw [if_neg e, h4 z hz]
      constructor
      · intro hm; exact List.mem_append_left _ hm
      · intro hm
        rcases List.mem_append.1 hm with hm | hm
        · exact hm
        · simp at hm; subst hm; exact absurd rfl e
theorem nodup_len2 {α : Type} [DecidableEq α] : ∀ {a b : List α}, a.Nodup → (∀ x ∈ a, x ∈ b) → a.length ≤ b.length
  | [], _, _, _ => Nat.zero_le _
  | x :: a, b, hn, hs => by
    have hx := hs x List.mem_cons_self
    have h1 := nodup_len2 (a := a) (b := b.erase x) (List.nodup_cons.1 hn).2 fun y hy => (List.mem_erase_of_ne (fun e => (List.nodup_cons.1 hn).1 (by rw [← e]; exact hy))).2 (hs y (List.mem_cons_of_mem _ hy))
    have h2 := List.length_erase_of_mem hx
    have h3 := List.length_pos_of_mem hx
    simp only [List.length_cons]
    omega
/-- Orbit's answer. -/
theorem orbit_eq {t : Tsk} (hsm : SmallOk t) {gens : List Swp} (hg : ∀ x ∈ gens, SymP t x) {s0 : List Int} (hs0 : StateOk t.vars s0) (lim : Int) :
    ∃ out : List (List Int), out.Nodup ∧ (∀ s ∈ out, Orb gens s0 s) ∧ ((max 0 (min lim 65536) < (out.length : Int) ∧ m_symmetry_Orbit t gens s0 lim = some ([], ⟨10⟩)) ∨ ((out.length : Int) ≤ max 0 (min lim 65536) ∧ (∀ s, Orb gens s0 s → s ∈ out) ∧ m_symmetry_Orbit t gens s0 lim = some (srt_slices_Compare_Lint_int out, ⟨0⟩))) := by
  have hok := hsm.ok
  have hfew : ∀ out : List (List Int), out.Nodup → (∀ s ∈ out, Orb gens s0 s) → out.length ≤ 512 := fun out h1 h2 => Nat.le_trans (nodup_len2 h1 fun s hs => mem_statesL.2 ((h2 s hs).ok hok hg hs0)) hsm.many
  have hsl : ∀ s, StateOk t.vars s → s.length ≤ 1000000 := fun s hs => by have := hs.1; have := hok.1; omega
  have key : ∃ r, m_symmetry_Orbit t gens s0 lim = some r ∧ ∃ out : List (List Int), out.Nodup ∧ (∀ s ∈ out, Orb gens s0 s) ∧ ((max 0 (min lim 65536) < (out.length : Int) ∧ r = ([], ⟨10⟩)) ∨ ((out.length : Int) ≤ max 0 (min lim 65536) ∧ (∀ s, Orb gens s0 s → s ∈ out) ∧ r = (srt_slices_Compare_Lint_int out, ⟨0⟩))) := by
    have hc : m_slices_Clone_Lint_int s0 = some s0 := if_pos ⟨by have := hs0.1; have := hok.1; omega, by have := hs0.1; have := hok.1; omega⟩
    unfold m_symmetry_Orbit
    rw [demandL hok, bof_t hg, bnd_some, if_t, if_neg (by simp)]
    unfold m_task_Proper
    rw [bof_t hs0, bnd_some, if_t, hc, bnd_some, text_eq (hsl s0 hs0), bnd_some]
    refine lop_ex (fun st => ∃ i : Nat, st.2.1 = (i : Int) ∧ OrI t gens s0 st.1 st.2.2.l ∧ i ≤ st.1.length ∧ ∀ j, j < i → ∀ s, st.1[j]? = some s → ∀ x ∈ gens, imS x s ∈ st.1) (fun st => OrI t gens s0 st.1 st.2.2.l ∧ (max 0 (min lim 65536) < (st.1.length : Int) ∨ ∀ s ∈ st.1, ∀ x ∈ gens, imS x s ∈ st.1)) (fun _ => False) (fun st => 600 - st.2.1.toNat) ⟨0, rfl, ?_, by simp, fun j hj => by omega⟩ ?_ ?_ (fun q hq => hq.elim)
    · refine ⟨by simp, by simp, fun s hs => by simp at hs; subst hs; exact .self, fun y hy => ?_⟩
      dsimp only
      rw [mget_put]
      by_cases e : txt s0 = txt y
      · have := txt_inj hok hs0 hy e
        subst this
        simp
      · rw [if_neg e]
        simp only [mget]
        constructor
        · intro hh; cases hh
        · intro hh; simp at hh; subst hh; exact absurd rfl e
    · rintro ⟨out, i', seen⟩ ⟨i, hi, hI, hil, hC⟩
      dsimp only at hi hI hil hC ⊢
      subst hi
      have hol := hfew out hI.1 hI.2.2.1
      by_cases h1 : (i : Int) < (out.length : Int)
      case neg =>
        rw [if_neg h1, bnd_some, if_f]
        refine .inr (.inl ⟨_, rfl, hI, .inr fun s hs x hx => ?_⟩)
        obtain ⟨j, hj⟩ := List.getElem?_of_mem hs
        have hjl : j < out.length := lt_of_get hj
        exact hC j (by omega) s hj x hx
      by_cases h2 : (out.length : Int) ≤ max 0 (min lim 65536)
      case neg =>
        rw [if_pos h1, if_neg h2, bnd_some, if_f]
        exact .inr (.inl ⟨_, rfl, hI, .inl (by dsimp only; omega)⟩)
      rw [if_pos h1, if_pos h2, bnd_some, if_t]
      obtain ⟨si, hsi⟩ := some_lt (l := out) (k := i) (by omega)
      have hsio : StateOk t.vars si := (hI.2.2.1 si (List.mem_of_getElem? hsi)).ok hok hg hs0
      refine .inl (nx ?_)
      refine rng_ex (fun q st => OrI t gens s0 st.1 st.2.l ∧ (∃ r, st.1 = out ++ r) ∧ ∀ p x, p < q → gens[p]? = some x → imS x si ∈ st.1) (fun _ => False) ⟨hI, ⟨[], by simp⟩, fun p x hp => by omega⟩ ?_ ?_ (fun q hq => hq.elim)
      · rintro q x ⟨o1, m1⟩ hx ⟨j1, ⟨r, j2⟩, j3⟩
        dsimp only at j1 j2 j3 ⊢
        refine .inl ?_
        have hgi : o1[i]? = some si := by rw [j2, List.getElem?_append_left (by omega)]; exact hsi
        obtain ⟨g1, g2, g3⟩ := imS_eq hok (hg x (List.mem_of_getElem? hx)).1 hsio
        have ho1 := hfew o1 j1.1 j1.2.2.1
        rw [atI_eq, hgi, bnd_some, g1, bnd_some, text_eq (hsl _ g3), bnd_some]
        by_cases hm : imS x si ∈ o1
        · rw [(j1.2.2.2 _ g3).2 hm, show (!true) = false from rfl, if_f]
          refine ⟨_, rfl, j1, ⟨r, j2⟩, fun p y hp hy => ?_⟩
          by_cases e : p = q
          · subst e; rw [hx] at hy; obtain rfl := Option.some.inj hy; exact hm
          · exact j3 p y (by omega) hy
        · have hf : mget false m1.l (txt (imS x si)) = false := by
            cases hb : mget false m1.l (txt (imS x si)) with
            | false => rfl
            | true => exact absurd ((j1.2.2.2 _ g3).1 hb) hm
          rw [hf, show (!false) = true from rfl, if_t, bnd_some, appI_eq (by simp; omega) (by simp; omega), bnd_some]
          refine ⟨_, rfl, j1.add hok (fun s hs => (j1.2.2.1 s hs).ok hok hg hs0) g3 ((hI.2.2.1 si (List.mem_of_getElem? hsi)).step (List.mem_of_getElem? hx)) hm, ⟨r ++ [imS x si], by dsimp only; rw [j2]; simp⟩, fun p y hp hy => ?_⟩
          by_cases e : p = q
          · subst e; rw [hx] at hy; obtain rfl := Option.some.inj hy; simp
          · exact List.mem_append_left _ (j3 p y (by omega) hy)
      · rintro ⟨o1, m1⟩ ⟨j1, ⟨r, j2⟩, j3⟩
        dsimp only at j1 j2 j3
        rw [fin_d, chkI_eq (by unfold inI64; omega), bnd_some]
        refine ⟨_, rfl, _, rfl, ⟨i + 1, rfl, j1, by dsimp only; rw [j2]; simp; omega, fun j hj s hs x hx => ?_⟩, by dsimp only; omega⟩
        dsimp only at hs ⊢
        obtain ⟨p, hp⟩ := List.getElem?_of_mem hx
        by_cases e : j = i
        · subst e
          rw [j2, List.getElem?_append_left (by omega), hsi] at hs
          obtain rfl := Option.some.inj hs
          exact j3 p x (lt_of_get hp) hp
        · rw [j2, List.getElem?_append_left (by omega)] at hs
          rw [j2]
          exact List.mem_append_left _ (hC j (by omega) s hs x hx)
    · rintro ⟨out, i, seen⟩ ⟨hI, hC⟩
      dsimp only at hI hC
      rw [fin_d]
      dsimp only
      have hol := hfew out hI.1 hI.2.2.1
      by_cases hlt : max 0 (min lim 65536) < (out.length : Int)
      · rw [if_pos hlt]
        exact ⟨_, rfl, out, hI.1, hI.2.2.1, .inl ⟨hlt, rfl⟩⟩
      · rw [if_neg hlt, if_pos (by omega), bnd_some]
        refine ⟨_, rfl, out, hI.1, hI.2.2.1, .inr ⟨by omega, fun s hs => ?_, rfl⟩⟩
        have hcl : ∀ s ∈ out, ∀ x ∈ gens, imS x s ∈ out := by
          rcases hC with h | h
          · exact absurd h hlt
          · exact h
        induction hs with
        | self => exact hI.2.1
        | step _ hx ih => exact hcl _ ih _ hx
  obtain ⟨r, h1, out, h2, h3, h4⟩ := key
  refine ⟨out, h2, h3, ?_⟩
  rcases h4 with ⟨h5, rfl⟩ | ⟨h5, h6, rfl⟩
  · exact .inl ⟨h5, h1⟩
  · exact .inr ⟨h5, h6, h1⟩
end
section
open Go Go.RowKit
theorem long_cases (x : Swp) : m_law51_long x = some true ∨ m_law51_long x = some false := by
  obtain ⟨b, hb⟩ := long_some x
  cases b
  · exact .inr hb
  · exact .inl hb
end
section
open Go Go.RowKit
theorem bof_or {p q : Prop} : (bof p || bof q) = bof (p ∨ q) := by
  by_cases h : p
  · rw [bof_t h, bof_t (p := p ∨ q) (.inl h)]; rfl
  · by_cases h2 : q
    · rw [bof_f h, bof_t h2, bof_t (p := p ∨ q) (.inr h2)]; rfl
    · rw [bof_f h, bof_f h2, bof_f (p := p ∨ q) (fun hh => hh.elim h h2)]; rfl
theorem bof_F : bof False = false := bof_f id
theorem rng_or {α ρ : Type} {f : Nat → α → Bool → Option (Ctl Bool ρ)} {xs : List α} {b : Bool} (P : α → Prop) (h : ∀ k x s, xs[k]? = some x → f k x s = some (.next (s || bof (P x)))) : rng f xs 0 b = some (.done (b || bof (∃ x ∈ xs, P x))) := by
  rw [rng_from (fun k => b || bof (∃ x ∈ xs.take k, P x)) ?a ?b, List.take_length]
  case a => simp [bof_F]
  case b =>
    intro k x hk
    rw [h k x _ hk, Bool.or_assoc, bof_or]
    congr 3
    rw [bof_eq]
    rw [List.take_add_one, hk]
    constructor
    · rintro (⟨y, hy, hp⟩ | hp)
      · exact ⟨y, List.mem_append.2 (.inl hy), hp⟩
      · exact ⟨x, List.mem_append.2 (.inr (by simp)), hp⟩
    · rintro ⟨y, hy, hp⟩
      rcases List.mem_append.1 hy with hy | hy
      · exact .inl ⟨y, hy, hp⟩
      · obtain rfl : y = x := by simpa using hy
        exact .inr hp
theorem rngN_or {ρ : Type} {f : Nat → Bool → Option (Ctl Bool ρ)} {n : Nat} {b : Bool} (P : Nat → Prop) (h : ∀ k s, k < n → f k s = some (.next (s || bof (P k)))) : rngN f n b = some (.done (b || bof (∃ k, k < n ∧ P k))) := by
  unfold rngN
  rw [rng_or P (fun k x s hk => h x s (List.mem_range.1 (List.mem_of_getElem? hk)))]
  congr 3
  rw [bof_eq]
  exact ⟨fun ⟨x, hx, hp⟩ => ⟨x, List.mem_range.1 hx, hp⟩, fun ⟨x, hx, hp⟩ => ⟨x, List.mem_range.2 hx, hp⟩⟩
theorem or_cond {p : Prop} {s : Bool} : (if s = true then some true else some (bof p)) = some (s || bof p) := by cases s <;> rfl
theorem large5 (t : Tsk) : m_ref05_large t = some (bof (Large t)) := by
  unfold m_ref05_large
  have e1 : (if 64 < (t.vars.length : Int) then (some true) else (if 4096 < (t.ops.length : Int) then (some true) else (if 64 < (t.goal.length : Int) then (some true) else (some false))) : Option Bool) = some (bof (64 < t.vars.length ∨ 4096 < t.ops.length ∨ 64 < t.goal.length)) := by
    by_cases h1 : 64 < t.vars.length
    · rw [if_pos (by omega), bof_t (.inl h1)]
    · by_cases h2 : 4096 < t.ops.length
      · rw [if_neg (by omega), if_pos (by omega), bof_t (.inr (.inl h2))]
      · by_cases h3 : 64 < t.goal.length
        · rw [if_neg (by omega), if_neg (by omega), if_pos (by omega), bof_t (.inr (.inr h3))]
        · rw [if_neg (by omega), if_neg (by omega), if_neg (by omega), bof_f (by omega)]
  rw [e1, bnd_some, rng_or (fun o : Opr => 64 < o.pre.length ∨ 64 < o.effs.length ∨ ∃ e ∈ o.effs, 64 < e.cond.length) (fun k o s hk => by
    have e2 : (if s = true then (some true) else (if 64 < (o.pre.length : Int) then (some true) else (if 64 < (o.effs.length : Int) then (some true) else (some false))) : Option Bool) = some (s || bof (64 < o.pre.length ∨ 64 < o.effs.length)) := by
      cases s with
      | true => rfl
      | false =>
        rw [if_f, Bool.false_or]
        by_cases h1 : 64 < o.pre.length
        · rw [if_pos (by omega), bof_t (.inl h1)]
        · by_cases h2 : 64 < o.effs.length
          · rw [if_neg (by omega), if_pos (by omega), bof_t (.inr h2)]
          · rw [if_neg (by omega), if_neg (by omega), bof_f (by omega)]
    rw [e2, bnd_some, rng_or (fun e : Eff => 64 < e.cond.length) (fun k e s hk => by
      cases s with
      | true => rfl
      | false =>
        rw [if_f, Bool.false_or]
        by_cases h : 64 < e.cond.length
        · rw [if_pos (by omega), bof_t h]
        · rw [if_neg (by omega), bof_f h]), bnd_some, fin_d, Bool.or_assoc, bof_or, bof_eq or_assoc]), bnd_some, fin_d, bof_or]
  refine congrArg some (bof_eq ?_)
  unfold Large
  constructor
  · rintro ((h | h | h) | ⟨o, ho, h⟩)
    · exact .inl h
    · exact .inr (.inl h)
    · exact .inr (.inr (.inr ⟨_, conds_mem.2 (.inl rfl), h⟩))
    · obtain ⟨i, hi⟩ := List.getElem?_of_mem ho
      rcases h with h | h | ⟨e, he, h⟩
      · exact .inr (.inr (.inr ⟨_, conds_mem.2 (.inr ⟨i, o, hi, .inl rfl⟩), h⟩))
      · exact .inr (.inr (.inl ⟨i, o, hi, h⟩))
      · obtain ⟨j, hj⟩ := List.getElem?_of_mem he
        exact .inr (.inr (.inr ⟨_, conds_mem.2 (.inr ⟨i, o, hi, .inr ⟨j, e, hj, rfl⟩⟩), h⟩))
  · rintro (h | h | ⟨i, o, ho, h⟩ | ⟨f, hf, h⟩)
    · exact .inl (.inl h)
    · exact .inl (.inr (.inl h))
    · exact .inr ⟨o, List.mem_of_getElem? ho, .inr (.inl h)⟩
    · rcases conds_mem.1 hf with rfl | ⟨i, o, ho, rfl | ⟨j, e, he, rfl⟩⟩
      · exact .inl (.inr (.inr h))
      · exact .inr ⟨o, List.mem_of_getElem? ho, .inl h⟩
      · exact .inr ⟨o, List.mem_of_getElem? ho, .inr (.inr ⟨e, List.mem_of_getElem? he, h⟩)⟩
theorem outside5 (t : Tsk) : m_ref05_outside t = some (bof (¬ (VarsOk t ∧ CostsOk t))) := by
  unfold m_ref05_outside
  rw [rng_or (fun n : Int => n < 1 ∨ 64 < n) (fun k n s hk => by
    cases s with
    | true => rfl
    | false =>
      rw [if_f, Bool.false_or]
      by_cases h1 : n < 1
      · rw [if_pos h1, bof_t (.inl h1)]
      · by_cases h2 : 64 < n
        · rw [if_neg h1, if_pos h2, bof_t (.inr h2)]
        · rw [if_neg h1, if_neg h2, bof_f (by omega)]), bnd_some, fin_d, rng_or (fun o : Opr => o.cost < 0 ∨ 1048576 < o.cost) (fun k o s hk => by
    cases s with
    | true => rfl
    | false =>
      rw [if_f, Bool.false_or]
      by_cases h1 : o.cost < 0
      · rw [if_pos h1, bof_t (.inl h1)]
      · by_cases h2 : 1048576 < o.cost
        · rw [if_neg h1, if_pos h2, bof_t (.inr h2)]
        · rw [if_neg h1, if_neg h2, bof_f (by omega)]), bnd_some, fin_d, Bool.false_or, bof_or]
  refine congrArg some (bof_eq ?_)
  constructor
  · rintro (⟨n, hn, h⟩ | ⟨o, ho, h⟩) ⟨h1, h2⟩
    · obtain ⟨i, hi⟩ := List.getElem?_of_mem hn
      have := h1 i n hi; omega
    · obtain ⟨i, hi⟩ := List.getElem?_of_mem ho
      have := h2 i o hi; omega
  · intro h
    refine Classical.byContradiction fun hn => h ⟨fun i n hi => ?_, fun i o hi => ?_⟩
    · refine Classical.byContradiction fun hh => hn (.inl ⟨n, List.mem_of_getElem? hi, by omega⟩)
    · refine Classical.byContradiction fun hh => hn (.inr ⟨o, List.mem_of_getElem? hi, by omega⟩)
theorem bof_not {p : Prop} : (if bof p = true then some false else some true) = some (bof (¬ p)) := by
  by_cases h : p
  · rw [bof_t h, bof_f (fun hh => hh h)]; rfl
  · rw [bof_f h, bof_t h]; rfl
theorem malformed5 (t : Tsk) : m_ref05_malformed t = some (bof (¬ (StateOk t.vars t.init ∧ CondsOk t ∧ EffsOk t))) := by
  unfold m_ref05_malformed m_base_State m_base_Proper
  have e1 : (bnd (some (bof (StateOk t.vars t.init))) fun q27 => if q27 = true then bnd (some (bof (FactsOk t.vars t.goal))) fun q34 => if q34 = true then some false else some true else some true : Option Bool) = some (bof (¬ StateOk t.vars t.init ∨ ¬ FactsOk t.vars t.goal)) := by
    rw [bnd_some, bnd_some, bof_not]
    by_cases h : StateOk t.vars t.init
    · rw [bof_t h, if_t]
      exact congrArg some (bof_eq ⟨fun h => .inr h, fun hh => hh.resolve_left (fun hn => hn h)⟩)
    · rw [bof_f h, if_f, bof_t (.inl h)]
  rw [e1, bnd_some, rng_or (fun o : Opr => ¬ FactsOk t.vars o.pre ∨ ∃ e ∈ o.effs, ¬ EffOk t.vars e) (fun k o s hk => by
    rw [bnd_some, bof_not, or_cond, bnd_some, rng_or (fun e : Eff => ¬ EffOk t.vars e) (fun k e s hk => by
      cases s with
      | true => rfl
      | false =>
        rw [if_f, Bool.false_or, bnd_some]
        by_cases h1 : FactsOk t.vars e.cond
        · rw [bof_t h1, if_t, bnd_some]
          by_cases h2 : FactsOk t.vars [⟨e.var, e.val⟩]
          · rw [bof_t h2, if_t, bof_f (fun h => h ⟨h1, factsOk_one.1 h2⟩)]
          · rw [bof_f h2, if_f, bof_t (fun h => h2 (factsOk_one.2 h.2))]
        · rw [bof_f h1, if_f, bof_t (fun h => h1 h.1)]), bnd_some, fin_d, Bool.or_assoc, bof_or]), bnd_some, fin_d, bof_or]
  refine congrArg some (bof_eq ?_)
  constructor
  · rintro ((h | h) | ⟨o, ho, h⟩) ⟨h1, h2, h3⟩
    · exact h h1
    · exact h (h2 0 _ rfl)
    · obtain ⟨i, hi⟩ := List.getElem?_of_mem ho
      have hc : ∀ f ∈ conds t, FactsOk t.vars f := fun f hf => by
        obtain ⟨i, hi⟩ := List.getElem?_of_mem hf
        exact h2 i f hi
      rcases h with h | ⟨e, he, h⟩
      · exact h (hc _ (conds_mem.2 (.inr ⟨i, o, hi, .inl rfl⟩)))
      · obtain ⟨j, hj⟩ := List.getElem?_of_mem he
        exact h ⟨hc _ (conds_mem.2 (.inr ⟨i, o, hi, .inr ⟨j, e, hj, rfl⟩⟩)), h3 i o hi j e hj⟩
  · intro h
    refine Classical.byContradiction fun hn => h ?_
    have g1 : StateOk t.vars t.init := Classical.byContradiction fun hh => hn (.inl (.inl hh))
    have g2 : FactsOk t.vars t.goal := Classical.byContradiction fun hh => hn (.inl (.inr hh))
    have g3 : ∀ o ∈ t.ops, FactsOk t.vars o.pre := fun o ho => Classical.byContradiction fun hh => hn (.inr ⟨o, ho, .inl hh⟩)
    have g4 : ∀ o ∈ t.ops, ∀ e ∈ o.effs, EffOk t.vars e := fun o ho e he => Classical.byContradiction fun hh => hn (.inr ⟨o, ho, .inr ⟨e, he, hh⟩⟩)
    refine ⟨g1, fun i f hf => ?_, fun i o ho j e he => (g4 o (List.mem_of_getElem? ho) e (List.mem_of_getElem? he)).2⟩
    rcases conds_mem.1 (List.mem_of_getElem? hf) with rfl | ⟨i, o, ho, rfl | ⟨j, e, he, rfl⟩⟩
    · exact g2
    · exact g3 o (List.mem_of_getElem? ho)
    · exact (g4 o (List.mem_of_getElem? ho) e (List.mem_of_getElem? he)).1
theorem misnamed5 (t : Tsk) : m_ref05_misnamed t = some (bof (¬ NamesOk t)) := by
  unfold m_ref05_misnamed
  rw [rng_or (fun o : Opr => 256 < o.name.size ∨ ∃ k, k < o.name.size ∧ ∃ h : k < o.name.size, (o.name[k]'h).toNat < 32 ∨ 126 < (o.name[k]'h).toNat) (fun k o s hk => by
    have e2 : (if s = true then (some true) else (if 256 < (o.name.size : Int) then (some true) else (some false)) : Option Bool) = some (s || bof (256 < o.name.size)) := by
      cases s with
      | true => rfl
      | false =>
        rw [if_f, Bool.false_or]
        by_cases h : 256 < o.name.size
        · rw [if_pos (by omega), bof_t h]
        · rw [if_neg (by omega), bof_f h]
    rw [e2, bnd_some, rngN_or (fun k => ∃ h : k < o.name.size, (o.name[k]'h).toNat < 32 ∨ 126 < (o.name[k]'h).toNat) (fun k s hk => by
      cases s with
      | true => rfl
      | false =>
        rw [if_f, Bool.false_or, bytI_eq hk, bnd_some, bnd_some]
        by_cases h1 : (o.name[k]'hk).toNat < 32
        · rw [if_pos (by omega), bof_t ⟨hk, .inl h1⟩]
        · by_cases h2 : 126 < (o.name[k]'hk).toNat
          · rw [if_neg (by omega), if_pos (by omega), bof_t ⟨hk, .inr h2⟩]
          · rw [if_neg (by omega), if_neg (by omega), bof_f (fun ⟨_, h⟩ => by omega)]), bnd_some, fin_d, Bool.or_assoc, bof_or]), bnd_some, fin_d, Bool.false_or]
  refine congrArg some (bof_eq ?_)
  constructor
  · rintro ⟨o, ho, h⟩ hn
    obtain ⟨i, hi⟩ := List.getElem?_of_mem ho
    obtain ⟨h1, h2⟩ := hn i o hi
    rcases h with h | ⟨k, hk, _, h⟩
    · omega
    · have := h2 k hk; omega
  · intro h
    refine Classical.byContradiction fun hn => h fun i o ho => ?_
    have hm := List.mem_of_getElem? ho
    refine ⟨Nat.le_of_not_lt fun hh => hn ⟨o, hm, .inl hh⟩, fun k hk => ?_⟩
    refine Classical.byContradiction fun hh => hn ⟨o, hm, .inr ⟨k, hk, hk, by omega⟩⟩
theorem bof_neg {p : Prop} : bof (¬ p) = !bof p := by
  by_cases h : p
  · rw [bof_t h, bof_f (fun hh => hh h)]; rfl
  · rw [bof_f h, bof_t h]; rfl
theorem check5 (t : Tsk) : m_ref05_Check t = some (checkN t) := by
  unfold m_ref05_Check checkN
  rw [large5, outside5, malformed5, misnamed5, bof_neg, bof_neg, bof_neg]
  cases bof (Large t) <;> cases bof (VarsOk t ∧ CostsOk t) <;> cases bof (StateOk t.vars t.init ∧ CondsOk t ∧ EffsOk t) <;> cases bof (NamesOk t) <;> rfl
end
section
open Go Go.RowKit
theorem large_some (q : Qst) : m_law51_large q = some true ∨ (m_law51_large q = some false ∧ q.gens.length ≤ 12) := by
  have : ∃ r, m_law51_large q = some r ∧ (r = false → q.gens.length ≤ 12) := by
    unfold m_law51_large
    by_cases h1 : 70 < (q.task.vars.length : Int)
    · rw [if_pos h1, bnd_some, if_t]; exact ⟨_, rfl, fun h => by cases h⟩
    rw [if_neg h1]
    by_cases h2 : 20 < (q.task.ops.length : Int)
    · rw [if_pos h2, bnd_some, if_t]; exact ⟨_, rfl, fun h => by cases h⟩
    rw [if_neg h2]
    by_cases h3 : 12 < (q.gens.length : Int)
    · rw [if_pos h3, bnd_some, if_t]; exact ⟨_, rfl, fun h => by cases h⟩
    rw [if_neg h3]
    by_cases h4 : 100 < (q.state.length : Int)
    · rw [if_pos h4, bnd_some, if_t]; exact ⟨_, rfl, fun h => by cases h⟩
    rw [if_neg h4, bnd_some, if_f]
    refine rng_ex (fun _ _ => True) (fun r => r = true) trivial (fun i x _ _ _ => ?_) (fun _ _ => ⟨_, rfl, fun _ => by omega⟩) (fun r hr => ⟨_, rfl, fun h => by subst hr; cases h⟩)
    rcases long_cases x with hb | hb
    · rw [hb, bnd_some, if_t]; exact .inr ⟨_, rfl, rfl⟩
    · rw [hb, bnd_some, if_f]; exact .inl ⟨(), rfl, trivial⟩
  obtain ⟨r, h1, h2⟩ := this
  cases r with
  | true => exact .inl h1
  | false => exact .inr ⟨h1, h2 rfl⟩
theorem markL_sorted (vars : List Int) (bs : List Bool) : (markL (statesL vars) bs).Pairwise fun a b => leL a b = true := by
  refine ((states_sorted vars).sublist (markL_sub _ _)).imp fun {a b} h => ?_
  unfold leL
  simp
  omega
theorem orbit_same {t : Tsk} {gens : List Swp} {s0 : List Int} {out : List (List Int)} {bs : List Bool} (hn : out.Nodup) (h1 : ∀ s ∈ out, Orb gens s0 s) (h2 : ∀ s, Orb gens s0 s → s ∈ out) (h3 : ∀ (i : Nat) s, (statesL t.vars)[i]? = some s → (bs[i]? = some true ↔ Orb gens s0 s)) (h4 : ∀ s, Orb gens s0 s → ∃ i : Nat, (statesL t.vars)[i]? = some s) : srt_slices_Compare_Lint_int out = markL (statesL t.vars) bs := by
  have hnd : (markL (statesL t.vars) bs).Nodup := by
    rw [List.nodup_iff_pairwise_ne]
    refine ((states_sorted t.vars).sublist (markL_sub _ _)).imp fun {a b} h e => ?_
    subst e
    rw [cfL_self] at h
    omega
  refine srtL_uniq (srtL_sorted out) (markL_sorted _ _) ((srtL_perm out).trans ?_)
  refine (List.perm_ext_iff_of_nodup hn hnd).2 fun s => ?_
  rw [mem_markL]
  constructor
  · intro hs
    obtain ⟨i, hi⟩ := h4 s (h1 s hs)
    exact ⟨i, hi, (h3 i s hi).2 (h1 s hs)⟩
  · rintro ⟨i, hi, hb⟩
    exact h2 s ((h3 i s hi).1 hb)
theorem can_err {t : Tsk} {gens : List Swp} {s : List Int} {n : Int} (hn : n ≠ 0) (h : m_symmetry_demand t gens = some ⟨n⟩) (lim : Int) : m_symmetry_Canonical t gens s = some ([], [], ⟨n⟩) ∧ m_symmetry_Orbit t gens s lim = some ([], ⟨n⟩) := by
  unfold m_symmetry_Canonical m_symmetry_Orbit
  rw [h, bnd_some, if_pos hn, bnd_some, if_pos hn]
  exact ⟨rfl, rfl⟩
theorem can_bad {t : Tsk} {gens : List Swp} {s : List Int} (h : m_symmetry_demand t gens = some ⟨0⟩) (hs : ¬ StateOk t.vars s) (lim : Int) : m_symmetry_Canonical t gens s = some ([], [], ⟨2⟩) ∧ m_symmetry_Orbit t gens s lim = some ([], ⟨2⟩) := by
  unfold m_symmetry_Canonical m_symmetry_Orbit m_task_Proper
  rw [h, bnd_some, if_neg (by simp), bof_f hs, bnd_some, if_f, bnd_some, if_neg (by simp), bnd_some, if_f]
  exact ⟨rfl, rfl⟩
theorem gens_code {t : Tsk} (hok : TaskOk t) (gens : List Swp) : rng (ρ := Bool) (fun (_ : Nat) (a93 : Swp) (s90 : Int) => bnd (if s90 = 0 then (bnd (m_ref51_Check t a93) fun q136 => if q136 = true then some false else some true) else (some false) : Option Bool) fun y131 => if y131 = true then (some (.next 2)) else (some (.next s90))) gens 0 0 = some (.done (if bof (∀ x ∈ gens, SymP t x) = true then 0 else 2)) := by
  obtain ⟨s, h1, h2⟩ := rng_all (ρ := Bool) (f := fun (_ : Nat) (a93 : Swp) (s90 : Int) => bnd (if s90 = 0 then (bnd (m_ref51_Check t a93) fun q136 => if q136 = true then some false else some true) else (some false) : Option Bool) fun y131 => if y131 = true then (some (.next 2)) else (some (.next s90))) (xs := gens) (s₀ := 0) (fun k s => s = if bof (∀ x ∈ gens.take k, SymP t x) = true then 0 else 2) (by rw [bof_t (fun x hx => by simp at hx), if_t]) (fun k x s hk hI => by
    subst hI
    by_cases h : ∀ x ∈ gens.take k, SymP t x
    · rw [bof_t h, if_t, if_pos rfl, refcheck_eq, bnd_some]
      by_cases hx : SymP t x
      · rw [bof_t ⟨hok, hx⟩, if_t, bnd_some, if_f]
        refine ⟨_, rfl, ?_⟩
        rw [bof_t (fun y hy => by rcases (take_succ_mem hk).1 hy with hy | rfl; exact h y hy; exact hx), if_t]
      · rw [bof_f (fun hh => hx hh.2), if_f, bnd_some, if_t]
        refine ⟨_, rfl, ?_⟩
        rw [bof_f (fun hh => hx (hh x ((take_succ_mem hk).2 (.inr rfl)))), if_f]
    · rw [bof_f h, if_f, if_neg (by decide), bnd_some, if_f]
      refine ⟨_, rfl, ?_⟩
      rw [bof_f (fun hh => h fun y hy => hh y ((take_succ_mem hk).2 (.inl hy))), if_f])
  rw [List.take_length] at h2
  rw [h1, h2]
theorem clip_eq (x : Int) : m_base_Clip x 0 65536 = some (max 0 (min x 65536)) := rfl
theorem is10 : m_base_Is ⟨10⟩ 10 = some true := rfl
/-- The code of the document does not fit: both answers are that error. -/
theorem errs51 {t : Tsk} {gens : List Swp} {st : List Int} {lim n : Int} (hn : n ≠ 0) (h1 : m_symmetry_Canonical t gens st = some ([], [], ⟨n⟩)) (h2 : m_symmetry_Orbit t gens st lim = some ([], ⟨n⟩)) (K : (List Int × List Int × Err) → (List (List Int) × Err) → Option Bool) : (bnd (m_symmetry_Canonical t gens st) fun q197 => bnd (m_symmetry_Orbit t gens st lim) fun q215 => if n ≠ 0 then (bnd (bnd (m_base_Num (⟨q197.2.2.n⟩ : Err)) fun q234 => if q234 = n then (bnd (m_base_Num (⟨q215.2.n⟩ : Err)) fun q243 => if q243 = n then (bnd (chkI ((q197.1.length : Int) + (q197.2.1.length : Int))) fun n256 => bnd (chkI (n256 + (q215.1.length : Int))) fun n261 => if n261 = 0 then (some true) else (some false)) else (some false)) else (some false) : Option Bool) fun y230 => some y230) else K q197 q215) = some true := by
  rw [h1, h2, bnd_some, bnd_some, if_pos hn]
  unfold m_base_Num
  rw [bnd_some, if_pos rfl, bnd_some, if_pos rfl]
  rfl
theorem canonical_eq (q : Qst) (lim : Int) : m_law51_SymmetryCanonical q lim = some true := by
  unfold m_law51_SymmetryCanonical
  have ha : (bnd (bnd (m_law51_awake) fun q60 => if q60 = true then some true else some false : Option Bool) fun y56 => some y56) = some true := by rw [awake51]; rfl
  rw [ha]
  rcases large_some q with hb | ⟨hb, hgl⟩
  · rw [hb, bnd_some, if_t, bnd_some, if_t]
  rw [hb, bnd_some, if_f, awake51, bnd_some, if_t, bnd_some, if_f]
  obtain ⟨t, gens, st⟩ := q
  dsimp only at hgl ⊢
  rw [show (⟨t.vars, t.init, t.goal, t.ops⟩ : Tsk) = t from rfl, check5, bnd_some]
  by_cases hok : TaskOk t
  case neg =>
    have hn : checkN t ≠ 0 := fun h => hok (check_ok.1 h)
    obtain ⟨e1, e2⟩ := can_err (s := st) hn (demand_no hok) lim
    rw [rng_from (fun _ => checkN t) rfl (fun k x hx => by rw [if_neg hn, bnd_some, if_f]), bnd_some, fin_d, if_neg hn, bnd_some, if_f, bnd_some, if_neg hn, bnd_some, if_f]
    exact errs51 hn e1 e2 _
  rw [check_ok.2 hok, gens_code hok, bnd_some, fin_d]
  by_cases hg : ∀ x ∈ gens, SymP t x
  case neg =>
    have hd : m_symmetry_demand t gens = some ⟨2⟩ := by rw [demandL hok, bof_f hg, if_f]
    obtain ⟨e1, e2⟩ := can_err (s := st) (by decide) hd lim
    rw [bof_f hg, if_f, if_neg (by decide), bnd_some, if_f, bnd_some, if_neg (by decide), bnd_some, if_f]
    exact errs51 (by decide) e1 e2 _
  have hd : m_symmetry_demand t gens = some ⟨0⟩ := by rw [demandL hok, bof_t hg, if_t]
  rw [bof_t hg, if_t, if_pos rfl]
  unfold m_base_State
  rw [bnd_some]
  by_cases hs : StateOk t.vars st
  case neg =>
    obtain ⟨e1, e2⟩ := can_bad hd hs lim
    rw [bof_f hs, if_f, bnd_some, if_t, bnd_some, if_neg (by decide), bnd_some, if_f]
    exact errs51 (by decide) e1 e2 _
  rw [bof_t hs, if_t, bnd_some, if_f, bnd_some, if_pos rfl]
  unfold m_base_Small
  rw [bnd_some]
  by_cases hsm : SmallOk t
  case neg => rw [bof_f hsm, if_f, bnd_some, if_t]
  obtain ⟨r, ws, c1, c2, _, _, _⟩ := canon_eq hsm hg (by omega) hs
  obtain ⟨out, o1, o2, o3⟩ := orbit_eq hsm hg hs lim
  obtain ⟨bs, b1, b2⟩ := refOrbit_eq hsm hg hs
  have h4 : ∀ s, Orb gens st s → ∃ i : Nat, (statesL t.vars)[i]? = some s := fun s h => List.getElem?_of_mem (mem_statesL.2 (h.ok hok hg hs))
  rw [bof_t hsm, if_t, bnd_some, if_f, c1, bnd_some]
  unfold m_base_Ints
  rcases o3 with ⟨hl, e⟩ | ⟨hl, hall, e⟩
  · have hlen : out.length ≤ (markL (statesL t.vars) bs).length := nodup_len2 o1 fun s hm => by
      obtain ⟨i, hi⟩ := h4 s (o2 s hm)
      exact mem_markL.2 ⟨i, hi, (b2 i s hi).2 (o2 s hm)⟩
    rw [e, bnd_some, if_neg (by decide), c2, bnd_some, if_neg (by simp), bnd_some, bof_t rfl, if_t, bnd_some, bof_t rfl, if_t, bnd_some, if_f, b1, bnd_some, clip_eq, bnd_some, if_pos (by omega), is10, bnd_some, if_t, if_pos (by simp), bnd_some]
  · have hq := orbit_same o1 o2 hall b2 h4
    have hlen : (srt_slices_Compare_Lint_int out).length = out.length := (srtL_perm out).length_eq
    rw [e, bnd_some, if_neg (by decide), c2, bnd_some, if_neg (by simp), bnd_some, bof_t rfl, if_t, bnd_some, bof_t rfl, if_t, bnd_some, if_f, b1, bnd_some, clip_eq, bnd_some, ← hq, if_neg (by omega), if_neg (by simp), if_neg (by simp), bnd_some, if_f]
    dsimp only
    rw [rng_unit (fun k x hk => by rw [hk, bnd_some, bnd_some, bof_t rfl, if_t]), bnd_some, fin_d]
end
section
open Go Go.RowKit Go.ChangeShapes Go.WideShapes Go.Deep
theorem lawSCanonical {w : World} {v0 : Value} {a0 : Qst} (h0 : V w v0 a0) {v1 : Value} {a1 : Int} (h1 : V w v1 a1) : Fn Try.prog 6 [v0, v1] w fun v w' => v = .bool true ∧ Ext w w' := by
  obtain ⟨rfl, r1⟩ := Vb.int h1
  exact (c_law51_SymmetryCanonical (fun _ h => h) h0 r1 (canonical_eq a0 a1)).mono fun _ _ h => ⟨h.2.bool, h.1⟩
set_option maxRecDepth 100000 in
theorem symmetryCanonical_lifted (os : Os) (started : os.Started) (H : Type) (enc : TypeId × Value → H) :
    ReturnsInHanded {} Try.checked os 6 .any (Rows.symmetryCanonicalSpec.pre6 enc Try.prog Try.f6 Rows.symmetryCanonicalRow.domain false) (Rows.symmetryCanonicalSpec.post enc Try.prog Try.f6 false true false false) := by
  refine returnsInHanded_of_change (C := Try.checked) ownTry started (by kernel_rfl) Try.func6 (ChangeSpec.witness6 (enc := enc) (C := Try.checked) false ⟨#[], #[(.agg #[.slice none 0 0, .slice none 0 0, .slice none 0 0, .slice none 0 0, .slice none 0 0, .slice none 0 0]), (.int .i64 0)], []⟩ 8 (by kernel_rfl) (by kernel_rfl) (by kernel_rfl) (by kernel_rfl)) ?_
  intro W base args ds gs before hval hW _ _
  have hopen : ∀ p, DataW.TrodAll enc Try.prog W 0 (fun _ => true) true Try.f6.params.toList args.toList ds p → ∃ v0 v1 d0 d1, args = #[v0, v1] ∧ ds = [d0, d1] ∧ (∃ a : Qst, V W v0 a) ∧ (∃ a : Int, V W v1 a) := by
    intro p hA
    rw [Try.params6] at hA
    replace hval : ∀ (j : Nat) t v, (#[54, 3] : Array TypeId)[j]? = some t → args[j]? = some v → Value.okWide Try.prog W .any base t v := by rw [← Try.params6]; exact hval
    obtain ⟨v0, vs0, d0, ds0, p0, q0, g0, e0, _, h0, r0⟩ := trodAll_cons hA
    obtain ⟨v1, vs1, d1, ds1, p1, q1, g1, e1, _, h1, r1⟩ := trodAll_cons r0
    obtain ⟨g, e, _⟩ := trodAll_nil r1
    rw [g] at g1; rw [e] at e1
    rw [g1] at g0; rw [e1] at e0
    obtain rfl : args = #[v0, v1] := by cases args; simp_all
    exact ⟨v0, v1, d0, d1, rfl, e0, (by first | exact openAgg rfl (hval 0 54 v0 rfl rfl) h0 | exact openOne rfl (hval 0 54 v0 rfl rfl) h0), (by first | exact openAgg rfl (hval 1 3 v1 rfl rfl) h1 | exact openOne rfl (hval 1 3 v1 rfl rfl) h1)⟩
  refine lawPost rfl (by kernel_rfl) (by rw [Try.params6]; exact of_decide_eq_true (by kernel_rfl)) hW ?_ ?_
  · intro p hA
    obtain ⟨v0, v1, d0, d1, _, rfl, _⟩ := hopen p hA
    rfl
  · intro p hA
    obtain ⟨v0, v1, d0, d1, rfl, _, ⟨a0, h0⟩, ⟨a1, h1⟩⟩ := hopen p hA
    exact lawSCanonical h0 h1
theorem symmetryCanonical_holds : Rows.SymmetryCanonicalSaid :=
  OpenClaim.holds_of_wide 6 Try.f6 rfl rfl rfl rfl rfl rfl rfl ⟨rfl, rfl, rfl, rfl, rfl⟩ rfl rfl rfl rfl rfl (by kernel_rfl) Try.func6 (by kernel_rfl)
    (of_decide_eq_true (by kernel_rfl)) (by unfold Func.isWrapper; first | (rw [if_pos (by decide +kernel)]; kernel_rfl) | (rw [if_neg (by decide +kernel)]; exact ⟨rfl, rfl⟩))
    (fun os started H enc _ => symmetryCanonical_lifted os started H enc)
#print axioms symmetryCanonical_holds
end
end Go.Proofs.Ytdhaelekmjgbmaa

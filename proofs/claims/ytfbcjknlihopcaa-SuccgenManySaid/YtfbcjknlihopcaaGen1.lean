/- Own text: models of functions and their proofs (written by gen2.py). -/
import Derived.Test.YtfbcjknlihopcaaW
namespace Go.Proofs.Ytfbcjknlihopcaa
open Go Go.RowKit
attribute [local irreducible] ewp owp hwp hwq hws Ev Evg Fn retPost loud loudS Res1
noncomputable def m_base_States (x0 : List Int) : Option (List (List Int)) :=
  bnd (rng (ρ := (List (List Int))) (fun (k23 : Nat) (a24 : Int) (s21 : (List (List Int))) => bnd (rng (ρ := Ctl (List (List Int)) (List (List Int))) (fun (k50 : Nat) (a51 : List Int) (s48 : (List (List Int))) => bnd (natI a24) fun N91 => bnd (rngN (ρ := Ctl (List (List Int)) (Ctl (List (List Int)) (List (List Int)))) (fun (k78 : Nat) (s76 : (List (List Int))) => bnd (appI 8 ([] : List Int) a51) fun u99 => bnd (appI 8 u99 [(k78 : Int)]) fun u110 => bnd (appI 24 s76 [u110]) fun u124 => some (.next u124)) N91 s48) fun res74 => fin res74 fun (s140 : (List (List Int))) => some (.next s140)) s21 0 ([] : List (List Int))) fun res46 => fin res46 fun (s146 : (List (List Int))) => some (.next s146)) x0 0 [([] : List Int)]) fun res19 => fin res19 fun (s154 : (List (List Int))) => some s154
theorem c_base_States {w : World} {A : Nat → Prop} (hA : ∀ k, A k → k < w.heap.size) {vx0 : Value} {x0 : List Int} (hx0 : Vb w A vx0 x0) {r : (List (List Int))} (hm : m_base_States x0 = some r) :
    Fn Try.prog 15 [vx0] w fun v w' => Ext w w' ∧ Vb w' (upA A w w') v r := by
  obtain ⟨O, hB, hA0⟩ := enter hA
  replace hx0 := hx0.mono hA0
  obtain ⟨A1, c2, rfl⟩ := hx0.form
  refine fn_enter Try.func15 rfl Try.ntmps15 rfl ?_
  unfold m_base_States at hm
  refine ewp_seq ?_
  refine ewp_region ?_
  refine o_as rfl rfl  ?_
  (first | refine owp_nilT ?_ | refine owp_nilB ?_ | refine owp_nilBB ?_ | refine owp_nil ?_)
  refine ewp_seq ?_
  refine ewp_region ?_
  refine l_bslice 2 (by decide) O (xs := (([] : List Int) : List Int)) rfl rfl rfl rfl trivial (by decide) (by decide) rfl fun g3 w4 O5 S6 h7 => ?_
  replace hB := hB.st S6 (fun h => h) (fun h => h)
  replace hx0 := hx0.st S6 (fun h => h)
  obtain ⟨O9, S10, h7⟩ := h7.freeze
  replace hB := hB.st S10 (by decide) (by decide)
  replace hx0 := hx0.st S10 (by decide)
  refine l_bslice 3 (by decide) O9 (xs := ([([] : List Int)] : List (List Int))) rfl rfl rfl rfl ⟨h7, trivial⟩ (by decide) (by decide) rfl fun g11 w12 O13 S14 h15 => ?_
  replace hB := hB.st S14 (fun h => h) (fun h => h)
  replace hx0 := hx0.st S14 (fun h => h)
  refine o_as rfl rfl  ?_
  (first | refine owp_nilT ?_ | refine owp_nilB ?_ | refine owp_nilBB ?_ | refine owp_nil ?_)
  refine ewp_seq ?_
  refine ewp_seq ?_
  refine ewp_region ?_
  refine o_mv rfl rfl  ?_
  refine o_ln rfl rfl  ?_
  have l18 : x0.length ≤ 9223372036854775807 := Nat.le_trans hx0.len.2.1 hx0.len.2.2
  have r17 : inI64 (x0.length : Int) := rngNat l18
  refine o_mv rfl rfl  ?_
  (first | refine owp_nilT ?_ | refine owp_nilB ?_ | refine owp_nilBB ?_ | refine owp_nil ?_)
  obtain ⟨res19, hL20, hm⟩ := bs hm
  refine ewp_join (aft res19 (fun (s21 : (List (List Int))) (x22 : (Option Addr × Nat)) => [(3, (.slice x22.1 s21.length x22.2))]) (fun s21 x22 w' => ∃ O' : Lab, Bs w A w' O' ∧ Vb w' (Fr 0 w' O') (.slice x22.1 s21.length x22.2) s21)) ?_ ?_
  · refine ewp_block ?_
    obtain ⟨O34, S35, h15⟩ := h15.freeze
    replace hB := hB.st S35 (by decide) (by decide)
    replace hx0 := hx0.st S35 (by decide)
    refine ewp_rng (σ := (List (List Int))) (X := (Option Addr × Nat)) (x0.length) hL20 rfl l18 (fun (s21 : (List (List Int))) (x22 : (Option Addr × Nat)) => [(3, (.slice x22.1 s21.length x22.2)), (12, (.slice A1 x0.length c2))]) _ (fun s21 x22 w' => ∃ O' : Lab, Bs w A w' O' ∧ Vb w' (Fr 0 w' O') (.slice x22.1 s21.length x22.2) s21 ∧ Vb w' (Fr 0 w' O') (.slice A1 x0.length c2) x0) _ ((some ⟨g11, 0, none⟩), 1) ⟨O34, hB, h15, hx0⟩ ⟨rfl, rfl, rfl, rfl, trivial⟩ (fun _ _ => ⟨rfl, rfl⟩) (fun _ _ => ⟨rfl, trivial⟩) (fun _ _ _ ⟨O', hB, h33, hx0⟩ => ⟨O', hB, h33⟩) ⟨rfl, rfl, rfl⟩ ⟨rfl, rfl⟩ ?_
    rintro k23 a24 s21 x22 w25 cc27 hx28 ⟨O26, hB, h33, hx0⟩ hf29 hret30 hbrk31
    have rk23 : inI64 (k23 : Int) := rngK hx28 l18
    refine ewp_seq ?_
    refine ewp_region ?_
    obtain ⟨b36, o37, ce38, hA39, hl40, hd41, rfl, r43⟩ := hx0.elem' hx28
    refine o_iaE (hA := hA39) (hj := rfl) (hlt := hl40) rfl rfl rfl  ?_
    refine o_ld (hc := cat0 hd41) rfl rfl  ?_
    refine o_as rfl rfl  ?_
    (first | refine owp_nilT ?_ | refine owp_nilB ?_ | refine owp_nilBB ?_ | refine owp_nil ?_)
    refine ewp_seq ?_
    refine ewp_region ?_
    refine o_as rfl rfl  ?_
    (first | refine owp_nilT ?_ | refine owp_nilB ?_ | refine owp_nilBB ?_ | refine owp_nil ?_)
    refine ewp_seq ?_
    refine ewp_seq ?_
    refine ewp_region ?_
    refine o_mv rfl rfl  ?_
    refine o_ln rfl rfl  ?_
    have l45 : s21.length ≤ 9223372036854775807 := Nat.le_trans h33.len.2.1 h33.len.2.2
    have r44 : inI64 (s21.length : Int) := rngNat l45
    refine o_mv rfl rfl  ?_
    (first | refine owp_nilT ?_ | refine owp_nilB ?_ | refine owp_nilBB ?_ | refine owp_nil ?_)
    obtain ⟨res46, hL47, hf29⟩ := bs hf29
    refine ewp_join (aft res46 (fun (s48 : (List (List Int))) (x49 : (Option Addr × Nat)) => [(6, (.slice x49.1 s48.length x49.2)), (12, (.slice A1 x0.length c2)), (13, (.int .i64 (x0.length : Int))), (14, (.int .i64 (k23 : Int)))]) (fun s48 x49 w' => ∃ O' : Lab, Bs w A w' O' ∧ Rw 5 w' O' 22 (.slice x49.1 s48.length x49.2) s48 ∧ Vb w' (Fr 0 w' O') (.slice A1 x0.length c2) x0)) ?_ ?_
    · refine ewp_block ?_
      refine ewp_rng (σ := (List (List Int))) (X := (Option Addr × Nat)) (s21.length) hL47 rfl l45 (fun (s48 : (List (List Int))) (x49 : (Option Addr × Nat)) => [(5, (.int .i64 a24)), (6, (.slice x49.1 s48.length x49.2)), (12, (.slice A1 x0.length c2)), (13, (.int .i64 (x0.length : Int))), (14, (.int .i64 (k23 : Int))), (18, (.slice x22.1 s21.length x22.2))]) _ (fun s48 x49 w' => ∃ O' : Lab, Bs w A w' O' ∧ Rw 5 w' O' 22 (.slice x49.1 s48.length x49.2) s48 ∧ Vb w' (Fr 0 w' O') (.slice A1 x0.length c2) x0 ∧ Vb w' (Fr 0 w' O') (.slice x22.1 s21.length x22.2) s21) _ (none, 0) ⟨O26, hB, (Rw.nil 5 (by decide)), hx0, h33⟩ ⟨rfl, rfl, rfl, rfl, rfl, rfl, rfl, rfl, trivial⟩ (fun _ _ => ⟨rfl, rfl⟩) (fun _ _ => ⟨rfl, rfl, rfl, rfl, trivial⟩) (fun _ _ _ ⟨O', hB, h61, hx0, h33⟩ => ⟨O', hB, h61, hx0⟩) ⟨rfl, rfl, rfl⟩ ⟨rfl, rfl⟩ ?_
      rintro k50 a51 s48 x49 w52 cc54 hx55 ⟨O53, hB, h61, hx0, h33⟩ hf56 hret57 hbrk58
      have rk50 : inI64 (k50 : Int) := rngK hx55 l45
      refine ewp_seq ?_
      refine ewp_region ?_
      obtain ⟨b63, o64, ce65, hA66, hl67, hd68, v70, rfl, h71⟩ := h33.elem' hx55
      replace h71 := Vb.of_slice h71
      obtain ⟨A72, c73, rfl⟩ := h71.form
      refine o_iaE (hA := hA66) (hj := rfl) (hlt := hl67) rfl rfl rfl  ?_
      refine o_ld (hc := cat0 hd68) rfl rfl  ?_
      refine o_as rfl rfl  ?_
      (first | refine owp_nilT ?_ | refine owp_nilB ?_ | refine owp_nilBB ?_ | refine owp_nil ?_)
      refine ewp_seq ?_
      refine ewp_region ?_
      refine o_mv rfl rfl  ?_
      refine o_mv rfl rfl  ?_
      (first | refine owp_nilT ?_ | refine owp_nilB ?_ | refine owp_nilBB ?_ | refine owp_nil ?_)
      obtain ⟨N91, hN92, hf56⟩ := bs hf56
      replace hN92 := natI_some hN92
      obtain ⟨res74, hL75, hf56⟩ := bs hf56
      refine ewp_join (aft res74 (fun (s76 : (List (List Int))) (x77 : (Option Addr × Nat)) => [(5, (.int .i64 a24)), (6, (.slice x77.1 s76.length x77.2)), (12, (.slice A1 x0.length c2)), (13, (.int .i64 (x0.length : Int))), (14, (.int .i64 (k23 : Int))), (18, (.slice x22.1 s21.length x22.2)), (19, (.int .i64 (s21.length : Int))), (20, (.int .i64 (k50 : Int)))]) (fun s76 x77 w' => ∃ O' : Lab, Bs w A w' O' ∧ Rw 5 w' O' 22 (.slice x77.1 s76.length x77.2) s76 ∧ Vb w' (Fr 0 w' O') (.slice A1 x0.length c2) x0 ∧ Vb w' (Fr 0 w' O') (.slice x22.1 s21.length x22.2) s21)) ?_ ?_
      · refine ewp_block ?_
        refine ewp_rngN (σ := (List (List Int))) (X := (Option Addr × Nat)) N91 hL75 (natI_le hN92 r43) (fun (s76 : (List (List Int))) (x77 : (Option Addr × Nat)) => [(5, (.int .i64 a24)), (6, (.slice x77.1 s76.length x77.2)), (8, (.slice A72 a51.length c73)), (12, (.slice A1 x0.length c2)), (13, (.int .i64 (x0.length : Int))), (14, (.int .i64 (k23 : Int))), (18, (.slice x22.1 s21.length x22.2)), (19, (.int .i64 (s21.length : Int))), (20, (.int .i64 (k50 : Int)))]) _ (fun s76 x77 w' => ∃ O' : Lab, Bs w A w' O' ∧ Rw 5 w' O' 22 (.slice x77.1 s76.length x77.2) s76 ∧ Vb w' (Fr 0 w' O') (.slice A72 a51.length c73) a51 ∧ Vb w' (Fr 0 w' O') (.slice A1 x0.length c2) x0 ∧ Vb w' (Fr 0 w' O') (.slice x22.1 s21.length x22.2) s21) _ (x49.1, x49.2) ⟨O53, hB, h61, h71, hx0, h33⟩ ⟨rfl, (congrArg (fun z => some (Value.int .i64 z)) hN92), rfl, rfl, rfl, rfl, rfl, rfl, rfl, rfl, rfl, trivial⟩ (fun _ _ => ⟨rfl, rfl⟩) (fun _ _ => ⟨rfl, rfl, rfl, rfl, rfl, rfl, rfl, rfl, trivial⟩) (fun _ _ _ ⟨O', hB, h89, h71, hx0, h33⟩ => ⟨O', hB, h89, hx0, h33⟩) ⟨rfl, rfl, rfl⟩ ⟨rfl, rfl⟩ ?_
        rintro k78 s76 x77 w80 cc82 hx83 ⟨O81, hB, h89, h71, hx0, h33⟩ hf84 hret85 hbrk86
        have rk78 : inI64 (k78 : Int) := rngKN hx83 (natI_le hN92 r43)
        refine ewp_seq ?_
        refine ewp_region ?_
        refine o_mv rfl rfl  ?_
        refine o_as rfl rfl  ?_
        (first | refine owp_nilT ?_ | refine owp_nilB ?_ | refine owp_nilBB ?_ | refine owp_nil ?_)
        refine ewp_region ?_
        refine o_mv rfl rfl  ?_
        refine l_bslice 4 (by decide) O81 (xs := (([] : List Int) : List Int)) rfl rfl rfl rfl trivial (by decide) (by decide) rfl fun g93 w94 O95 S96 h97 => ?_
        replace hB := hB.st S96 (fun h => h) (fun h => h)
        replace h71 := h71.st S96 (fun h => h)
        replace hx0 := hx0.st S96 (fun h => h)
        replace h33 := h33.st S96 (fun h => h)
        replace h89 := h89.st S96 (fun h => h) (fun h => h)
        refine o_mv rfl rfl  ?_
        obtain ⟨u99, e100, hf84⟩ := bs hf84
        obtain ⟨e100, e101, e102⟩ := appI_some e100
        refine l_append rfl h97 (h71.rd) rfl rfl (by decide) e101 e102 rfl fun A103 c104 w105 O106 S107 h108 => ?_
        rw [← e100] at h108 ⊢
        replace hB := hB.st S107 (by decide) (by decide)
        replace h71 := h71.st S107 (by decide)
        replace hx0 := hx0.st S107 (by decide)
        replace h33 := h33.st S107 (by decide)
        replace h89 := h89.st S107 (by decide) (by decide)
        refine o_mv rfl rfl  ?_
        obtain ⟨u110, e111, hf84⟩ := bs hf84
        obtain ⟨e111, e112, e113⟩ := appI_some e111
        refine l_append1 rfl (a := (k78 : Int)) h108 (vInt rk78) (fun _ => rfl) rfl (by decide) (by decide) e112 e113 ⟨rfl, rfl⟩ fun g114 A115 c116 w117 O118 S119 h120 => ?_
        rw [← e111] at h120 ⊢
        replace hB := hB.st S119 (by decide) (by decide)
        replace h71 := h71.st S119 (by decide)
        replace hx0 := hx0.st S119 (by decide)
        replace h33 := h33.st S119 (by decide)
        replace h89 := h89.st S119 (by decide) (by decide)
        obtain ⟨O122, S123, h120⟩ := h120.freeze
        replace hB := hB.st S123 (by decide) (by decide)
        replace h71 := h71.st S123 (by decide)
        replace hx0 := hx0.st S123 (by decide)
        replace h33 := h33.st S123 (by decide)
        replace h89 := h89.st S123 (by decide) (by decide)
        obtain ⟨u124, e125, hf84⟩ := bs hf84
        obtain ⟨e125, e126, e127⟩ := appI_some e125
        refine l_append1 rfl (a := u110) h89 h120 (fun _ => rfl) rfl (by decide) (by decide) e126 e127 ⟨rfl, rfl⟩ fun g128 A129 c130 w131 O132 S133 h134 => ?_
        rw [← e125] at h134 ⊢
        replace hB := hB.st S133 (by decide) (by decide)
        replace h71 := h71.st S133 (by decide)
        replace hx0 := hx0.st S133 (by decide)
        replace h33 := h33.st S133 (by decide)
        refine o_as rfl rfl  ?_
        (first | refine owp_nilT ?_ | refine owp_nilB ?_ | refine owp_nilBB ?_ | refine owp_nil ?_)
        obtain rfl := sm hf84
        refine (?_ : Exists _)
        exact ⟨_, (A129, c130), rfl, ⟨rfl, rfl, rfl, rfl, rfl, rfl, rfl, rfl, rfl, rfl, rfl, trivial⟩, _, hB, h134, h71, hx0, h33⟩
      rintro l136 w137 ⟨s140, x141, rfl, hs139, O138, hB, h89, hx0, h33⟩
      replace hf56 := fin_done hf56
      obtain rfl := sm hf56
      refine (?_ : Exists _)
      exact ⟨_, (x141.1, x141.2), rfl, ⟨(subs_lk hs139 _ _ rfl), (subs_lk hs139 _ _ rfl), (subs_lk hs139 _ _ rfl), (subs_lk hs139 _ _ rfl), (subs_lk hs139 _ _ rfl), (subs_lk hs139 _ _ rfl), (subs_lk hs139 _ _ rfl), (subs_lk hs139 _ _ rfl), trivial⟩, _, hB, h89, hx0, h33⟩
    rintro l142 w143 ⟨s146, x147, rfl, hs145, O144, hB, h61, hx0⟩
    replace hf29 := fin_done hf29
    refine ewp_sub _ hs145 ?_
    refine ewp_region ?_
    refine o_mv rfl rfl  ?_
    refine o_as rfl rfl  ?_
    (first | refine owp_nilT ?_ | refine owp_nilB ?_ | refine owp_nilBB ?_ | refine owp_nil ?_)
    obtain ⟨O148, S149, h61⟩ := h61.freeze
    replace hB := hB.st S149 (by decide) (by decide)
    replace hx0 := hx0.st S149 (by decide)
    obtain rfl := sm hf29
    refine (?_ : Exists _)
    exact ⟨_, (x147.1, x147.2), rfl, ⟨rfl, rfl, rfl, rfl, trivial⟩, _, hB, h61, hx0⟩
  rintro l150 w151 ⟨s154, x155, rfl, hs153, O152, hB, h33⟩
  replace hm := fin_done hm
  refine ewp_sub _ hs153 ?_
  refine ewp_seq ?_
  refine ewp_region ?_
  refine o_mv rfl rfl  ?_
  refine o_as rfl rfl  ?_
  (first | refine owp_nilT ?_ | refine owp_nilB ?_ | refine owp_nilBB ?_ | refine owp_nil ?_)
  refine ewp_ret ?_
  obtain rfl := sm hm
  exact ret1v rfl (res_tmp rfl) ⟨hB.ext, (Vb.mono (F := Fr 0 w151 O152) h33 hB.out)⟩
noncomputable def m_base_Apply (x0 : Tsk) (x1 : List Int) (x2 : Int) : Option ((List Int) × Bool) :=
  bnd (if x2 < 0 then (some true) else (if (x0.ops.length : Int) ≤ x2 then (some true) else (bnd (atI x0.ops x2) fun a33 => bnd (m_base_Holds a33.pre x1) fun q54 => if q54 = true then some false else some true)) : Option Bool) fun y25 => if y25 = true then (some (([] : List Int), false)) else (bnd (appI 8 ([] : List Int) x1) fun u72 => bnd (atI x0.ops x2) fun a83 => bnd (rng (ρ := (List Int) × Bool) (fun (k110 : Nat) (a111 : Eff) (s108 : (List Int)) => bnd (m_base_Holds a111.cond x1) fun q143 => if q143 = true then bnd (atI s108 a111.var) fun a150 => some (.next (s108.set (a111.var).toNat a111.val)) else some (.next s108)) a83.effs 0 u72) fun res106 => fin res106 fun (s168 : (List Int)) => some (s168, true))
theorem c_base_Apply {w : World} {A : Nat → Prop} (hA : ∀ k, A k → k < w.heap.size) {vx0 : Value} {x0 : Tsk} (hx0 : Vb w A vx0 x0) {vx1 : Value} {x1 : List Int} (hx1 : Vb w A vx1 x1) {x2 : Int} (rx2 : inI64 x2) {r : (List Int) × Bool} (hm : m_base_Apply x0 x1 x2 = some r) :
    Fn Try.prog 33 [vx0, vx1, (.int .i64 x2)] w fun v w' => Ext w w' ∧ T2 w' (upA A w w') v r := by
  obtain ⟨O, hB, hA0⟩ := enter hA
  replace hx0 := hx0.mono hA0
  obtain ⟨cs1, rfl, v2, v3, v4, v5, rfl, h6, h9, h12, h15⟩ := hx0
  obtain ⟨A7, c8, rfl⟩ := h6.form
  obtain ⟨A10, c11, rfl⟩ := h9.form
  obtain ⟨A13, c14, rfl⟩ := h12.form
  obtain ⟨A16, c17, rfl⟩ := h15.form
  replace hx1 := hx1.mono hA0
  obtain ⟨A18, c19, rfl⟩ := hx1.form
  refine fn_enter Try.func33 rfl Try.ntmps33 rfl ?_
  unfold m_base_Apply at hm
  refine ewp_seq ?_
  refine ewp_region ?_
  refine l_box 2 O rfl rfl fun g20 w21 O22 S23 h24 => ?_
  replace h24 : Lc 2 w21 O22 g20 26 [(.slice A7 x0.vars.length c8), (.slice A10 x0.init.length c11), (.slice A13 x0.goal.length c14), (.slice A16 x0.ops.length c17)] := h24
  replace hB := hB.st S23 (fun h => h) (fun h => h)
  replace hx1 := hx1.st S23 (fun h => h)
  replace h6 := h6.st S23 (fun h => h)
  replace h9 := h9.st S23 (fun h => h)
  replace h12 := h12.st S23 (fun h => h)
  replace h15 := h15.st S23 (fun h => h)
  refine o_as rfl rfl  ?_
  refine o_as rfl rfl  ?_
  (first | refine owp_nilT ?_ | refine owp_nilB ?_ | refine owp_nilBB ?_ | refine owp_nil ?_)
  refine ewp_seq ?_
  refine ewp_seq ?_
  obtain ⟨y25, hy26, hm⟩ := bs hm
  refine ewp_join (fun l' w' => ∃ (x28 : Unit) (O' : Lab), subs l' [(1, (.slice A18 x1.length c19)), (2, (.int .i64 x2)), (3, (.pointer (some ⟨g20, 0, none⟩))), (30, (.bool y25))] ∧ Bs w A w' O' ∧ Vb w' (Fr 0 w' O') (.slice A18 x1.length c19) x1 ∧ Lc 2 w' O' g20 26 [(.slice A7 x0.vars.length c8), (.slice A10 x0.init.length c11), (.slice A13 x0.goal.length c14), (.slice A16 x0.ops.length c17)] ∧ Vb w' (Fr 0 w' O') (.slice A7 x0.vars.length c8) x0.vars ∧ Vb w' (Fr 0 w' O') (.slice A10 x0.init.length c11) x0.init ∧ Vb w' (Fr 0 w' O') (.slice A13 x0.goal.length c14) x0.goal ∧ Vb w' (Fr 0 w' O') (.slice A16 x0.ops.length c17) x0.ops) ?_ ?_
  · skip
    refine ewp_region ?_
    refine o_mv rfl rfl  ?_
    refine o_ltS rfl rfl rfl (fun c29 => ?_) fun c29 => ?_
    · replace hy26 := ip hy26 c29
      refine o_mv rfl rfl  ?_
      refine owp_no rfl rfl rfl rfl ?_
      refine owp_no rfl rfl rfl rfl ?_
      refine owp_no rfl rfl rfl rfl ?_
      refine owp_no rfl rfl rfl rfl ?_
      refine owp_no rfl rfl rfl rfl ?_
      refine o_pt rfl rfl rfl  ?_
      refine o_mv rfl rfl  ?_
      refine owp_no rfl rfl rfl rfl ?_
      refine owp_no rfl rfl rfl rfl ?_
      refine owp_no rfl rfl rfl rfl ?_
      refine owp_no rfl rfl rfl rfl ?_
      refine owp_no rfl rfl rfl rfl ?_
      refine owp_no rfl rfl rfl rfl ?_
      refine owp_no rfl rfl rfl rfl ?_
      refine owp_no rfl rfl rfl rfl ?_
      refine owp_no rfl rfl rfl rfl ?_
      refine o_pt rfl rfl rfl  ?_
      (first | refine owp_nilT ?_ | refine owp_nilB ?_ | refine owp_nilBB ?_ | refine owp_nil ?_)
      obtain rfl := sm hy26
      exact ⟨(), _, ⟨rfl, rfl, rfl, rfl, trivial⟩, hB, hx1, h24, h6, h9, h12, h15⟩
    · replace hy26 := im hy26 c29
      refine o_mv rfl rfl  ?_
      refine owp_yes rfl rfl ?_
      refine o_mv rfl rfl  ?_
      refine owp_yes rfl rfl ?_
      refine o_fa rfl rfl  ?_
      refine owp_yes rfl rfl ?_
      refine o_ld (hc := Blk.cell (i := 3) (h24.1) rfl) rfl rfl  ?_
      refine owp_yes rfl rfl ?_
      refine o_ln rfl rfl  ?_
      have l31 : x0.ops.length ≤ 9223372036854775807 := Nat.le_trans h15.len.2.1 h15.len.2.2
      have r30 : inI64 (x0.ops.length : Int) := rngNat l31
      refine owp_yes rfl rfl ?_
      refine o_geS rfl rfl rfl (fun c32 => ?_) fun c32 => ?_
      · replace hy26 := ip hy26 c32
        refine o_pf rfl rfl rfl  ?_
        refine o_mv rfl rfl  ?_
        refine owp_no rfl rfl rfl rfl ?_
        refine owp_no rfl rfl rfl rfl ?_
        refine owp_no rfl rfl rfl rfl ?_
        refine owp_no rfl rfl rfl rfl ?_
        refine owp_no rfl rfl rfl rfl ?_
        refine owp_no rfl rfl rfl rfl ?_
        refine owp_no rfl rfl rfl rfl ?_
        refine owp_no rfl rfl rfl rfl ?_
        refine owp_no rfl rfl rfl rfl ?_
        refine o_pt rfl rfl rfl  ?_
        (first | refine owp_nilT ?_ | refine owp_nilB ?_ | refine owp_nilBB ?_ | refine owp_nil ?_)
        obtain rfl := sm hy26
        exact ⟨(), _, ⟨rfl, rfl, rfl, rfl, trivial⟩, hB, hx1, h24, h6, h9, h12, h15⟩
      · replace hy26 := im hy26 c32
        refine o_pf rfl rfl rfl  ?_
        refine o_mv rfl rfl  ?_
        refine owp_yes rfl rfl ?_
        refine o_fa rfl rfl  ?_
        refine owp_yes rfl rfl ?_
        refine o_ld (hc := Blk.cell (i := 3) (h24.1) rfl) rfl rfl  ?_
        refine owp_yes rfl rfl ?_
        refine o_mv rfl rfl  ?_
        refine owp_yes rfl rfl ?_
        obtain ⟨a33, e34, hy26⟩ := bs hy26
        obtain ⟨p36, x35⟩ := atI_some' e34
        obtain ⟨b37, o38, ce39, hA40, hl41, hd42, v44, v45, rfl, h46, h49, r52, z53⟩ := h15.elem' x35
        obtain ⟨A47, c48, rfl⟩ := h46.form
        obtain ⟨A50, c51, rfl⟩ := h49.form
        refine o_iaE (hA := hA40) (hj := (Int.toNat_of_nonneg p36).symm) (hlt := hl41) rfl rfl rfl  ?_
        refine owp_yes rfl rfl ?_
        refine o_fa rfl rfl  ?_
        refine owp_yes rfl rfl ?_
        refine o_ld (hc := cat2 hd42) rfl rfl  ?_
        refine owp_yes rfl rfl ?_
        refine o_mv rfl rfl  ?_
        refine owp_yes rfl rfl ?_
        obtain ⟨q54, e55, hy26⟩ := bs hy26
        refine l_callA (O := O22) (A := All w21) (R := fun w' F v => Vb w' F v q54) (c_base_Holds (fun _ h => h) (Vb.mono (F := Fr 0 w21 O22) h46 Fr.lt) (Vb.mono (F := Fr 0 w21 O22) hx1 Fr.lt) e55) rfl rfl fun v60 w56 O57 S58 h59 => ?_
        obtain rfl := h59.bool
        replace hB := hB.st S58 (fun h => h) (fun h => h)
        replace hx1 := hx1.st S58 (fun h => h)
        replace h24 := h24.st S58 (fun h => h)
        replace h6 := h6.st S58 (fun h => h)
        replace h9 := h9.st S58 (fun h => h)
        replace h12 := h12.st S58 (fun h => h)
        replace h15 := h15.st S58 (fun h => h)
        cases q54
        case false =>
          replace hy26 := iF hy26
          refine owp_yes rfl rfl ?_
          refine o_nf rfl rfl  ?_
          refine o_pf rfl rfl rfl  ?_
          (first | refine owp_nilT ?_ | refine owp_nilB ?_ | refine owp_nilBB ?_ | refine owp_nil ?_)
          obtain rfl := sm hy26
          exact ⟨(), _, ⟨rfl, rfl, rfl, rfl, trivial⟩, hB, hx1, h24, h6, h9, h12, h15⟩
        replace hy26 := iT hy26
        refine owp_yes rfl rfl ?_
        refine o_nt rfl rfl  ?_
        refine o_pf rfl rfl rfl  ?_
        (first | refine owp_nilT ?_ | refine owp_nilB ?_ | refine owp_nilBB ?_ | refine owp_nil ?_)
        obtain rfl := sm hy26
        exact ⟨(), _, ⟨rfl, rfl, rfl, rfl, trivial⟩, hB, hx1, h24, h6, h9, h12, h15⟩
  rintro l61 w62 ⟨x28, O63, hs64, hB, hx1, h24, h6, h9, h12, h15⟩
  refine ewp_sub _ hs64 ?_
  refine ewp_cond rfl (fun c65 => ?_) (fun c65 => ?_)
  · replace hm := ip hm c65
    refine ewp_seq ?_
    refine ewp_region ?_
    refine o_as rfl rfl  ?_
    refine o_as rfl rfl  ?_
    (first | refine owp_nilT ?_ | refine owp_nilB ?_ | refine owp_nilBB ?_ | refine owp_nil ?_)
    refine ewp_ret ?_
    obtain rfl := sm hm
    exact ret2 rfl (res_tmp rfl) (res_tmp rfl) ⟨hB.ext, _, _, rfl, (Vb.mono (F := Fr 0 w62 O63) (Vb.nil _ _) hB.out), vBool⟩
  · replace hm := im' hm c65
    refine ewp_skip ?_
    refine ewp_seq ?_
    refine ewp_region ?_
    refine l_bslice 3 (by decide) O63 (xs := (([] : List Int) : List Int)) rfl rfl rfl rfl trivial (by decide) (by decide) rfl fun g66 w67 O68 S69 h70 => ?_
    replace hB := hB.st S69 (fun h => h) (fun h => h)
    replace hx1 := hx1.st S69 (fun h => h)
    replace h24 := h24.st S69 (fun h => h)
    replace h6 := h6.st S69 (fun h => h)
    replace h9 := h9.st S69 (fun h => h)
    replace h12 := h12.st S69 (fun h => h)
    replace h15 := h15.st S69 (fun h => h)
    refine o_mv rfl rfl  ?_
    obtain ⟨u72, e73, hm⟩ := bs hm
    obtain ⟨e73, e74, e75⟩ := appI_some e73
    refine l_append rfl h70 (hx1.rd) rfl rfl (by decide) e74 e75 rfl fun A76 c77 w78 O79 S80 h81 => ?_
    rw [← e73] at h81 ⊢
    replace hB := hB.st S80 (by decide) (by decide)
    replace hx1 := hx1.st S80 (by decide)
    replace h24 := h24.st S80 (by decide)
    replace h6 := h6.st S80 (by decide)
    replace h9 := h9.st S80 (by decide)
    replace h12 := h12.st S80 (by decide)
    replace h15 := h15.st S80 (by decide)
    refine o_as rfl rfl  ?_
    (first | refine owp_nilT ?_ | refine owp_nilB ?_ | refine owp_nilBB ?_ | refine owp_nil ?_)
    refine ewp_seq ?_
    refine ewp_seq ?_
    refine ewp_region ?_
    refine o_fa rfl rfl  ?_
    refine o_ld (hc := Blk.cell (i := 3) (h24.1) rfl) rfl rfl  ?_
    refine o_mv rfl rfl  ?_
    obtain ⟨a83, e84, hm⟩ := bs hm
    obtain ⟨p86, x85⟩ := atI_some' e84
    obtain ⟨b87, o88, ce89, hA90, hl91, hd92, v94, v95, rfl, h96, h99, r102, z103⟩ := h15.elem' x85
    obtain ⟨A97, c98, rfl⟩ := h96.form
    obtain ⟨A100, c101, rfl⟩ := h99.form
    refine o_iaE (hA := hA90) (hj := (Int.toNat_of_nonneg p86).symm) (hlt := hl91) rfl rfl rfl  ?_
    refine o_fa rfl rfl  ?_
    refine o_ld (hc := cat3 hd92) rfl rfl  ?_
    refine o_ln rfl rfl  ?_
    have l105 : a83.effs.length ≤ 9223372036854775807 := Nat.le_trans h99.len.2.1 h99.len.2.2
    have r104 : inI64 (a83.effs.length : Int) := rngNat l105
    refine o_mv rfl rfl  ?_
    (first | refine owp_nilT ?_ | refine owp_nilB ?_ | refine owp_nilBB ?_ | refine owp_nil ?_)
    obtain ⟨res106, hL107, hm⟩ := bs hm
    refine ewp_join (aft res106 (fun (s108 : (List Int)) (x109 : (Option Addr × Nat)) => [(8, (.slice x109.1 s108.length x109.2))]) (fun s108 x109 w' => ∃ O' : Lab, Bs w A w' O' ∧ Rw 3 w' O' 3 (.slice x109.1 s108.length x109.2) s108)) ?_ ?_
    · refine ewp_block ?_
      refine ewp_rng (σ := (List Int)) (X := (Option Addr × Nat)) (a83.effs.length) hL107 rfl l105 (fun (s108 : (List Int)) (x109 : (Option Addr × Nat)) => [(1, (.slice A18 x1.length c19)), (8, (.slice x109.1 s108.length x109.2)), (39, (.slice A100 a83.effs.length c101))]) _ (fun s108 x109 w' => ∃ O' : Lab, Bs w A w' O' ∧ Vb w' (Fr 0 w' O') (.slice A18 x1.length c19) x1 ∧ Rw 3 w' O' 3 (.slice x109.1 s108.length x109.2) s108 ∧ Vb w' (Fr 0 w' O') (.slice A100 a83.effs.length c101) a83.effs) _ (A76, c77) ⟨O79, hB, hx1, h81, h99⟩ ⟨rfl, rfl, rfl, rfl, rfl, trivial⟩ (fun _ _ => ⟨rfl, rfl⟩) (fun _ _ => ⟨rfl, trivial⟩) (fun _ _ _ ⟨O', hB, hx1, h121, h99⟩ => ⟨O', hB, h121⟩) ⟨rfl, rfl, rfl⟩ ⟨rfl, rfl⟩ ?_
      rintro k110 a111 s108 x109 w112 cc114 hx115 ⟨O113, hB, hx1, h121, h99⟩ hf116 hret117 hbrk118
      have rk110 : inI64 (k110 : Int) := rngK hx115 l105
      refine ewp_seq ?_
      refine ewp_region ?_
      obtain ⟨b123, o124, ce125, hA126, hl127, hd128, v130, rfl, h131, r134, r135⟩ := h99.elem' hx115
      obtain ⟨A132, c133, rfl⟩ := h131.form
      refine o_iaE (hA := hA126) (hj := rfl) (hlt := hl127) rfl rfl rfl  ?_
      refine o_la (hl := rfl) (hc := hd128) rfl rfl  ?_
      refine l_alloc 4 O113 rfl fun g136 w137 O138 S139 h140 => ?_
      replace hB := hB.st S139 (fun h => h) (fun h => h)
      replace hx1 := hx1.st S139 (fun h => h)
      replace h121 := h121.st S139 (fun h => h) (fun h => h)
      replace h99 := h99.st S139 (fun h => h)
      replace h131 := h131.st S139 (fun h => h)
      refine l_store h140 rfl rfl rfl (Nat.le_of_ble_eq_true rfl) (by first | exact allOne rfl | simp [Value.cells, Value.oneCell', errV_one]) fun w141 S142 h140 => ?_
      replace h140 : Lc 4 w141 O138 g136 52 [(.slice A132 a111.cond.length c133), (.int .i64 a111.var), (.int .i64 a111.val)] := h140
      replace hB := hB.st S142 (by decide) (by decide)
      replace hx1 := hx1.st S142 (by decide)
      replace h121 := h121.st S142 (by decide) (by decide)
      replace h131 := h131.st S142 (by decide)
      replace h99 := h99.st S142 (by decide)
      (first | refine owp_nilT ?_ | refine owp_nilB ?_ | refine owp_nilBB ?_ | refine owp_nil ?_)
      refine ewp_seq ?_
      refine ewp_region ?_
      refine o_fa rfl rfl  ?_
      refine o_ld (hc := Blk.cell (i := 0) (h140.1) rfl) rfl rfl  ?_
      refine o_mv rfl rfl  ?_
      obtain ⟨q143, e144, hf116⟩ := bs hf116
      refine l_callA (O := O138) (A := All w141) (R := fun w' F v => Vb w' F v q143) (c_base_Holds (fun _ h => h) (Vb.mono (F := Fr 0 w141 O138) h131 Fr.lt) (Vb.mono (F := Fr 0 w141 O138) hx1 Fr.lt) e144) rfl rfl fun v149 w145 O146 S147 h148 => ?_
      obtain rfl := h148.bool
      replace hB := hB.st S147 (fun h => h) (fun h => h)
      replace hx1 := hx1.st S147 (fun h => h)
      replace h121 := h121.st S147 (fun h => h) (fun h => h)
      replace h140 := h140.st S147 (fun h => h)
      replace h131 := h131.st S147 (fun h => h)
      replace h99 := h99.st S147 (fun h => h)
      cases q143
      case false =>
        replace hf116 := iF hf116
        (first | refine owp_nilT ?_ | refine owp_nilB ?_ | refine owp_nilBB ?_ | refine owp_nil ?_)
        refine ewp_false rfl ?_
        refine ewp_skip ?_
        obtain rfl := sm hf116
        refine (?_ : Exists _)
        exact ⟨_, (x109.1, x109.2), rfl, ⟨rfl, rfl, rfl, rfl, rfl, trivial⟩, _, hB, hx1, h121, h99⟩
      replace hf116 := iT hf116
      (first | refine owp_nilT ?_ | refine owp_nilB ?_ | refine owp_nilBB ?_ | refine owp_nil ?_)
      refine ewp_true rfl ?_
      refine ewp_region ?_
      refine o_mv rfl rfl  ?_
      refine o_fa rfl rfl  ?_
      refine o_ld (hc := Blk.cell (i := 1) (h140.1) rfl) rfl rfl  ?_
      refine o_fa rfl rfl  ?_
      refine o_ld (hc := Blk.cell (i := 2) (h140.1) rfl) rfl rfl  ?_
      obtain ⟨a150, e151, hf116⟩ := bs hf116
      obtain ⟨p153, x152⟩ := atI_some' e151
      obtain ⟨b154, o155, ce156, hA157, hl158, hd159, rfl, r161⟩ := h121.elem x152
      refine o_iaE (hA := hA157) (hj := (Int.toNat_of_nonneg p153).symm) (hlt := hl158) rfl rfl rfl  ?_
      refine l_setE rfl h121 (a := a111.val) (vInt r135) hA157 rfl rfl (lt_of_get x152) fun w162 S163 h121 => ?_
      replace hB := hB.st S163 (by decide) (by decide)
      replace hx1 := hx1.st S163 (by decide)
      replace h99 := h99.st S163 (by decide)
      (first | refine owp_nilT ?_ | refine owp_nilB ?_ | refine owp_nilBB ?_ | refine owp_nil ?_)
      obtain rfl := sm hf116
      refine (?_ : Exists _)
      exact ⟨_, (x109.1, x109.2), rfl, ⟨rfl, rfl, rfl, (congrArg (fun n => some (Value.slice _ n _)) ((by simp : (s108.set (a111.var).toNat a111.val).length = s108.length).trans rfl).symm), rfl, trivial⟩, _, hB, hx1, h121.relen, h99⟩
    rintro l164 w165 ⟨s168, x169, rfl, hs167, O166, hB, h121⟩
    replace hm := fin_done hm
    refine ewp_sub _ hs167 ?_
    refine ewp_seq ?_
    refine ewp_region ?_
    refine o_mv rfl rfl  ?_
    refine o_as rfl rfl  ?_
    refine o_as rfl rfl  ?_
    (first | refine owp_nilT ?_ | refine owp_nilB ?_ | refine owp_nilBB ?_ | refine owp_nil ?_)
    refine ewp_ret ?_
    obtain ⟨O170, S171, h121⟩ := h121.freeze
    replace hB := hB.st S171 (by decide) (by decide)
    obtain rfl := sm hm
    exact ret2 rfl (res_tmp rfl) (res_tmp rfl) ⟨hB.ext, _, _, rfl, (Vb.mono (F := Fr 0 w165 O170) h121 hB.out), vBool⟩
noncomputable def m_succgen_Generator_Successors (x0 : Option Gnr) (x1 : List Int) : Option (List Suc) :=
  bnd (m_succgen_Generator_Applicable x0 x1) fun q5 => bnd (rng (ρ := (List Suc)) (fun (k21 : Nat) (a22 : Int) (s19 : (List Suc)) => bnd (m_slices_Clone_Lint_int x1) fun q42 => bnd (x0) fun o52 => bnd (atI o52.t.ops a22) fun a84 => bnd (rng (ρ := Ctl (List Suc) (List Suc)) (fun (k111 : Nat) (a112 : Eff) (s109 : (List Int)) => bnd (m_task_Holds a112.cond x1) fun q144 => if q144 = true then bnd (atI s109 a112.var) fun a151 => some (.next (s109.set (a112.var).toNat a112.val)) else some (.next s109)) a84.effs 0 q42) fun res107 => fin res107 fun (s169 : (List Int)) => bnd (appI 32 s19 [(⟨a22, s169⟩ : Suc)]) fun u173 => some (.next u173)) q5 0 ([] : List Suc)) fun res17 => fin res17 fun (s189 : (List Suc)) => some s189
theorem c_succgen_Generator_Successors {w : World} {A : Nat → Prop} (hA : ∀ k, A k → k < w.heap.size) {vx0 : Value} {x0 : Option Gnr} (hx0 : Vb w A vx0 x0) {vx1 : Value} {x1 : List Int} (hx1 : Vb w A vx1 x1) {r : (List Suc)} (hm : m_succgen_Generator_Successors x0 x1 = some r) :
    Fn Try.prog 20 [vx0, vx1] w fun v w' => Ext w w' ∧ Vb w' (upA A w w') v r := by
  obtain ⟨O, hB, hA0⟩ := enter hA
  replace hx0 := hx0.mono hA0
  obtain ⟨p1, rfl, hq2⟩ := hx0.ptr
  replace hx1 := hx1.mono hA0
  obtain ⟨A3, c4, rfl⟩ := hx1.form
  refine fn_enter Try.func20 rfl Try.ntmps20 rfl ?_
  unfold m_succgen_Generator_Successors at hm
  refine ewp_seq ?_
  refine ewp_region ?_
  refine o_as rfl rfl  ?_
  (first | refine owp_nilT ?_ | refine owp_nilB ?_ | refine owp_nilBB ?_ | refine owp_nil ?_)
  refine ewp_seq ?_
  refine ewp_region ?_
  refine o_as rfl rfl  ?_
  (first | refine owp_nilT ?_ | refine owp_nilB ?_ | refine owp_nilBB ?_ | refine owp_nil ?_)
  refine ewp_seq ?_
  refine ewp_seq ?_
  refine ewp_region ?_
  refine o_mv rfl rfl  ?_
  refine o_mv rfl rfl  ?_
  obtain ⟨q5, e6, hm⟩ := bs hm
  refine l_callRow 2 (by decide) (O := O) (c_succgen_Generator_Applicable Fr.lt hx0 hx1 e6) rfl rfl fun A12 c13 w7 O8 S9 h10 => ?_
  replace hB := hB.st S9 (fun h => h) (fun h => h)
  replace hx0 := hx0.st S9 (fun h => h)
  replace hx1 := hx1.st S9 (fun h => h)
  refine o_ln rfl rfl  ?_
  have l16 : q5.length ≤ 9223372036854775807 := Nat.le_trans h10.len.2.1 h10.len.2.2
  have r15 : inI64 (q5.length : Int) := rngNat l16
  refine o_mv rfl rfl  ?_
  (first | refine owp_nilT ?_ | refine owp_nilB ?_ | refine owp_nilBB ?_ | refine owp_nil ?_)
  obtain ⟨res17, hL18, hm⟩ := bs hm
  refine ewp_join (aft res17 (fun (s19 : (List Suc)) (x20 : (Option Addr × Nat)) => [(5, (.slice x20.1 s19.length x20.2))]) (fun s19 x20 w' => ∃ O' : Lab, Bs w A w' O' ∧ Rw 5 w' O' 56 (.slice x20.1 s19.length x20.2) s19)) ?_ ?_
  · refine ewp_block ?_
    refine ewp_rng (σ := (List Suc)) (X := (Option Addr × Nat)) (q5.length) hL18 rfl l16 (fun (s19 : (List Suc)) (x20 : (Option Addr × Nat)) => [(0, (.pointer p1)), (1, (.slice A3 x1.length c4)), (5, (.slice x20.1 s19.length x20.2)), (13, (.slice A12 q5.length c13))]) _ (fun s19 x20 w' => ∃ O' : Lab, Bs w A w' O' ∧ Vb w' (Fr 0 w' O') (.pointer p1) x0 ∧ Vb w' (Fr 0 w' O') (.slice A3 x1.length c4) x1 ∧ Rw 5 w' O' 56 (.slice x20.1 s19.length x20.2) s19 ∧ Rw 2 w' O' 3 (.slice A12 q5.length c13) q5) _ (none, 0) ⟨O8, hB, hx0, hx1, (Rw.nil 5 (by decide)), h10⟩ ⟨rfl, rfl, rfl, rfl, rfl, rfl, trivial⟩ (fun _ _ => ⟨rfl, rfl⟩) (fun _ _ => ⟨rfl, trivial⟩) (fun _ _ _ ⟨O', hB, hx0, hx1, h32, h10⟩ => ⟨O', hB, h32⟩) ⟨rfl, rfl, rfl⟩ ⟨rfl, rfl⟩ ?_
    rintro k21 a22 s19 x20 w23 cc25 hx26 ⟨O24, hB, hx0, hx1, h32, h10⟩ hf27 hret28 hbrk29
    have rk21 : inI64 (k21 : Int) := rngK hx26 l16
    refine ewp_seq ?_
    refine ewp_region ?_
    obtain ⟨b34, o35, ce36, hA37, hl38, hd39, rfl, r41⟩ := h10.elem hx26
    refine o_iaE (hA := hA37) (hj := rfl) (hlt := hl38) rfl rfl rfl  ?_
    refine o_ld (hc := cat0 hd39) rfl rfl  ?_
    refine o_as rfl rfl  ?_
    (first | refine owp_nilT ?_ | refine owp_nilB ?_ | refine owp_nilBB ?_ | refine owp_nil ?_)
    refine ewp_seq ?_
    refine ewp_region ?_
    refine o_mv rfl rfl  ?_
    obtain ⟨q42, e43, hf27⟩ := bs hf27
    refine l_callRow 3 (by decide) (O := O24) (c_slices_Clone_Lint_int Fr.lt hx1 e43) rfl rfl fun A49 c50 w44 O45 S46 h47 => ?_
    replace hB := hB.st S46 (fun h => h) (fun h => h)
    replace hx0 := hx0.st S46 (fun h => h)
    replace hx1 := hx1.st S46 (fun h => h)
    replace h32 := h32.st S46 (fun h => h) (fun h => h)
    replace h10 := h10.st S46 (fun h => h) (fun h => h)
    refine o_as rfl rfl  ?_
    (first | refine owp_nilT ?_ | refine owp_nilB ?_ | refine owp_nilBB ?_ | refine owp_nil ?_)
    refine ewp_seq ?_
    refine ewp_seq ?_
    refine ewp_region ?_
    refine o_mv rfl rfl  ?_
    obtain ⟨o52, e53, hf27⟩ := bs hf27
    obtain ⟨ad55, hp54⟩ := some_of_isNone (hq2.trans (by rw [e53]; rfl))
    refine o_ncE (hA := hp54) rfl rfl  ?_
    obtain ⟨b80, v63, v67, v71, v75, v79, hA81, hF82, hd83, h64, h68, h72, h76⟩ := Gnr_open hx0 e53
    obtain ⟨A65, c66, rfl⟩ := h64.form
    obtain ⟨A69, c70, rfl⟩ := h68.form
    obtain ⟨A73, c74, rfl⟩ := h72.form
    obtain ⟨A77, c78, rfl⟩ := h76.form
    refine o_faE (hA := hA81) rfl rfl  ?_
    refine o_fa rfl rfl  ?_
    refine o_ld (hc := cat3 hd83) rfl rfl  ?_
    refine o_mv rfl rfl  ?_
    obtain ⟨a84, e85, hf27⟩ := bs hf27
    obtain ⟨p87, x86⟩ := atI_some' e85
    obtain ⟨b88, o89, ce90, hA91, hl92, hd93, v95, v96, rfl, h97, h100, r103, z104⟩ := h76.elem' x86
    obtain ⟨A98, c99, rfl⟩ := h97.form
    obtain ⟨A101, c102, rfl⟩ := h100.form
    refine o_iaE (hA := hA91) (hj := (Int.toNat_of_nonneg p87).symm) (hlt := hl92) rfl rfl rfl  ?_
    refine o_fa rfl rfl  ?_
    refine o_ld (hc := cat3 hd93) rfl rfl  ?_
    refine o_ln rfl rfl  ?_
    have l106 : a84.effs.length ≤ 9223372036854775807 := Nat.le_trans h100.len.2.1 h100.len.2.2
    have r105 : inI64 (a84.effs.length : Int) := rngNat l106
    refine o_mv rfl rfl  ?_
    (first | refine owp_nilT ?_ | refine owp_nilB ?_ | refine owp_nilBB ?_ | refine owp_nil ?_)
    obtain ⟨res107, hL108, hf27⟩ := bs hf27
    refine ewp_join (aft res107 (fun (s109 : (List Int)) (x110 : (Option Addr × Nat)) => [(0, (.pointer p1)), (1, (.slice A3 x1.length c4)), (5, (.slice x20.1 s19.length x20.2)), (7, (.int .i64 a22)), (8, (.slice x110.1 s109.length x110.2)), (13, (.slice A12 q5.length c13)), (14, (.int .i64 (q5.length : Int))), (15, (.int .i64 (k21 : Int)))]) (fun s109 x110 w' => ∃ O' : Lab, Bs w A w' O' ∧ Vb w' (Fr 0 w' O') (.pointer p1) x0 ∧ Vb w' (Fr 0 w' O') (.slice A3 x1.length c4) x1 ∧ Rw 5 w' O' 56 (.slice x20.1 s19.length x20.2) s19 ∧ Rw 3 w' O' 3 (.slice x110.1 s109.length x110.2) s109 ∧ Rw 2 w' O' 3 (.slice A12 q5.length c13) q5)) ?_ ?_
    · refine ewp_block ?_
      refine ewp_rng (σ := (List Int)) (X := (Option Addr × Nat)) (a84.effs.length) hL108 rfl l106 (fun (s109 : (List Int)) (x110 : (Option Addr × Nat)) => [(0, (.pointer p1)), (1, (.slice A3 x1.length c4)), (5, (.slice x20.1 s19.length x20.2)), (7, (.int .i64 a22)), (8, (.slice x110.1 s109.length x110.2)), (13, (.slice A12 q5.length c13)), (14, (.int .i64 (q5.length : Int))), (15, (.int .i64 (k21 : Int))), (29, (.slice A101 a84.effs.length c102))]) _ (fun s109 x110 w' => ∃ O' : Lab, Bs w A w' O' ∧ Vb w' (Fr 0 w' O') (.pointer p1) x0 ∧ Vb w' (Fr 0 w' O') (.slice A3 x1.length c4) x1 ∧ Rw 5 w' O' 56 (.slice x20.1 s19.length x20.2) s19 ∧ Rw 3 w' O' 3 (.slice x110.1 s109.length x110.2) s109 ∧ Rw 2 w' O' 3 (.slice A12 q5.length c13) q5 ∧ Vb w' (Fr 0 w' O') (.slice A101 a84.effs.length c102) a84.effs) _ (A49, c50) ⟨O45, hB, hx0, hx1, h32, h47, h10, h100⟩ ⟨rfl, rfl, rfl, rfl, rfl, rfl, rfl, rfl, rfl, rfl, rfl, trivial⟩ (fun _ _ => ⟨rfl, rfl⟩) (fun _ _ => ⟨rfl, rfl, rfl, rfl, rfl, rfl, rfl, rfl, trivial⟩) (fun _ _ _ ⟨O', hB, hx0, hx1, h32, h122, h10, h100⟩ => ⟨O', hB, hx0, hx1, h32, h122, h10⟩) ⟨rfl, rfl, rfl⟩ ⟨rfl, rfl⟩ ?_
      rintro k111 a112 s109 x110 w113 cc115 hx116 ⟨O114, hB, hx0, hx1, h32, h122, h10, h100⟩ hf117 hret118 hbrk119
      have rk111 : inI64 (k111 : Int) := rngK hx116 l106
      refine ewp_seq ?_
      refine ewp_region ?_
      obtain ⟨b124, o125, ce126, hA127, hl128, hd129, v131, rfl, h132, r135, r136⟩ := h100.elem' hx116
      obtain ⟨A133, c134, rfl⟩ := h132.form
      refine o_iaE (hA := hA127) (hj := rfl) (hlt := hl128) rfl rfl rfl  ?_
      refine o_la (hl := rfl) (hc := hd129) rfl rfl  ?_
      refine l_alloc 4 O114 rfl fun g137 w138 O139 S140 h141 => ?_
      replace hB := hB.st S140 (fun h => h) (fun h => h)
      replace hx0 := hx0.st S140 (fun h => h)
      replace hx1 := hx1.st S140 (fun h => h)
      replace h32 := h32.st S140 (fun h => h) (fun h => h)
      replace h122 := h122.st S140 (fun h => h) (fun h => h)
      replace h10 := h10.st S140 (fun h => h) (fun h => h)
      replace h100 := h100.st S140 (fun h => h)
      replace h132 := h132.st S140 (fun h => h)
      refine l_store h141 rfl rfl rfl (Nat.le_of_ble_eq_true rfl) (by first | exact allOne rfl | simp [Value.cells, Value.oneCell', errV_one]) fun w142 S143 h141 => ?_
      replace h141 : Lc 4 w142 O139 g137 52 [(.slice A133 a112.cond.length c134), (.int .i64 a112.var), (.int .i64 a112.val)] := h141
      replace hB := hB.st S143 (by decide) (by decide)
      replace hx0 := hx0.st S143 (by decide)
      replace hx1 := hx1.st S143 (by decide)
      replace h32 := h32.st S143 (by decide) (by decide)
      replace h122 := h122.st S143 (by decide) (by decide)
      replace h132 := h132.st S143 (by decide)
      replace h10 := h10.st S143 (by decide) (by decide)
      replace h100 := h100.st S143 (by decide)
      (first | refine owp_nilT ?_ | refine owp_nilB ?_ | refine owp_nilBB ?_ | refine owp_nil ?_)
      refine ewp_seq ?_
      refine ewp_region ?_
      refine o_fa rfl rfl  ?_
      refine o_ld (hc := Blk.cell (i := 0) (h141.1) rfl) rfl rfl  ?_
      refine o_mv rfl rfl  ?_
      obtain ⟨q144, e145, hf117⟩ := bs hf117
      refine l_callA (O := O139) (A := All w142) (R := fun w' F v => Vb w' F v q144) (c_task_Holds (fun _ h => h) (Vb.mono (F := Fr 0 w142 O139) h132 Fr.lt) (Vb.mono (F := Fr 0 w142 O139) hx1 Fr.lt) e145) rfl rfl fun v150 w146 O147 S148 h149 => ?_
      obtain rfl := h149.bool
      replace hB := hB.st S148 (fun h => h) (fun h => h)
      replace hx0 := hx0.st S148 (fun h => h)
      replace hx1 := hx1.st S148 (fun h => h)
      replace h32 := h32.st S148 (fun h => h) (fun h => h)
      replace h122 := h122.st S148 (fun h => h) (fun h => h)
      replace h141 := h141.st S148 (fun h => h)
      replace h132 := h132.st S148 (fun h => h)
      replace h10 := h10.st S148 (fun h => h) (fun h => h)
      replace h100 := h100.st S148 (fun h => h)
      cases q144
      case false =>
        replace hf117 := iF hf117
        (first | refine owp_nilT ?_ | refine owp_nilB ?_ | refine owp_nilBB ?_ | refine owp_nil ?_)
        refine ewp_false rfl ?_
        refine ewp_skip ?_
        obtain rfl := sm hf117
        refine (?_ : Exists _)
        exact ⟨_, (x110.1, x110.2), rfl, ⟨rfl, rfl, rfl, rfl, rfl, rfl, rfl, rfl, rfl, rfl, rfl, trivial⟩, _, hB, hx0, hx1, h32, h122, h10, h100⟩
      replace hf117 := iT hf117
      (first | refine owp_nilT ?_ | refine owp_nilB ?_ | refine owp_nilBB ?_ | refine owp_nil ?_)
      refine ewp_true rfl ?_
      refine ewp_region ?_
      refine o_mv rfl rfl  ?_
      refine o_fa rfl rfl  ?_
      refine o_ld (hc := Blk.cell (i := 1) (h141.1) rfl) rfl rfl  ?_
      refine o_fa rfl rfl  ?_
      refine o_ld (hc := Blk.cell (i := 2) (h141.1) rfl) rfl rfl  ?_
      obtain ⟨a151, e152, hf117⟩ := bs hf117
      obtain ⟨p154, x153⟩ := atI_some' e152
      obtain ⟨b155, o156, ce157, hA158, hl159, hd160, rfl, r162⟩ := h122.elem x153
      refine o_iaE (hA := hA158) (hj := (Int.toNat_of_nonneg p154).symm) (hlt := hl159) rfl rfl rfl  ?_
      refine l_setE rfl h122 (a := a112.val) (vInt r136) hA158 rfl rfl (lt_of_get x153) fun w163 S164 h122 => ?_
      replace hB := hB.st S164 (by decide) (by decide)
      replace hx0 := hx0.st S164 (by decide)
      replace hx1 := hx1.st S164 (by decide)
      replace h32 := h32.st S164 (by decide) (by decide)
      replace h10 := h10.st S164 (by decide) (by decide)
      replace h100 := h100.st S164 (by decide)
      (first | refine owp_nilT ?_ | refine owp_nilB ?_ | refine owp_nilBB ?_ | refine owp_nil ?_)
      obtain rfl := sm hf117
      refine (?_ : Exists _)
      exact ⟨_, (x110.1, x110.2), rfl, ⟨rfl, rfl, rfl, rfl, rfl, rfl, (congrArg (fun n => some (Value.slice _ n _)) ((by simp : (s109.set (a112.var).toNat a112.val).length = s109.length).trans rfl).symm), rfl, rfl, rfl, rfl, trivial⟩, _, hB, hx0, hx1, h32, h122.relen, h10, h100⟩
    rintro l165 w166 ⟨s169, x170, rfl, hs168, O167, hB, hx0, hx1, h32, h122, h10⟩
    replace hf27 := fin_done hf27
    refine ewp_sub _ hs168 ?_
    refine ewp_region ?_
    refine o_mv rfl rfl  ?_
    refine o_mv rfl rfl  ?_
    refine o_mv rfl rfl  ?_
    refine o_bd rfl rfl rfl  ?_
    obtain ⟨O171, S172, h122⟩ := h122.freeze
    replace hB := hB.st S172 (by decide) (by decide)
    replace hx0 := hx0.st S172 (by decide)
    replace hx1 := hx1.st S172 (by decide)
    replace h10 := h10.st S172 (by decide) (by decide)
    replace h32 := h32.st S172 (by decide) (by decide)
    obtain ⟨u173, e174, hf27⟩ := bs hf27
    obtain ⟨e174, e175, e176⟩ := appI_some e174
    refine l_append1 rfl (a := (⟨a22, s169⟩ : Suc)) h32 (Vb.ofAgg (cs := [(.int .i64 a22), (.slice x170.1 s169.length x170.2)]) (x := (⟨a22, s169⟩ : Suc)) rfl ⟨_, rfl, h122, r41⟩) (fun _ => rfl) rfl (by decide) (by decide) e175 e176 ⟨rfl, rfl⟩ fun g177 A178 c179 w180 O181 S182 h183 => ?_
    rw [← e174] at h183 ⊢
    replace hB := hB.st S182 (by decide) (by decide)
    replace hx0 := hx0.st S182 (by decide)
    replace hx1 := hx1.st S182 (by decide)
    replace h10 := h10.st S182 (by decide) (by decide)
    refine o_as rfl rfl  ?_
    (first | refine owp_nilT ?_ | refine owp_nilB ?_ | refine owp_nilBB ?_ | refine owp_nil ?_)
    obtain rfl := sm hf27
    refine (?_ : Exists _)
    exact ⟨_, (A178, c179), rfl, ⟨rfl, rfl, rfl, rfl, rfl, rfl, trivial⟩, _, hB, hx0, hx1, h183, h10⟩
  rintro l185 w186 ⟨s189, x190, rfl, hs188, O187, hB, h32⟩
  replace hm := fin_done hm
  refine ewp_sub _ hs188 ?_
  refine ewp_seq ?_
  refine ewp_region ?_
  refine o_mv rfl rfl  ?_
  refine o_as rfl rfl  ?_
  (first | refine owp_nilT ?_ | refine owp_nilB ?_ | refine owp_nilBB ?_ | refine owp_nil ?_)
  refine ewp_ret ?_
  obtain ⟨O191, S192, h32⟩ := h32.freeze
  replace hB := hB.st S192 (by decide) (by decide)
  obtain rfl := sm hm
  exact ret1v rfl (res_tmp rfl) ⟨hB.ext, (Vb.mono (F := Fr 0 w186 O191) h32 hB.out)⟩
noncomputable def m_law24_example  : Option Tsk :=
  some (⟨[2, 3], [0, 0], ([] : List Fct), [(⟨(⟨#[]⟩ : ByteArray), 0, [(⟨0, 1⟩ : Fct)], ([] : List Eff)⟩ : Opr), (⟨(⟨#[]⟩ : ByteArray), 0, ([] : List Fct), [(⟨([] : List Fct), 1, 2⟩ : Eff)]⟩ : Opr), (⟨(⟨#[]⟩ : ByteArray), 0, [(⟨0, 1⟩ : Fct), (⟨1, 2⟩ : Fct)], ([] : List Eff)⟩ : Opr)]⟩ : Tsk)
theorem c_law24_example {w : World} {A : Nat → Prop} (hA : ∀ k, A k → k < w.heap.size)  {r : Tsk} (hm : m_law24_example  = some r) :
    Fn Try.prog 29 [] w fun v w' => Ext w w' ∧ Vb w' (upA A w w') v r := by
  obtain ⟨O, hB, hA0⟩ := enter hA
  refine fn_enter Try.func29 rfl Try.ntmps29 rfl ?_
  unfold m_law24_example at hm
  refine ewp_seq ?_
  refine ewp_region ?_
  refine l_alloc 2 O rfl fun g1 w2 O3 S4 h5 => ?_
  replace hB := hB.st S4 (fun h => h) (fun h => h)
  (first | refine owp_nilT ?_ | refine owp_nilB ?_ | refine owp_nilBB ?_ | refine owp_nil ?_)
  refine ewp_seq ?_
  refine ewp_region ?_
  refine l_bslice 3 (by decide) O3 (xs := ([2, 3] : List Int)) rfl rfl rfl rfl ⟨(vInt (show inI64 (2) from by decide)), (vInt (show inI64 (3) from by decide)), trivial⟩ (by decide) (by decide) rfl fun g6 w7 O8 S9 h10 => ?_
  replace hB := hB.st S9 (fun h => h) (fun h => h)
  replace h5 := h5.st S9 (fun h => h)
  refine l_bslice 4 (by decide) O8 (xs := ([0, 0] : List Int)) rfl rfl rfl rfl ⟨(vInt (show inI64 (0) from by decide)), (vInt (show inI64 (0) from by decide)), trivial⟩ (by decide) (by decide) rfl fun g12 w13 O14 S15 h16 => ?_
  replace hB := hB.st S15 (fun h => h) (fun h => h)
  replace h5 := h5.st S15 (fun h => h)
  replace h10 := h10.st S15 (fun h => h) (fun h => h)
  refine o_bd rfl rfl rfl  ?_
  refine l_bslice 5 (by decide) O14 (xs := ([(⟨0, 1⟩ : Fct)] : List Fct)) rfl rfl rfl rfl ⟨(Vb.ofAgg (cs := [(.int .i64 0), (.int .i64 1)]) (x := (⟨0, 1⟩ : Fct)) rfl ⟨rfl, (show inI64 (0) from by decide), (show inI64 (1) from by decide)⟩), trivial⟩ (by decide) (by decide) rfl fun g18 w19 O20 S21 h22 => ?_
  replace hB := hB.st S21 (fun h => h) (fun h => h)
  replace h5 := h5.st S21 (fun h => h)
  replace h10 := h10.st S21 (fun h => h) (fun h => h)
  replace h16 := h16.st S21 (fun h => h) (fun h => h)
  refine o_bd rfl rfl rfl  ?_
  refine o_bd rfl rfl rfl  ?_
  refine l_bslice 6 (by decide) O20 (xs := ([(⟨([] : List Fct), 1, 2⟩ : Eff)] : List Eff)) rfl rfl rfl rfl ⟨(Vb.ofAgg (cs := [(.slice none 0 0), (.int .i64 1), (.int .i64 2)]) (x := (⟨([] : List Fct), 1, 2⟩ : Eff)) rfl ⟨_, rfl, (Vb.nil _ _), (show inI64 (1) from by decide), (show inI64 (2) from by decide)⟩), trivial⟩ (by decide) (by decide) rfl fun g24 w25 O26 S27 h28 => ?_
  replace hB := hB.st S27 (fun h => h) (fun h => h)
  replace h5 := h5.st S27 (fun h => h)
  replace h10 := h10.st S27 (fun h => h) (fun h => h)
  replace h16 := h16.st S27 (fun h => h) (fun h => h)
  replace h22 := h22.st S27 (fun h => h) (fun h => h)
  refine o_bd rfl rfl rfl  ?_
  refine o_bd rfl rfl rfl  ?_
  refine o_bd rfl rfl rfl  ?_
  refine l_bslice 7 (by decide) O26 (xs := ([(⟨0, 1⟩ : Fct), (⟨1, 2⟩ : Fct)] : List Fct)) rfl rfl rfl rfl ⟨(Vb.ofAgg (cs := [(.int .i64 0), (.int .i64 1)]) (x := (⟨0, 1⟩ : Fct)) rfl ⟨rfl, (show inI64 (0) from by decide), (show inI64 (1) from by decide)⟩), (Vb.ofAgg (cs := [(.int .i64 1), (.int .i64 2)]) (x := (⟨1, 2⟩ : Fct)) rfl ⟨rfl, (show inI64 (1) from by decide), (show inI64 (2) from by decide)⟩), trivial⟩ (by decide) (by decide) rfl fun g30 w31 O32 S33 h34 => ?_
  replace hB := hB.st S33 (fun h => h) (fun h => h)
  replace h5 := h5.st S33 (fun h => h)
  replace h10 := h10.st S33 (fun h => h) (fun h => h)
  replace h16 := h16.st S33 (fun h => h) (fun h => h)
  replace h22 := h22.st S33 (fun h => h) (fun h => h)
  replace h28 := h28.st S33 (fun h => h) (fun h => h)
  refine o_bd rfl rfl rfl  ?_
  obtain ⟨O36, S37, h22⟩ := h22.freeze
  replace hB := hB.st S37 (by decide) (by decide)
  replace h5 := h5.st S37 (by decide)
  replace h10 := h10.st S37 (by decide) (by decide)
  replace h16 := h16.st S37 (by decide) (by decide)
  replace h28 := h28.st S37 (by decide) (by decide)
  replace h34 := h34.st S37 (by decide) (by decide)
  obtain ⟨O38, S39, h28⟩ := h28.freeze
  replace hB := hB.st S39 (by decide) (by decide)
  replace h5 := h5.st S39 (by decide)
  replace h10 := h10.st S39 (by decide) (by decide)
  replace h16 := h16.st S39 (by decide) (by decide)
  replace h22 := h22.st S39 (by decide)
  replace h34 := h34.st S39 (by decide) (by decide)
  obtain ⟨O40, S41, h34⟩ := h34.freeze
  replace hB := hB.st S41 (by decide) (by decide)
  replace h5 := h5.st S41 (by decide)
  replace h10 := h10.st S41 (by decide) (by decide)
  replace h16 := h16.st S41 (by decide) (by decide)
  replace h22 := h22.st S41 (by decide)
  replace h28 := h28.st S41 (by decide)
  refine l_bslice 8 (by decide) O40 (xs := ([(⟨(⟨#[]⟩ : ByteArray), 0, [(⟨0, 1⟩ : Fct)], ([] : List Eff)⟩ : Opr), (⟨(⟨#[]⟩ : ByteArray), 0, ([] : List Fct), [(⟨([] : List Fct), 1, 2⟩ : Eff)]⟩ : Opr), (⟨(⟨#[]⟩ : ByteArray), 0, [(⟨0, 1⟩ : Fct), (⟨1, 2⟩ : Fct)], ([] : List Eff)⟩ : Opr)] : List Opr)) rfl rfl rfl rfl ⟨(Vb.ofAgg (cs := [(.string (⟨#[]⟩ : ByteArray)), (.int .i64 0), (.slice (some ⟨g18, 0, none⟩) [(⟨0, 1⟩ : Fct)].length 1), (.slice none 0 0)]) (x := (⟨(⟨#[]⟩ : ByteArray), 0, [(⟨0, 1⟩ : Fct)], ([] : List Eff)⟩ : Opr)) rfl ⟨_, _, rfl, h22, (Vb.nil _ _), (show inI64 0 from by decide), (show (⟨#[]⟩ : ByteArray).size ≤ 9223372036854775807 from by decide)⟩), (Vb.ofAgg (cs := [(.string (⟨#[]⟩ : ByteArray)), (.int .i64 0), (.slice none 0 0), (.slice (some ⟨g24, 0, none⟩) [(⟨([] : List Fct), 1, 2⟩ : Eff)].length 1)]) (x := (⟨(⟨#[]⟩ : ByteArray), 0, ([] : List Fct), [(⟨([] : List Fct), 1, 2⟩ : Eff)]⟩ : Opr)) rfl ⟨_, _, rfl, (Vb.nil _ _), h28, (show inI64 0 from by decide), (show (⟨#[]⟩ : ByteArray).size ≤ 9223372036854775807 from by decide)⟩), (Vb.ofAgg (cs := [(.string (⟨#[]⟩ : ByteArray)), (.int .i64 0), (.slice (some ⟨g30, 0, none⟩) [(⟨0, 1⟩ : Fct), (⟨1, 2⟩ : Fct)].length 2), (.slice none 0 0)]) (x := (⟨(⟨#[]⟩ : ByteArray), 0, [(⟨0, 1⟩ : Fct), (⟨1, 2⟩ : Fct)], ([] : List Eff)⟩ : Opr)) rfl ⟨_, _, rfl, h34, (Vb.nil _ _), (show inI64 0 from by decide), (show (⟨#[]⟩ : ByteArray).size ≤ 9223372036854775807 from by decide)⟩), trivial⟩ (by decide) (by decide) rfl fun g42 w43 O44 S45 h46 => ?_
  replace hB := hB.st S45 (fun h => h) (fun h => h)
  replace h5 := h5.st S45 (fun h => h)
  replace h10 := h10.st S45 (fun h => h) (fun h => h)
  replace h16 := h16.st S45 (fun h => h) (fun h => h)
  refine o_bd rfl rfl rfl  ?_
  refine l_store h5 rfl rfl rfl (Nat.le_of_ble_eq_true rfl) (by first | exact allOne rfl | simp [Value.cells, Value.oneCell', errV_one]) fun w48 S49 h5 => ?_
  replace h5 : Lc 2 w48 O44 g1 26 [(.slice (some ⟨g6, 0, none⟩) [2, 3].length 2), (.slice (some ⟨g12, 0, none⟩) [0, 0].length 2), (.slice none 0 0), (.slice (some ⟨g42, 0, none⟩) [(⟨(⟨#[]⟩ : ByteArray), 0, [(⟨0, 1⟩ : Fct)], ([] : List Eff)⟩ : Opr), (⟨(⟨#[]⟩ : ByteArray), 0, ([] : List Fct), [(⟨([] : List Fct), 1, 2⟩ : Eff)]⟩ : Opr), (⟨(⟨#[]⟩ : ByteArray), 0, [(⟨0, 1⟩ : Fct), (⟨1, 2⟩ : Fct)], ([] : List Eff)⟩ : Opr)].length 3)] := h5
  replace hB := hB.st S49 (by decide) (by decide)
  replace h10 := h10.st S49 (by decide) (by decide)
  replace h16 := h16.st S49 (by decide) (by decide)
  replace h46 := h46.st S49 (by decide) (by decide)
  (first | refine owp_nilT ?_ | refine owp_nilB ?_ | refine owp_nilBB ?_ | refine owp_nil ?_)
  refine ewp_ret ?_
  obtain ⟨O50, S51, h10⟩ := h10.freeze
  replace hB := hB.st S51 (by decide) (by decide)
  replace h5 := h5.st S51 (by decide)
  replace h16 := h16.st S51 (by decide) (by decide)
  replace h46 := h46.st S51 (by decide) (by decide)
  obtain ⟨O52, S53, h16⟩ := h16.freeze
  replace hB := hB.st S53 (by decide) (by decide)
  replace h5 := h5.st S53 (by decide)
  replace h10 := h10.st S53 (by decide)
  replace h46 := h46.st S53 (by decide) (by decide)
  obtain ⟨O54, S55, h46⟩ := h46.freeze
  replace hB := hB.st S55 (by decide) (by decide)
  replace h5 := h5.st S55 (by decide)
  replace h10 := h10.st S55 (by decide)
  replace h16 := h16.st S55 (by decide)
  obtain rfl := sm hm
  exact ret1v rfl (res_cell (cs := [(.slice (some ⟨g6, 0, none⟩) [2, 3].length 2), (.slice (some ⟨g12, 0, none⟩) [0, 0].length 2), (.slice none 0 0), (.slice (some ⟨g42, 0, none⟩) [(⟨(⟨#[]⟩ : ByteArray), 0, [(⟨0, 1⟩ : Fct)], ([] : List Eff)⟩ : Opr), (⟨(⟨#[]⟩ : ByteArray), 0, ([] : List Fct), [(⟨([] : List Fct), 1, 2⟩ : Eff)]⟩ : Opr), (⟨(⟨#[]⟩ : ByteArray), 0, [(⟨0, 1⟩ : Fct), (⟨1, 2⟩ : Fct)], ([] : List Eff)⟩ : Opr)].length 3)]) rfl rfl h5.1.cellsAt) ⟨hB.ext, (Vb.mono (F := Fr 0 w48 O54) (Vb.ofAgg (cs := [(.slice (some ⟨g6, 0, none⟩) [2, 3].length 2), (.slice (some ⟨g12, 0, none⟩) [0, 0].length 2), (.slice none 0 0), (.slice (some ⟨g42, 0, none⟩) [(⟨(⟨#[]⟩ : ByteArray), 0, [(⟨0, 1⟩ : Fct)], ([] : List Eff)⟩ : Opr), (⟨(⟨#[]⟩ : ByteArray), 0, ([] : List Fct), [(⟨([] : List Fct), 1, 2⟩ : Eff)]⟩ : Opr), (⟨(⟨#[]⟩ : ByteArray), 0, [(⟨0, 1⟩ : Fct), (⟨1, 2⟩ : Fct)], ([] : List Eff)⟩ : Opr)].length 3)]) (x := (⟨[2, 3], [0, 0], ([] : List Fct), [(⟨(⟨#[]⟩ : ByteArray), 0, [(⟨0, 1⟩ : Fct)], ([] : List Eff)⟩ : Opr), (⟨(⟨#[]⟩ : ByteArray), 0, ([] : List Fct), [(⟨([] : List Fct), 1, 2⟩ : Eff)]⟩ : Opr), (⟨(⟨#[]⟩ : ByteArray), 0, [(⟨0, 1⟩ : Fct), (⟨1, 2⟩ : Fct)], ([] : List Eff)⟩ : Opr)]⟩ : Tsk)) rfl ⟨_, _, _, _, rfl, h10, h16, (Vb.nil _ _), h46⟩) hB.out)⟩
end Go.Proofs.Ytfbcjknlihopcaa

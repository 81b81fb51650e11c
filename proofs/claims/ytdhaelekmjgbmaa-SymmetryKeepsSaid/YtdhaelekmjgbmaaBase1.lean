/- Own text: models of functions of the base and their proofs (written by gen2.py). -/
import Derived.Test.YtdhaelekmjgbmaaW0
import Derived.Test.YtdhaelekmjgbmaaStates2
namespace Go.Proofs.Ytdhaelekmjgbmaa
open Go Go.RowKit
attribute [local irreducible] ewp owp hwp hwq hws Ev Evg Fn retPost loud loudS Res1
structure Edg where
  src : Int
  op : Int
  dst : Int
instance : Rp Edg where
  isAgg := true
  size := 3
  R w F cs x := cs = [.int .i64 x.src, .int .i64 x.op, .int .i64 x.dst] ∧ inI64 x.src ∧ inI64 x.op ∧ inI64 x.dst
  len := by rintro w F cs x ⟨rfl, h0, h1, h2⟩; rfl
  one := by rintro w F cs x ⟨rfl, h0, h1, h2⟩ u hu; simp at hu; rcases hu with rfl | rfl | rfl <;> first | rfl | exact Vb.one rfl (by assumption)
  agree := by rintro w w' F cs x ⟨rfl, h0, h1, h2⟩ ha; exact ⟨rfl, h0, h1, h2⟩
  mono := by rintro w F G cs x ⟨rfl, h0, h1, h2⟩ ha; exact ⟨rfl, h0, h1, h2⟩
noncomputable def m_base_States (x0 : List Int) : Option (List (List Int)) :=
  bnd (rng (ρ := (List (List Int))) (fun (k23 : Nat) (a24 : Int) (s21 : (List (List Int))) => bnd (rng (ρ := Ctl (List (List Int)) (List (List Int))) (fun (k52 : Nat) (a53 : List Int) (s50 : (List (List Int))) => bnd (natI a24) fun N91 => bnd (rngN (ρ := Ctl (List (List Int)) (Ctl (List (List Int)) (List (List Int)))) (fun (k82 : Nat) (s80 : (List (List Int))) => bnd (appI 8 ([] : List Int) a53) fun u103 => bnd (appI 8 u103 [(k82 : Int)]) fun u114 => bnd (appI 24 s80 [u114]) fun u128 => some (.next u128)) N91 s50) fun res78 => fin res78 fun (s144 : (List (List Int))) => some (.next s144)) s21 0 ([] : List (List Int))) fun res48 => fin res48 fun (s150 : (List (List Int))) => some (.next s150)) x0 0 [([] : List Int)]) fun res19 => fin res19 fun (s158 : (List (List Int))) => some s158
theorem c_base_States {w : World} {A : Nat → Prop} (hA : ∀ k, A k → k < w.heap.size) {vx0 : Value} {x0 : List Int} (hx0 : Vb w A vx0 x0) {r : (List (List Int))} (hm : m_base_States x0 = some r) :
    Fn Try.prog 26 [vx0] w fun v w' => Ext w w' ∧ Vb w' (upA A w w') v r := by
  obtain ⟨O, hB, hA0⟩ := enter hA
  replace hx0 := hx0.mono hA0
  obtain ⟨A1, c2, rfl⟩ := hx0.form
  refine fn_enter Try.func26 rfl Try.ntmps26 rfl ?_
  unfold m_base_States at hm
  refine ewp_seq ?_
  refine ewp_region ?_
  refine o_as rfl rfl  ?_
  (first | refine owp_nilT ?_ | refine owp_nilB ?_ | refine owp_nilBB ?_ | refine owp_nil ?_)
  refine ewp_seq ?_
  refine ewp_region ?_
  refine l_bslice 2 (by decide) O (xs := (([] : List Int) : List Int)) rfl rfl rfl rfl trivial (by decide) (by decide) rfl fun g3 w4 O5 S6 h7 => ?_
  replace hB := hB.st S6 (fun h => h) (fun h => h)
  replace hx0 := hx0.st S6 (fun h => h)
  obtain ⟨O9, S10, h7⟩ := h7.freeze
  replace hB := hB.st S10 (by decide) (by decide)
  replace hx0 := hx0.st S10 (by decide)
  refine l_bslice 3 (by decide) O9 (xs := ([([] : List Int)] : List (List Int))) rfl rfl rfl rfl ⟨h7, trivial⟩ (by decide) (by decide) rfl fun g11 w12 O13 S14 h15 => ?_
  replace hB := hB.st S14 (fun h => h) (fun h => h)
  replace hx0 := hx0.st S14 (fun h => h)
  refine o_as rfl rfl  ?_
  (first | refine owp_nilT ?_ | refine owp_nilB ?_ | refine owp_nilBB ?_ | refine owp_nil ?_)
  refine ewp_seq ?_
  refine ewp_seq ?_
  refine ewp_region ?_
  refine o_mv rfl rfl  ?_
  refine o_ln rfl rfl  ?_
  have l18 : x0.length ≤ 9223372036854775807 := Nat.le_trans hx0.len.2.1 hx0.len.2.2
  have r17 : inI64 (x0.length : Int) := rngNat l18
  refine o_mv rfl rfl  ?_
  (first | refine owp_nilT ?_ | refine owp_nilB ?_ | refine owp_nilBB ?_ | refine owp_nil ?_)
  obtain ⟨res19, hL20, hm⟩ := bs hm
  refine ewp_join (aft res19 (fun (s21 : (List (List Int))) (x22 : (Option Addr × Nat)) => [(3, (.slice x22.1 s21.length x22.2))]) (fun s21 x22 w' => ∃ O' : Lab, Bs w A w' O' ∧ Vb w' (Fr 0 w' O') (.slice x22.1 s21.length x22.2) s21)) ?_ ?_
  · refine ewp_block ?_
    obtain ⟨O36, S37, h15⟩ := h15.freeze
    replace hB := hB.st S37 (by decide) (by decide)
    replace hx0 := hx0.st S37 (by decide)
    refine ewp_rng (σ := (List (List Int))) (X := (Option Addr × Nat)) (x0.length) hL20 rfl l18 (fun (s21 : (List (List Int))) (x22 : (Option Addr × Nat)) => [(3, (.slice x22.1 s21.length x22.2)), (12, (.slice A1 x0.length c2))]) _ (fun s21 x22 w' => ∃ O' : Lab, Bs w A w' O' ∧ Vb w' (Fr 0 w' O') (.slice x22.1 s21.length x22.2) s21 ∧ Vb w' (Fr 0 w' O') (.slice A1 x0.length c2) x0) _ ((some ⟨g11, 0, none⟩), 1) ⟨O36, hB, h15, hx0⟩ ⟨rfl, rfl, rfl, rfl, trivial⟩ (fun _ _ => ⟨rfl, rfl⟩) (fun _ _ => ⟨rfl, trivial⟩) (fun _ _ _ ⟨O', hB, h35, hx0⟩ => ⟨O', hB, h35⟩) ⟨rfl, rfl, rfl⟩ ⟨rfl, rfl⟩ ?_
    rintro k23 a24 s21 x22 w25 cc27 hx28 ⟨O26, hB, h35, hx0⟩ hf29 hret30 hbrk31
    have rk23 : inI64 (k23 : Int) := rngK hx28 l18
    refine ewp_seq ?_
    refine ewp_region ?_
    obtain ⟨b38, o39, ce40, hA41, hl42, hd43, rfl, r45⟩ := hx0.elem' hx28
    refine o_iaE (hA := hA41) (hj := rfl) (hlt := hl42) rfl rfl rfl  ?_
    refine o_ld (hc := cat0 hd43) rfl rfl  ?_
    refine o_as rfl rfl  ?_
    (first | refine owp_nilT ?_ | refine owp_nilB ?_ | refine owp_nilBB ?_ | refine owp_nil ?_)
    refine ewp_seq ?_
    refine ewp_region ?_
    refine o_as rfl rfl  ?_
    (first | refine owp_nilT ?_ | refine owp_nilB ?_ | refine owp_nilBB ?_ | refine owp_nil ?_)
    refine ewp_seq ?_
    refine ewp_seq ?_
    refine ewp_region ?_
    refine o_mv rfl rfl  ?_
    refine o_ln rfl rfl  ?_
    have l47 : s21.length ≤ 9223372036854775807 := Nat.le_trans h35.len.2.1 h35.len.2.2
    have r46 : inI64 (s21.length : Int) := rngNat l47
    refine o_mv rfl rfl  ?_
    (first | refine owp_nilT ?_ | refine owp_nilB ?_ | refine owp_nilBB ?_ | refine owp_nil ?_)
    obtain ⟨res48, hL49, hf29⟩ := bs hf29
    refine ewp_join (aft res48 (fun (s50 : (List (List Int))) (x51 : (Option Addr × Nat)) => [(6, (.slice x51.1 s50.length x51.2)), (12, (.slice A1 x0.length c2)), (13, (.int .i64 (x0.length : Int))), (14, (.int .i64 (k23 : Int)))]) (fun s50 x51 w' => ∃ O' : Lab, Bs w A w' O' ∧ Rw 5 w' O' 22 (.slice x51.1 s50.length x51.2) s50 ∧ Vb w' (Fr 0 w' O') (.slice A1 x0.length c2) x0)) ?_ ?_
    · refine ewp_block ?_
      refine ewp_rng (σ := (List (List Int))) (X := (Option Addr × Nat)) (s21.length) hL49 rfl l47 (fun (s50 : (List (List Int))) (x51 : (Option Addr × Nat)) => [(5, (.int .i64 a24)), (6, (.slice x51.1 s50.length x51.2)), (12, (.slice A1 x0.length c2)), (13, (.int .i64 (x0.length : Int))), (14, (.int .i64 (k23 : Int))), (18, (.slice x22.1 s21.length x22.2))]) _ (fun s50 x51 w' => ∃ O' : Lab, Bs w A w' O' ∧ Rw 5 w' O' 22 (.slice x51.1 s50.length x51.2) s50 ∧ Vb w' (Fr 0 w' O') (.slice A1 x0.length c2) x0 ∧ Vb w' (Fr 0 w' O') (.slice x22.1 s21.length x22.2) s21) _ (none, 0) ⟨O26, hB, (Rw.nil 5 (by decide)), hx0, h35⟩ ⟨rfl, rfl, rfl, rfl, rfl, rfl, rfl, rfl, trivial⟩ (fun _ _ => ⟨rfl, rfl⟩) (fun _ _ => ⟨rfl, rfl, rfl, rfl, trivial⟩) (fun _ _ _ ⟨O', hB, h65, hx0, h35⟩ => ⟨O', hB, h65, hx0⟩) ⟨rfl, rfl, rfl⟩ ⟨rfl, rfl⟩ ?_
      rintro k52 a53 s50 x51 w54 cc56 hx57 ⟨O55, hB, h65, hx0, h35⟩ hf58 hret59 hbrk60
      have rk52 : inI64 (k52 : Int) := rngK hx57 l47
      refine ewp_seq ?_
      refine ewp_region ?_
      obtain ⟨b67, o68, ce69, hA70, hl71, hd72, v74, rfl, h75⟩ := h35.elem' hx57
      replace h75 := Vb.of_slice h75
      obtain ⟨A76, c77, rfl⟩ := h75.form
      refine o_iaE (hA := hA70) (hj := rfl) (hlt := hl71) rfl rfl rfl  ?_
      refine o_ld (hc := cat0 hd72) rfl rfl  ?_
      refine o_as rfl rfl  ?_
      (first | refine owp_nilT ?_ | refine owp_nilB ?_ | refine owp_nilBB ?_ | refine owp_nil ?_)
      refine ewp_seq ?_
      refine ewp_region ?_
      refine o_mv rfl rfl  ?_
      refine o_mv rfl rfl  ?_
      (first | refine owp_nilT ?_ | refine owp_nilB ?_ | refine owp_nilBB ?_ | refine owp_nil ?_)
      obtain ⟨N91, hN92, hf58⟩ := bs hf58
      replace hN92 := natI_some hN92
      obtain ⟨res78, hL79, hf58⟩ := bs hf58
      refine ewp_join (aft res78 (fun (s80 : (List (List Int))) (x81 : (Option Addr × Nat)) => [(5, (.int .i64 a24)), (6, (.slice x81.1 s80.length x81.2)), (12, (.slice A1 x0.length c2)), (13, (.int .i64 (x0.length : Int))), (14, (.int .i64 (k23 : Int))), (18, (.slice x22.1 s21.length x22.2)), (19, (.int .i64 (s21.length : Int))), (20, (.int .i64 (k52 : Int)))]) (fun s80 x81 w' => ∃ O' : Lab, Bs w A w' O' ∧ Rw 5 w' O' 22 (.slice x81.1 s80.length x81.2) s80 ∧ Vb w' (Fr 0 w' O') (.slice A1 x0.length c2) x0 ∧ Vb w' (Fr 0 w' O') (.slice x22.1 s21.length x22.2) s21)) ?_ ?_
      · refine ewp_block ?_
        refine ewp_rngN (σ := (List (List Int))) (X := (Option Addr × Nat)) N91 hL79 (natI_le hN92 r45) (fun (s80 : (List (List Int))) (x81 : (Option Addr × Nat)) => [(5, (.int .i64 a24)), (6, (.slice x81.1 s80.length x81.2)), (8, (.slice A76 a53.length c77)), (12, (.slice A1 x0.length c2)), (13, (.int .i64 (x0.length : Int))), (14, (.int .i64 (k23 : Int))), (18, (.slice x22.1 s21.length x22.2)), (19, (.int .i64 (s21.length : Int))), (20, (.int .i64 (k52 : Int)))]) _ (fun s80 x81 w' => ∃ O' : Lab, Bs w A w' O' ∧ Rw 5 w' O' 22 (.slice x81.1 s80.length x81.2) s80 ∧ Vb w' (Fr 0 w' O') (.slice A76 a53.length c77) a53 ∧ Vb w' (Fr 0 w' O') (.slice A1 x0.length c2) x0 ∧ Vb w' (Fr 0 w' O') (.slice x22.1 s21.length x22.2) s21) _ (x51.1, x51.2) ⟨O55, hB, h65, h75, hx0, h35⟩ ⟨rfl, (congrArg (fun z => some (Value.int .i64 z)) hN92), rfl, rfl, rfl, rfl, rfl, rfl, rfl, rfl, rfl, trivial⟩ (fun _ _ => ⟨rfl, rfl⟩) (fun _ _ => ⟨rfl, rfl, rfl, rfl, rfl, rfl, rfl, rfl, trivial⟩) (fun _ _ _ ⟨O', hB, h95, h75, hx0, h35⟩ => ⟨O', hB, h95, hx0, h35⟩) ⟨rfl, rfl, rfl⟩ ⟨rfl, rfl⟩ ?_
        rintro k82 s80 x81 w84 cc86 hx87 ⟨O85, hB, h95, h75, hx0, h35⟩ hf88 hret89 hbrk90
        have rk82 : inI64 (k82 : Int) := rngKN hx87 (natI_le hN92 r45)
        refine ewp_seq ?_
        refine ewp_region ?_
        refine o_mv rfl rfl  ?_
        refine o_as rfl rfl  ?_
        (first | refine owp_nilT ?_ | refine owp_nilB ?_ | refine owp_nilBB ?_ | refine owp_nil ?_)
        refine ewp_region ?_
        refine o_mv rfl rfl  ?_
        refine l_bslice 4 (by decide) O85 (xs := (([] : List Int) : List Int)) rfl rfl rfl rfl trivial (by decide) (by decide) rfl fun g97 w98 O99 S100 h101 => ?_
        replace hB := hB.st S100 (fun h => h) (fun h => h)
        replace h75 := h75.st S100 (fun h => h)
        replace hx0 := hx0.st S100 (fun h => h)
        replace h35 := h35.st S100 (fun h => h)
        replace h95 := h95.st S100 (fun h => h) (fun h => h)
        refine o_mv rfl rfl  ?_
        obtain ⟨u103, e104, hf88⟩ := bs hf88
        obtain ⟨e104, e105, e106⟩ := appI_some e104
        refine l_append rfl h101 (h75.rd) rfl rfl (by decide) e105 e106 rfl fun A107 c108 w109 O110 S111 h112 => ?_
        rw [← e104] at h112 ⊢
        replace hB := hB.st S111 (by decide) (by decide)
        replace h75 := h75.st S111 (by decide)
        replace hx0 := hx0.st S111 (by decide)
        replace h35 := h35.st S111 (by decide)
        replace h95 := h95.st S111 (by decide) (by decide)
        refine o_mv rfl rfl  ?_
        obtain ⟨u114, e115, hf88⟩ := bs hf88
        obtain ⟨e115, e116, e117⟩ := appI_some e115
        refine l_append1 rfl (a := (k82 : Int)) h112 (vInt rk82) (fun _ => rfl) rfl (by decide) (by decide) e116 e117 ⟨rfl, rfl⟩ fun g118 A119 c120 w121 O122 S123 h124 => ?_
        rw [← e115] at h124 ⊢
        replace hB := hB.st S123 (by decide) (by decide)
        replace h75 := h75.st S123 (by decide)
        replace hx0 := hx0.st S123 (by decide)
        replace h35 := h35.st S123 (by decide)
        replace h95 := h95.st S123 (by decide) (by decide)
        obtain ⟨O126, S127, h124⟩ := h124.freeze
        replace hB := hB.st S127 (by decide) (by decide)
        replace h75 := h75.st S127 (by decide)
        replace hx0 := hx0.st S127 (by decide)
        replace h35 := h35.st S127 (by decide)
        replace h95 := h95.st S127 (by decide) (by decide)
        obtain ⟨u128, e129, hf88⟩ := bs hf88
        obtain ⟨e129, e130, e131⟩ := appI_some e129
        refine l_append1 rfl (a := u114) h95 h124 (fun _ => rfl) rfl (by decide) (by decide) e130 e131 ⟨rfl, rfl⟩ fun g132 A133 c134 w135 O136 S137 h138 => ?_
        rw [← e129] at h138 ⊢
        replace hB := hB.st S137 (by decide) (by decide)
        replace h75 := h75.st S137 (by decide)
        replace hx0 := hx0.st S137 (by decide)
        replace h35 := h35.st S137 (by decide)
        refine o_as rfl rfl  ?_
        (first | refine owp_nilT ?_ | refine owp_nilB ?_ | refine owp_nilBB ?_ | refine owp_nil ?_)
        obtain rfl := sm hf88
        refine (?_ : Exists _)
        exact ⟨_, (A133, c134), rfl, ⟨rfl, rfl, rfl, rfl, rfl, rfl, rfl, rfl, rfl, rfl, rfl, trivial⟩, _, hB, h138, h75, hx0, h35⟩
      rintro l140 w141 ⟨s144, x145, rfl, hs143, O142, hB, h95, hx0, h35⟩
      replace hf58 := fin_done hf58
      obtain rfl := sm hf58
      refine (?_ : Exists _)
      exact ⟨_, (x145.1, x145.2), rfl, ⟨(subs_lk hs143 _ _ rfl), (subs_lk hs143 _ _ rfl), (subs_lk hs143 _ _ rfl), (subs_lk hs143 _ _ rfl), (subs_lk hs143 _ _ rfl), (subs_lk hs143 _ _ rfl), (subs_lk hs143 _ _ rfl), (subs_lk hs143 _ _ rfl), trivial⟩, _, hB, h95, hx0, h35⟩
    rintro l146 w147 ⟨s150, x151, rfl, hs149, O148, hB, h65, hx0⟩
    replace hf29 := fin_done hf29
    refine ewp_sub _ hs149 ?_
    refine ewp_region ?_
    refine o_mv rfl rfl  ?_
    refine o_as rfl rfl  ?_
    (first | refine owp_nilT ?_ | refine owp_nilB ?_ | refine owp_nilBB ?_ | refine owp_nil ?_)
    obtain ⟨O152, S153, h65⟩ := h65.freeze
    replace hB := hB.st S153 (by decide) (by decide)
    replace hx0 := hx0.st S153 (by decide)
    obtain rfl := sm hf29
    refine (?_ : Exists _)
    exact ⟨_, (x151.1, x151.2), rfl, ⟨rfl, rfl, rfl, rfl, trivial⟩, _, hB, h65, hx0⟩
  rintro l154 w155 ⟨s158, x159, rfl, hs157, O156, hB, h35⟩
  replace hm := fin_done hm
  refine ewp_sub _ hs157 ?_
  refine ewp_seq ?_
  refine ewp_region ?_
  refine o_mv rfl rfl  ?_
  refine o_as rfl rfl  ?_
  (first | refine owp_nilT ?_ | refine owp_nilB ?_ | refine owp_nilBB ?_ | refine owp_nil ?_)
  refine ewp_ret ?_
  obtain rfl := sm hm
  exact ret1v rfl (res_tmp rfl) ⟨hB.ext, (Vb.mono (F := Fr 0 w155 O156) h35 hB.out)⟩
noncomputable def m_base_Apply (x0 : Tsk) (x1 : List Int) (x2 : Int) : Option ((List Int) × Bool) :=
  bnd (if x2 < 0 then (some true) else (if (x0.ops.length : Int) ≤ x2 then (some true) else (bnd (atI x0.ops x2) fun a33 => bnd (m_base_Holds a33.pre x1) fun q54 => if q54 = true then some false else some true)) : Option Bool) fun y25 => if y25 = true then (some (([] : List Int), false)) else (bnd (appI 8 ([] : List Int) x1) fun u72 => bnd (atI x0.ops x2) fun a83 => bnd (rng (ρ := (List Int) × Bool) (fun (k110 : Nat) (a111 : Eff) (s108 : (List Int)) => bnd (m_base_Holds a111.cond x1) fun q145 => if q145 = true then bnd (atI s108 a111.var) fun a152 => some (.next (s108.set (a111.var).toNat a111.val)) else some (.next s108)) a83.effs 0 u72) fun res106 => fin res106 fun (s170 : (List Int)) => some (s170, true))
theorem c_base_Apply {w : World} {A : Nat → Prop} (hA : ∀ k, A k → k < w.heap.size) {vx0 : Value} {x0 : Tsk} (hx0 : Vb w A vx0 x0) {vx1 : Value} {x1 : List Int} (hx1 : Vb w A vx1 x1) {x2 : Int} (rx2 : inI64 x2) {r : (List Int) × Bool} (hm : m_base_Apply x0 x1 x2 = some r) :
    Fn Try.prog 35 [vx0, vx1, (.int .i64 x2)] w fun v w' => Ext w w' ∧ T2 w' (upA A w w') v r := by
  obtain ⟨O, hB, hA0⟩ := enter hA
  replace hx0 := hx0.mono hA0
  obtain ⟨cs1, rfl, v2, v3, v4, v5, rfl, h6, h9, h12, h15⟩ := hx0
  obtain ⟨A7, c8, rfl⟩ := h6.form
  obtain ⟨A10, c11, rfl⟩ := h9.form
  obtain ⟨A13, c14, rfl⟩ := h12.form
  obtain ⟨A16, c17, rfl⟩ := h15.form
  replace hx1 := hx1.mono hA0
  obtain ⟨A18, c19, rfl⟩ := hx1.form
  refine fn_enter Try.func35 rfl Try.ntmps35 rfl ?_
  unfold m_base_Apply at hm
  refine ewp_seq ?_
  refine ewp_region ?_
  refine l_box 2 O rfl rfl fun g20 w21 O22 S23 h24 => ?_
  replace h24 : Lc 2 w21 O22 g20 26 [(.slice A7 x0.vars.length c8), (.slice A10 x0.init.length c11), (.slice A13 x0.goal.length c14), (.slice A16 x0.ops.length c17)] := h24
  replace hB := hB.st S23 (fun h => h) (fun h => h)
  replace hx1 := hx1.st S23 (fun h => h)
  replace h6 := h6.st S23 (fun h => h)
  replace h9 := h9.st S23 (fun h => h)
  replace h12 := h12.st S23 (fun h => h)
  replace h15 := h15.st S23 (fun h => h)
  refine o_as rfl rfl  ?_
  refine o_as rfl rfl  ?_
  (first | refine owp_nilT ?_ | refine owp_nilB ?_ | refine owp_nilBB ?_ | refine owp_nil ?_)
  refine ewp_seq ?_
  refine ewp_seq ?_
  obtain ⟨y25, hy26, hm⟩ := bs hm
  refine ewp_join (fun l' w' => ∃ (x28 : Unit) (O' : Lab), subs l' [(1, (.slice A18 x1.length c19)), (2, (.int .i64 x2)), (3, (.pointer (some ⟨g20, 0, none⟩))), (30, (.bool y25))] ∧ Bs w A w' O' ∧ Vb w' (Fr 0 w' O') (.slice A18 x1.length c19) x1 ∧ Lc 2 w' O' g20 26 [(.slice A7 x0.vars.length c8), (.slice A10 x0.init.length c11), (.slice A13 x0.goal.length c14), (.slice A16 x0.ops.length c17)] ∧ Vb w' (Fr 0 w' O') (.slice A7 x0.vars.length c8) x0.vars ∧ Vb w' (Fr 0 w' O') (.slice A10 x0.init.length c11) x0.init ∧ Vb w' (Fr 0 w' O') (.slice A13 x0.goal.length c14) x0.goal ∧ Vb w' (Fr 0 w' O') (.slice A16 x0.ops.length c17) x0.ops) ?_ ?_
  · skip
    refine ewp_region ?_
    refine o_mv rfl rfl  ?_
    refine o_ltS rfl rfl rfl (fun c29 => ?_) fun c29 => ?_
    · replace hy26 := ip hy26 c29
      refine o_mv rfl rfl  ?_
      refine owp_no rfl rfl rfl rfl ?_
      refine owp_no rfl rfl rfl rfl ?_
      refine owp_no rfl rfl rfl rfl ?_
      refine owp_no rfl rfl rfl rfl ?_
      refine owp_no rfl rfl rfl rfl ?_
      refine o_pt rfl rfl rfl  ?_
      refine o_mv rfl rfl  ?_
      refine owp_no rfl rfl rfl rfl ?_
      refine owp_no rfl rfl rfl rfl ?_
      refine owp_no rfl rfl rfl rfl ?_
      refine owp_no rfl rfl rfl rfl ?_
      refine owp_no rfl rfl rfl rfl ?_
      refine owp_no rfl rfl rfl rfl ?_
      refine owp_no rfl rfl rfl rfl ?_
      refine owp_no rfl rfl rfl rfl ?_
      refine owp_no rfl rfl rfl rfl ?_
      refine o_pt rfl rfl rfl  ?_
      (first | refine owp_nilT ?_ | refine owp_nilB ?_ | refine owp_nilBB ?_ | refine owp_nil ?_)
      obtain rfl := sm hy26
      exact ⟨(), _, ⟨rfl, rfl, rfl, rfl, trivial⟩, hB, hx1, h24, h6, h9, h12, h15⟩
    · replace hy26 := im hy26 c29
      refine o_mv rfl rfl  ?_
      refine owp_yes rfl rfl ?_
      refine o_mv rfl rfl  ?_
      refine owp_yes rfl rfl ?_
      refine o_fa rfl rfl  ?_
      refine owp_yes rfl rfl ?_
      refine o_ld (hc := Blk.cell (i := 3) (h24.1) rfl) rfl rfl  ?_
      refine owp_yes rfl rfl ?_
      refine o_ln rfl rfl  ?_
      have l31 : x0.ops.length ≤ 9223372036854775807 := Nat.le_trans h15.len.2.1 h15.len.2.2
      have r30 : inI64 (x0.ops.length : Int) := rngNat l31
      refine owp_yes rfl rfl ?_
      refine o_geS rfl rfl rfl (fun c32 => ?_) fun c32 => ?_
      · replace hy26 := ip hy26 c32
        refine o_pf rfl rfl rfl  ?_
        refine o_mv rfl rfl  ?_
        refine owp_no rfl rfl rfl rfl ?_
        refine owp_no rfl rfl rfl rfl ?_
        refine owp_no rfl rfl rfl rfl ?_
        refine owp_no rfl rfl rfl rfl ?_
        refine owp_no rfl rfl rfl rfl ?_
        refine owp_no rfl rfl rfl rfl ?_
        refine owp_no rfl rfl rfl rfl ?_
        refine owp_no rfl rfl rfl rfl ?_
        refine owp_no rfl rfl rfl rfl ?_
        refine o_pt rfl rfl rfl  ?_
        (first | refine owp_nilT ?_ | refine owp_nilB ?_ | refine owp_nilBB ?_ | refine owp_nil ?_)
        obtain rfl := sm hy26
        exact ⟨(), _, ⟨rfl, rfl, rfl, rfl, trivial⟩, hB, hx1, h24, h6, h9, h12, h15⟩
      · replace hy26 := im hy26 c32
        refine o_pf rfl rfl rfl  ?_
        refine o_mv rfl rfl  ?_
        refine owp_yes rfl rfl ?_
        refine o_fa rfl rfl  ?_
        refine owp_yes rfl rfl ?_
        refine o_ld (hc := Blk.cell (i := 3) (h24.1) rfl) rfl rfl  ?_
        refine owp_yes rfl rfl ?_
        refine o_mv rfl rfl  ?_
        refine owp_yes rfl rfl ?_
        obtain ⟨a33, e34, hy26⟩ := bs hy26
        obtain ⟨p36, x35⟩ := atI_some' e34
        obtain ⟨b37, o38, ce39, hA40, hl41, hd42, v44, v45, rfl, h46, h49, r52, z53⟩ := h15.elem' x35
        obtain ⟨A47, c48, rfl⟩ := h46.form
        obtain ⟨A50, c51, rfl⟩ := h49.form
        refine o_iaE (hA := hA40) (hj := (Int.toNat_of_nonneg p36).symm) (hlt := hl41) rfl rfl rfl  ?_
        refine owp_yes rfl rfl ?_
        refine o_fa rfl rfl  ?_
        refine owp_yes rfl rfl ?_
        refine o_ld (hc := cat2 hd42) rfl rfl  ?_
        refine owp_yes rfl rfl ?_
        refine o_mv rfl rfl  ?_
        refine owp_yes rfl rfl ?_
        obtain ⟨q54, e55, hy26⟩ := bs hy26
        refine l_callA (O := O22) (A := All w21) (R := fun w' F v => Vb w' F v q54) (c_base_Holds (fun _ h => h) (Vb.mono (F := Fr 0 w21 O22) h46 Fr.lt) (Vb.mono (F := Fr 0 w21 O22) hx1 Fr.lt) e55) rfl rfl fun v60 w56 O57 S58 h59 => ?_
        obtain rfl := h59.bool
        replace hB := hB.st S58 (fun h => h) (fun h => h)
        replace hx1 := hx1.st S58 (fun h => h)
        replace h24 := h24.st S58 (fun h => h)
        replace h6 := h6.st S58 (fun h => h)
        replace h9 := h9.st S58 (fun h => h)
        replace h12 := h12.st S58 (fun h => h)
        replace h15 := h15.st S58 (fun h => h)
        cases q54
        case false =>
          replace hy26 := iF hy26
          refine owp_yes rfl rfl ?_
          refine o_nf rfl rfl  ?_
          refine o_pf rfl rfl rfl  ?_
          (first | refine owp_nilT ?_ | refine owp_nilB ?_ | refine owp_nilBB ?_ | refine owp_nil ?_)
          obtain rfl := sm hy26
          exact ⟨(), _, ⟨rfl, rfl, rfl, rfl, trivial⟩, hB, hx1, h24, h6, h9, h12, h15⟩
        replace hy26 := iT hy26
        refine owp_yes rfl rfl ?_
        refine o_nt rfl rfl  ?_
        refine o_pf rfl rfl rfl  ?_
        (first | refine owp_nilT ?_ | refine owp_nilB ?_ | refine owp_nilBB ?_ | refine owp_nil ?_)
        obtain rfl := sm hy26
        exact ⟨(), _, ⟨rfl, rfl, rfl, rfl, trivial⟩, hB, hx1, h24, h6, h9, h12, h15⟩
  rintro l61 w62 ⟨x28, O63, hs64, hB, hx1, h24, h6, h9, h12, h15⟩
  refine ewp_sub _ hs64 ?_
  refine ewp_cond rfl (fun c65 => ?_) (fun c65 => ?_)
  · replace hm := ip hm c65
    refine ewp_seq ?_
    refine ewp_region ?_
    refine o_as rfl rfl  ?_
    refine o_as rfl rfl  ?_
    (first | refine owp_nilT ?_ | refine owp_nilB ?_ | refine owp_nilBB ?_ | refine owp_nil ?_)
    refine ewp_ret ?_
    obtain rfl := sm hm
    exact ret2 rfl (res_tmp rfl) (res_tmp rfl) ⟨hB.ext, _, _, rfl, (Vb.mono (F := Fr 0 w62 O63) (Vb.nil _ _) hB.out), vBool⟩
  · replace hm := im' hm c65
    refine ewp_skip ?_
    refine ewp_seq ?_
    refine ewp_region ?_
    refine l_bslice 3 (by decide) O63 (xs := (([] : List Int) : List Int)) rfl rfl rfl rfl trivial (by decide) (by decide) rfl fun g66 w67 O68 S69 h70 => ?_
    replace hB := hB.st S69 (fun h => h) (fun h => h)
    replace hx1 := hx1.st S69 (fun h => h)
    replace h24 := h24.st S69 (fun h => h)
    replace h6 := h6.st S69 (fun h => h)
    replace h9 := h9.st S69 (fun h => h)
    replace h12 := h12.st S69 (fun h => h)
    replace h15 := h15.st S69 (fun h => h)
    refine o_mv rfl rfl  ?_
    obtain ⟨u72, e73, hm⟩ := bs hm
    obtain ⟨e73, e74, e75⟩ := appI_some e73
    refine l_append rfl h70 (hx1.rd) rfl rfl (by decide) e74 e75 rfl fun A76 c77 w78 O79 S80 h81 => ?_
    rw [← e73] at h81 ⊢
    replace hB := hB.st S80 (by decide) (by decide)
    replace hx1 := hx1.st S80 (by decide)
    replace h24 := h24.st S80 (by decide)
    replace h6 := h6.st S80 (by decide)
    replace h9 := h9.st S80 (by decide)
    replace h12 := h12.st S80 (by decide)
    replace h15 := h15.st S80 (by decide)
    refine o_as rfl rfl  ?_
    (first | refine owp_nilT ?_ | refine owp_nilB ?_ | refine owp_nilBB ?_ | refine owp_nil ?_)
    refine ewp_seq ?_
    refine ewp_seq ?_
    refine ewp_region ?_
    refine o_fa rfl rfl  ?_
    refine o_ld (hc := Blk.cell (i := 3) (h24.1) rfl) rfl rfl  ?_
    refine o_mv rfl rfl  ?_
    obtain ⟨a83, e84, hm⟩ := bs hm
    obtain ⟨p86, x85⟩ := atI_some' e84
    obtain ⟨b87, o88, ce89, hA90, hl91, hd92, v94, v95, rfl, h96, h99, r102, z103⟩ := h15.elem' x85
    obtain ⟨A97, c98, rfl⟩ := h96.form
    obtain ⟨A100, c101, rfl⟩ := h99.form
    refine o_iaE (hA := hA90) (hj := (Int.toNat_of_nonneg p86).symm) (hlt := hl91) rfl rfl rfl  ?_
    refine o_fa rfl rfl  ?_
    refine o_ld (hc := cat3 hd92) rfl rfl  ?_
    refine o_ln rfl rfl  ?_
    have l105 : a83.effs.length ≤ 9223372036854775807 := Nat.le_trans h99.len.2.1 h99.len.2.2
    have r104 : inI64 (a83.effs.length : Int) := rngNat l105
    refine o_mv rfl rfl  ?_
    (first | refine owp_nilT ?_ | refine owp_nilB ?_ | refine owp_nilBB ?_ | refine owp_nil ?_)
    obtain ⟨res106, hL107, hm⟩ := bs hm
    refine ewp_join (aft res106 (fun (s108 : (List Int)) (x109 : (Option Addr × Nat)) => [(8, (.slice x109.1 s108.length x109.2))]) (fun s108 x109 w' => ∃ O' : Lab, Bs w A w' O' ∧ Rw 3 w' O' 3 (.slice x109.1 s108.length x109.2) s108)) ?_ ?_
    · refine ewp_block ?_
      refine ewp_rng (σ := (List Int)) (X := (Option Addr × Nat)) (a83.effs.length) hL107 rfl l105 (fun (s108 : (List Int)) (x109 : (Option Addr × Nat)) => [(1, (.slice A18 x1.length c19)), (8, (.slice x109.1 s108.length x109.2)), (39, (.slice A100 a83.effs.length c101))]) _ (fun s108 x109 w' => ∃ O' : Lab, Bs w A w' O' ∧ Vb w' (Fr 0 w' O') (.slice A18 x1.length c19) x1 ∧ Rw 3 w' O' 3 (.slice x109.1 s108.length x109.2) s108 ∧ Vb w' (Fr 0 w' O') (.slice A100 a83.effs.length c101) a83.effs) _ (A76, c77) ⟨O79, hB, hx1, h81, h99⟩ ⟨rfl, rfl, rfl, rfl, rfl, trivial⟩ (fun _ _ => ⟨rfl, rfl⟩) (fun _ _ => ⟨rfl, trivial⟩) (fun _ _ _ ⟨O', hB, hx1, h123, h99⟩ => ⟨O', hB, h123⟩) ⟨rfl, rfl, rfl⟩ ⟨rfl, rfl⟩ ?_
      rintro k110 a111 s108 x109 w112 cc114 hx115 ⟨O113, hB, hx1, h123, h99⟩ hf116 hret117 hbrk118
      have rk110 : inI64 (k110 : Int) := rngK hx115 l105
      refine ewp_seq ?_
      refine ewp_region ?_
      obtain ⟨b125, o126, ce127, hA128, hl129, hd130, v132, rfl, h133, r136, r137⟩ := h99.elem' hx115
      obtain ⟨A134, c135, rfl⟩ := h133.form
      refine o_iaE (hA := hA128) (hj := rfl) (hlt := hl129) rfl rfl rfl  ?_
      refine o_la (hl := rfl) (hc := hd130) rfl rfl  ?_
      refine l_alloc 4 O113 rfl fun g138 w139 O140 S141 h142 => ?_
      replace hB := hB.st S141 (fun h => h) (fun h => h)
      replace hx1 := hx1.st S141 (fun h => h)
      replace h123 := h123.st S141 (fun h => h) (fun h => h)
      replace h99 := h99.st S141 (fun h => h)
      replace h133 := h133.st S141 (fun h => h)
      refine l_store h142 rfl rfl rfl (Nat.le_of_ble_eq_true rfl) (by first | exact allOne rfl | simp [Value.cells, Value.oneCell', errV_one]) fun w143 S144 h142 => ?_
      replace h142 : Lc 4 w143 O140 g138 74 [(.slice A134 a111.cond.length c135), (.int .i64 a111.var), (.int .i64 a111.val)] := h142
      replace hB := hB.st S144 (by decide) (by decide)
      replace hx1 := hx1.st S144 (by decide)
      replace h123 := h123.st S144 (by decide) (by decide)
      replace h133 := h133.st S144 (by decide)
      replace h99 := h99.st S144 (by decide)
      (first | refine owp_nilT ?_ | refine owp_nilB ?_ | refine owp_nilBB ?_ | refine owp_nil ?_)
      refine ewp_seq ?_
      refine ewp_region ?_
      refine o_fa rfl rfl  ?_
      refine o_ld (hc := Blk.cell (i := 0) (h142.1) rfl) rfl rfl  ?_
      refine o_mv rfl rfl  ?_
      obtain ⟨q145, e146, hf116⟩ := bs hf116
      refine l_callA (O := O140) (A := All w143) (R := fun w' F v => Vb w' F v q145) (c_base_Holds (fun _ h => h) (Vb.mono (F := Fr 0 w143 O140) h133 Fr.lt) (Vb.mono (F := Fr 0 w143 O140) hx1 Fr.lt) e146) rfl rfl fun v151 w147 O148 S149 h150 => ?_
      obtain rfl := h150.bool
      replace hB := hB.st S149 (fun h => h) (fun h => h)
      replace hx1 := hx1.st S149 (fun h => h)
      replace h123 := h123.st S149 (fun h => h) (fun h => h)
      replace h142 := h142.st S149 (fun h => h)
      replace h133 := h133.st S149 (fun h => h)
      replace h99 := h99.st S149 (fun h => h)
      cases q145
      case false =>
        replace hf116 := iF hf116
        (first | refine owp_nilT ?_ | refine owp_nilB ?_ | refine owp_nilBB ?_ | refine owp_nil ?_)
        refine ewp_false rfl ?_
        refine ewp_skip ?_
        obtain rfl := sm hf116
        refine (?_ : Exists _)
        exact ⟨_, (x109.1, x109.2), rfl, ⟨rfl, rfl, rfl, rfl, rfl, trivial⟩, _, hB, hx1, h123, h99⟩
      replace hf116 := iT hf116
      (first | refine owp_nilT ?_ | refine owp_nilB ?_ | refine owp_nilBB ?_ | refine owp_nil ?_)
      refine ewp_true rfl ?_
      refine ewp_region ?_
      refine o_mv rfl rfl  ?_
      refine o_fa rfl rfl  ?_
      refine o_ld (hc := Blk.cell (i := 1) (h142.1) rfl) rfl rfl  ?_
      refine o_fa rfl rfl  ?_
      refine o_ld (hc := Blk.cell (i := 2) (h142.1) rfl) rfl rfl  ?_
      obtain ⟨a152, e153, hf116⟩ := bs hf116
      obtain ⟨p155, x154⟩ := atI_some' e153
      obtain ⟨b156, o157, ce158, hA159, hl160, hd161, rfl, r163⟩ := h123.elem x154
      refine o_iaE (hA := hA159) (hj := (Int.toNat_of_nonneg p155).symm) (hlt := hl160) rfl rfl rfl  ?_
      refine l_setE rfl h123 (a := a111.val) (vInt r137) hA159 rfl rfl (lt_of_get x154) fun w164 S165 h123 => ?_
      replace hB := hB.st S165 (by decide) (by decide)
      replace hx1 := hx1.st S165 (by decide)
      replace h99 := h99.st S165 (by decide)
      (first | refine owp_nilT ?_ | refine owp_nilB ?_ | refine owp_nilBB ?_ | refine owp_nil ?_)
      obtain rfl := sm hf116
      refine (?_ : Exists _)
      exact ⟨_, (x109.1, x109.2), rfl, ⟨rfl, rfl, rfl, (congrArg (fun n => some (Value.slice _ n _)) ((by simp : (s108.set (a111.var).toNat a111.val).length = s108.length).trans rfl).symm), rfl, trivial⟩, _, hB, hx1, h123.relen, h99⟩
    rintro l166 w167 ⟨s170, x171, rfl, hs169, O168, hB, h123⟩
    replace hm := fin_done hm
    refine ewp_sub _ hs169 ?_
    refine ewp_seq ?_
    refine ewp_region ?_
    refine o_mv rfl rfl  ?_
    refine o_as rfl rfl  ?_
    refine o_as rfl rfl  ?_
    (first | refine owp_nilT ?_ | refine owp_nilB ?_ | refine owp_nilBB ?_ | refine owp_nil ?_)
    refine ewp_ret ?_
    obtain ⟨O172, S173, h123⟩ := h123.freeze
    replace hB := hB.st S173 (by decide) (by decide)
    obtain rfl := sm hm
    exact ret2 rfl (res_tmp rfl) (res_tmp rfl) ⟨hB.ext, _, _, rfl, (Vb.mono (F := Fr 0 w167 O172) h123 hB.out), vBool⟩
noncomputable def m_base_Rank (x0 : List Int) (x1 : List Int) : Option Int :=
  bnd (rng (ρ := Int) (fun (k11 : Nat) (a12 : Int) (s9 : Int) => bnd (x0[k11]?) fun a24 => bnd (chkI (s9 * a24)) fun n34 => bnd (chkI (n34 + a12)) fun n45 => some (.next n45)) x1 0 0) fun res7 => fin res7 fun (s52 : Int) => some s52
theorem c_base_Rank {w : World} {A : Nat → Prop} (hA : ∀ k, A k → k < w.heap.size) {vx0 : Value} {x0 : List Int} (hx0 : Vb w A vx0 x0) {vx1 : Value} {x1 : List Int} (hx1 : Vb w A vx1 x1) {r : Int} (hm : m_base_Rank x0 x1 = some r) :
    Fn Try.prog 33 [vx0, vx1] w fun v w' => Ext w w' ∧ Vb w' (upA A w w') v r := by
  obtain ⟨O, hB, hA0⟩ := enter hA
  replace hx0 := hx0.mono hA0
  obtain ⟨A1, c2, rfl⟩ := hx0.form
  replace hx1 := hx1.mono hA0
  obtain ⟨A3, c4, rfl⟩ := hx1.form
  refine fn_enter Try.func33 rfl Try.ntmps33 rfl ?_
  unfold m_base_Rank at hm
  refine ewp_seq ?_
  refine ewp_region ?_
  refine o_as rfl rfl  ?_
  (first | refine owp_nilT ?_ | refine owp_nilB ?_ | refine owp_nilBB ?_ | refine owp_nil ?_)
  refine ewp_seq ?_
  refine ewp_region ?_
  refine o_as rfl rfl  ?_
  (first | refine owp_nilT ?_ | refine owp_nilB ?_ | refine owp_nilBB ?_ | refine owp_nil ?_)
  refine ewp_seq ?_
  refine ewp_seq ?_
  refine ewp_region ?_
  refine o_mv rfl rfl  ?_
  refine o_ln rfl rfl  ?_
  have l6 : x1.length ≤ 9223372036854775807 := Nat.le_trans hx1.len.2.1 hx1.len.2.2
  have r5 : inI64 (x1.length : Int) := rngNat l6
  refine o_mv rfl rfl  ?_
  (first | refine owp_nilT ?_ | refine owp_nilB ?_ | refine owp_nilBB ?_ | refine owp_nil ?_)
  obtain ⟨res7, hL8, hm⟩ := bs hm
  refine ewp_join (aft res7 (fun (s9 : Int) (x10 : Unit) => [(5, (.int .i64 s9))]) (fun s9 x10 w' => ∃ O' : Lab, Bs w A w' O' ∧ inI64 s9)) ?_ ?_
  · refine ewp_block ?_
    refine ewp_rng (σ := Int) (X := Unit) (x1.length) hL8 rfl l6 (fun (s9 : Int) (x10 : Unit) => [(0, (.slice A1 x0.length c2)), (1, (.slice A3 x1.length c4)), (5, (.int .i64 s9))]) _ (fun s9 x10 w' => ∃ O' : Lab, Bs w A w' O' ∧ Vb w' (Fr 0 w' O') (.slice A1 x0.length c2) x0 ∧ Vb w' (Fr 0 w' O') (.slice A3 x1.length c4) x1 ∧ inI64 s9) _ () ⟨O, hB, hx0, hx1, (show inI64 (0) from by decide)⟩ ⟨rfl, rfl, rfl, rfl, rfl, trivial⟩ (fun _ _ => ⟨rfl, rfl⟩) (fun _ _ => ⟨rfl, trivial⟩) (fun _ _ _ ⟨O', hB, hx0, hx1, r23⟩ => ⟨O', hB, r23⟩) ⟨rfl, rfl, rfl⟩ ⟨rfl, rfl⟩ ?_
    rintro k11 a12 s9 x10 w13 cc15 hx16 ⟨O14, hB, hx0, hx1, r23⟩ hf17 hret18 hbrk19
    have rk11 : inI64 (k11 : Int) := rngK hx16 l6
    refine ewp_seq ?_
    refine ewp_region ?_
    refine o_mv rfl rfl  ?_
    refine o_as rfl rfl  ?_
    (first | refine owp_nilT ?_ | refine owp_nilB ?_ | refine owp_nilBB ?_ | refine owp_nil ?_)
    refine ewp_draw (· = w13) [(0, true), (1, true), (2, true), (3, true), (4, true), (5, true), (6, true), (7, true), (8, true), (9, true), (10, true), (11, true)] (by kernel_rfl) rfl (by kernel_rfl) rfl ?_
    refine h_mv rfl rfl rfl  ?_
    refine h_mv rfl rfl rfl  ?_
    refine h_mv rfl rfl rfl  ?_
    obtain ⟨a24, e25, hf17⟩ := bs hf17
    obtain ⟨b26, o27, ce28, hA29, hl30, hd31, rfl, r33⟩ := hx0.elem' e25
    refine h_iaE (hA := hA29) (hj := rfl) (hlt := hl30) rfl rfl rfl rfl  ?_
    refine h_ldA (hc := cat0 hd31) rfl rfl rfl  ?_
    obtain ⟨n34, e35, hf17⟩ := bs hf17
    have r36 := (chkI_rng e35)
    refine h_mlE (he := e35) rfl rfl rfl rfl  ?_
    refine h_mv rfl rfl rfl  ?_
    refine h_mv rfl rfl rfl  ?_
    obtain ⟨b37, o38, ce39, hA40, hl41, hd42, rfl, r44⟩ := hx1.elem' hx16
    refine h_iaE (hA := hA40) (hj := rfl) (hlt := hl41) rfl rfl rfl rfl  ?_
    refine h_ldA (hc := cat0 hd42) rfl rfl rfl  ?_
    obtain ⟨n45, e46, hf17⟩ := bs hf17
    have r47 := (chkI_rng e46)
    refine h_adE (he := e46) rfl rfl rfl rfl  ?_
    refine h_as rfl rfl rfl  ?_
    (first | refine hwp_nilT ?_ | refine hwp_nilB ?_ | refine hwp_nil ?_)
    obtain rfl := sm hf17
    refine (?_ : Exists _)
    exact ⟨_, (), rfl, ⟨rfl, rfl, rfl, rfl, rfl, trivial⟩, _, hB, hx0, hx1, r47⟩
  rintro l48 w49 ⟨s52, x53, rfl, hs51, O50, hB, r23⟩
  replace hm := fin_done hm
  refine ewp_sub _ hs51 ?_
  refine ewp_seq ?_
  refine ewp_region ?_
  refine o_mv rfl rfl  ?_
  refine o_as rfl rfl  ?_
  (first | refine owp_nilT ?_ | refine owp_nilB ?_ | refine owp_nilBB ?_ | refine owp_nil ?_)
  refine ewp_ret ?_
  obtain rfl := sm hm
  exact ret1v rfl (res_tmp rfl) ⟨hB.ext, (vInt r23)⟩
noncomputable def m_base_Edges (x0 : Tsk) : Option (List Edg) :=
  bnd (m_base_States x0.vars) fun q23 => bnd (rng (ρ := (List Edg)) (fun (k38 : Nat) (a39 : List Int) (s36 : (List Edg)) => bnd (rng (ρ := Ctl (List Edg) (List Edg)) (fun (k70 : Nat) (a71 : Opr) (s68 : (List Edg)) => bnd (m_base_Apply x0 a39 (k70 : Int)) fun q85 => if q85.2 = true then (bnd (m_base_Rank x0.vars q85.1) fun q99 => bnd (appI 24 s68 [(⟨(k38 : Int), (k70 : Int), q99⟩ : Edg)]) fun u107 => some (.next u107)) else (some (.next s68))) x0.ops 0 s36) fun res66 => fin res66 fun (s123 : (List Edg)) => some (.next s123)) q23 0 ([] : List Edg)) fun res34 => fin res34 fun (s129 : (List Edg)) => some s129
theorem c_base_Edges {w : World} {A : Nat → Prop} (hA : ∀ k, A k → k < w.heap.size) {vx0 : Value} {x0 : Tsk} (hx0 : Vb w A vx0 x0) {r : (List Edg)} (hm : m_base_Edges x0 = some r) :
    Fn Try.prog 62 [vx0] w fun v w' => Ext w w' ∧ Vb w' (upA A w w') v r := by
  obtain ⟨O, hB, hA0⟩ := enter hA
  replace hx0 := hx0.mono hA0
  obtain ⟨cs1, rfl, v2, v3, v4, v5, rfl, h6, h9, h12, h15⟩ := hx0
  obtain ⟨A7, c8, rfl⟩ := h6.form
  obtain ⟨A10, c11, rfl⟩ := h9.form
  obtain ⟨A13, c14, rfl⟩ := h12.form
  obtain ⟨A16, c17, rfl⟩ := h15.form
  refine fn_enter Try.func62 rfl Try.ntmps62 rfl ?_
  unfold m_base_Edges at hm
  refine ewp_seq ?_
  refine ewp_region ?_
  refine l_box 2 O rfl rfl fun g18 w19 O20 S21 h22 => ?_
  replace h22 : Lc 2 w19 O20 g18 26 [(.slice A7 x0.vars.length c8), (.slice A10 x0.init.length c11), (.slice A13 x0.goal.length c14), (.slice A16 x0.ops.length c17)] := h22
  replace hB := hB.st S21 (fun h => h) (fun h => h)
  replace h6 := h6.st S21 (fun h => h)
  replace h9 := h9.st S21 (fun h => h)
  replace h12 := h12.st S21 (fun h => h)
  replace h15 := h15.st S21 (fun h => h)
  refine o_as rfl rfl  ?_
  (first | refine owp_nilT ?_ | refine owp_nilB ?_ | refine owp_nilBB ?_ | refine owp_nil ?_)
  refine ewp_seq ?_
  refine ewp_region ?_
  refine o_as rfl rfl  ?_
  (first | refine owp_nilT ?_ | refine owp_nilB ?_ | refine owp_nilBB ?_ | refine owp_nil ?_)
  refine ewp_seq ?_
  refine ewp_seq ?_
  refine ewp_region ?_
  refine o_fa rfl rfl  ?_
  refine o_ld (hc := Blk.cell (i := 0) (h22.1) rfl) rfl rfl  ?_
  obtain ⟨q23, e24, hm⟩ := bs hm
  refine l_call (O := O20) (R := fun w' F v => Vb w' F v q23) (c_base_States Fr.lt h6 e24) rfl rfl fun v29 w25 O26 S27 h28 => ?_
  obtain ⟨A30, c31, rfl⟩ := h28.form
  replace hB := hB.st S27 (fun h => h) (fun h => h)
  replace h22 := h22.st S27 (fun h => h)
  replace h6 := h6.st S27 (fun h => h)
  replace h9 := h9.st S27 (fun h => h)
  replace h12 := h12.st S27 (fun h => h)
  replace h15 := h15.st S27 (fun h => h)
  refine o_ln rfl rfl  ?_
  have l33 : q23.length ≤ 9223372036854775807 := Nat.le_trans h28.len.2.1 h28.len.2.2
  have r32 : inI64 (q23.length : Int) := rngNat l33
  refine o_mv rfl rfl  ?_
  (first | refine owp_nilT ?_ | refine owp_nilB ?_ | refine owp_nilBB ?_ | refine owp_nil ?_)
  obtain ⟨res34, hL35, hm⟩ := bs hm
  refine ewp_join (aft res34 (fun (s36 : (List Edg)) (x37 : (Option Addr × Nat)) => [(3, (.slice x37.1 s36.length x37.2))]) (fun s36 x37 w' => ∃ O' : Lab, Bs w A w' O' ∧ Rw 3 w' O' 96 (.slice x37.1 s36.length x37.2) s36)) ?_ ?_
  · refine ewp_block ?_
    refine ewp_rng (σ := (List Edg)) (X := (Option Addr × Nat)) (q23.length) hL35 rfl l33 (fun (s36 : (List Edg)) (x37 : (Option Addr × Nat)) => [(1, (.pointer (some ⟨g18, 0, none⟩))), (3, (.slice x37.1 s36.length x37.2)), (11, (.slice A30 q23.length c31))]) _ (fun s36 x37 w' => ∃ O' : Lab, Bs w A w' O' ∧ Lc 2 w' O' g18 26 [(.slice A7 x0.vars.length c8), (.slice A10 x0.init.length c11), (.slice A13 x0.goal.length c14), (.slice A16 x0.ops.length c17)] ∧ Vb w' (Fr 0 w' O') (.slice A7 x0.vars.length c8) x0.vars ∧ Vb w' (Fr 0 w' O') (.slice A10 x0.init.length c11) x0.init ∧ Vb w' (Fr 0 w' O') (.slice A13 x0.goal.length c14) x0.goal ∧ Vb w' (Fr 0 w' O') (.slice A16 x0.ops.length c17) x0.ops ∧ Rw 3 w' O' 96 (.slice x37.1 s36.length x37.2) s36 ∧ Vb w' (Fr 0 w' O') (.slice A30 q23.length c31) q23) _ (none, 0) ⟨O26, hB, h22, h6, h9, h12, h15, (Rw.nil 3 (by decide)), h28⟩ ⟨rfl, rfl, rfl, rfl, rfl, trivial⟩ (fun _ _ => ⟨rfl, rfl⟩) (fun _ _ => ⟨rfl, trivial⟩) (fun _ _ _ ⟨O', hB, h22, h6, h9, h12, h15, h51, h28⟩ => ⟨O', hB, h51⟩) ⟨rfl, rfl, rfl⟩ ⟨rfl, rfl⟩ ?_
    rintro k38 a39 s36 x37 w40 cc42 hx43 ⟨O41, hB, h22, h6, h9, h12, h15, h51, h28⟩ hf44 hret45 hbrk46
    have rk38 : inI64 (k38 : Int) := rngK hx43 l33
    refine ewp_seq ?_
    refine ewp_region ?_
    refine o_mv rfl rfl  ?_
    obtain ⟨b53, o54, ce55, hA56, hl57, hd58, v60, rfl, h61⟩ := h28.elem' hx43
    replace h61 := Vb.of_slice h61
    obtain ⟨A62, c63, rfl⟩ := h61.form
    refine o_iaE (hA := hA56) (hj := rfl) (hlt := hl57) rfl rfl rfl  ?_
    refine o_ld (hc := cat0 hd58) rfl rfl  ?_
    refine o_as rfl rfl  ?_
    refine o_as rfl rfl  ?_
    (first | refine owp_nilT ?_ | refine owp_nilB ?_ | refine owp_nilBB ?_ | refine owp_nil ?_)
    refine ewp_seq ?_
    refine ewp_region ?_
    refine o_fa rfl rfl  ?_
    refine o_ld (hc := Blk.cell (i := 3) (h22.1) rfl) rfl rfl  ?_
    refine o_ln rfl rfl  ?_
    have l65 : x0.ops.length ≤ 9223372036854775807 := Nat.le_trans h15.len.2.1 h15.len.2.2
    have r64 : inI64 (x0.ops.length : Int) := rngNat l65
    refine o_mv rfl rfl  ?_
    (first | refine owp_nilT ?_ | refine owp_nilB ?_ | refine owp_nilBB ?_ | refine owp_nil ?_)
    obtain ⟨res66, hL67, hf44⟩ := bs hf44
    refine ewp_join (aft res66 (fun (s68 : (List Edg)) (x69 : (Option Addr × Nat)) => [(1, (.pointer (some ⟨g18, 0, none⟩))), (3, (.slice x69.1 s68.length x69.2)), (11, (.slice A30 q23.length c31)), (12, (.int .i64 (q23.length : Int))), (13, (.int .i64 (k38 : Int)))]) (fun s68 x69 w' => ∃ O' : Lab, Bs w A w' O' ∧ Lc 2 w' O' g18 26 [(.slice A7 x0.vars.length c8), (.slice A10 x0.init.length c11), (.slice A13 x0.goal.length c14), (.slice A16 x0.ops.length c17)] ∧ Vb w' (Fr 0 w' O') (.slice A7 x0.vars.length c8) x0.vars ∧ Vb w' (Fr 0 w' O') (.slice A10 x0.init.length c11) x0.init ∧ Vb w' (Fr 0 w' O') (.slice A13 x0.goal.length c14) x0.goal ∧ Vb w' (Fr 0 w' O') (.slice A16 x0.ops.length c17) x0.ops ∧ Rw 3 w' O' 96 (.slice x69.1 s68.length x69.2) s68 ∧ Vb w' (Fr 0 w' O') (.slice A30 q23.length c31) q23)) ?_ ?_
    · refine ewp_block ?_
      refine ewp_rng (σ := (List Edg)) (X := (Option Addr × Nat)) (x0.ops.length) hL67 rfl l65 (fun (s68 : (List Edg)) (x69 : (Option Addr × Nat)) => [(1, (.pointer (some ⟨g18, 0, none⟩))), (3, (.slice x69.1 s68.length x69.2)), (4, (.int .i64 (k38 : Int))), (5, (.slice A62 a39.length c63)), (11, (.slice A30 q23.length c31)), (12, (.int .i64 (q23.length : Int))), (13, (.int .i64 (k38 : Int)))]) _ (fun s68 x69 w' => ∃ O' : Lab, Bs w A w' O' ∧ Lc 2 w' O' g18 26 [(.slice A7 x0.vars.length c8), (.slice A10 x0.init.length c11), (.slice A13 x0.goal.length c14), (.slice A16 x0.ops.length c17)] ∧ Vb w' (Fr 0 w' O') (.slice A7 x0.vars.length c8) x0.vars ∧ Vb w' (Fr 0 w' O') (.slice A10 x0.init.length c11) x0.init ∧ Vb w' (Fr 0 w' O') (.slice A13 x0.goal.length c14) x0.goal ∧ Vb w' (Fr 0 w' O') (.slice A16 x0.ops.length c17) x0.ops ∧ Rw 3 w' O' 96 (.slice x69.1 s68.length x69.2) s68 ∧ Vb w' (Fr 0 w' O') (.slice A62 a39.length c63) a39 ∧ Vb w' (Fr 0 w' O') (.slice A30 q23.length c31) q23) _ (x37.1, x37.2) ⟨O41, hB, h22, h6, h9, h12, h15, h51, h61, h28⟩ ⟨rfl, rfl, rfl, rfl, rfl, rfl, rfl, rfl, rfl, trivial⟩ (fun _ _ => ⟨rfl, rfl⟩) (fun _ _ => ⟨rfl, rfl, rfl, rfl, rfl, trivial⟩) (fun _ _ _ ⟨O', hB, h22, h6, h9, h12, h15, h83, h61, h28⟩ => ⟨O', hB, h22, h6, h9, h12, h15, h83, h28⟩) ⟨rfl, rfl, rfl⟩ ⟨rfl, rfl⟩ ?_
      rintro k70 a71 s68 x69 w72 cc74 hx75 ⟨O73, hB, h22, h6, h9, h12, h15, h83, h61, h28⟩ hf76 hret77 hbrk78
      have rk70 : inI64 (k70 : Int) := rngK hx75 l65
      refine ewp_seq ?_
      refine ewp_region ?_
      refine o_mv rfl rfl  ?_
      refine o_as rfl rfl  ?_
      (first | refine owp_nilT ?_ | refine owp_nilB ?_ | refine owp_nilBB ?_ | refine owp_nil ?_)
      refine ewp_seq ?_
      refine ewp_region ?_
      refine o_la (hl := rfl) (hc := (h22.1).cellsAt) rfl rfl  ?_
      refine o_mv rfl rfl  ?_
      refine o_mv rfl rfl  ?_
      obtain ⟨q85, e86, hf76⟩ := bs hf76
      refine l_call (O := O73) (R := fun w' F v => T2 w' F v q85) (c_base_Apply Fr.lt (Vb.ofAgg (cs := [(.slice A7 x0.vars.length c8), (.slice A10 x0.init.length c11), (.slice A13 x0.goal.length c14), (.slice A16 x0.ops.length c17)]) (x := x0) rfl ⟨_, _, _, _, rfl, h6, h9, h12, h15⟩) h61 rk70 e86) rfl rfl fun v91 w87 O88 S89 h90 => ?_
      obtain ⟨v92, v93, rfl, h94, h95⟩ := h90
      obtain ⟨A96, c97, rfl⟩ := h94.form
      obtain rfl := h95.bool
      replace hB := hB.st S89 (fun h => h) (fun h => h)
      replace h22 := h22.st S89 (fun h => h)
      replace h6 := h6.st S89 (fun h => h)
      replace h9 := h9.st S89 (fun h => h)
      replace h12 := h12.st S89 (fun h => h)
      replace h15 := h15.st S89 (fun h => h)
      replace h83 := h83.st S89 (fun h => h) (fun h => h)
      replace h61 := h61.st S89 (fun h => h)
      replace h28 := h28.st S89 (fun h => h)
      refine o_mv rfl rfl  ?_
      refine o_ex rfl rfl rfl  ?_
      refine o_ex rfl rfl rfl  ?_
      refine o_as rfl rfl  ?_
      refine o_as rfl rfl  ?_
      (first | refine owp_nilT ?_ | refine owp_nilB ?_ | refine owp_nilBB ?_ | refine owp_nil ?_)
      refine ewp_seq ?_
      refine ewp_region ?_
      refine o_mv rfl rfl  ?_
      (first | refine owp_nilT ?_ | refine owp_nilB ?_ | refine owp_nilBB ?_ | refine owp_nil ?_)
      refine ewp_cond rfl (fun c98 => ?_) (fun c98 => ?_)
      · replace hf76 := ip hf76 c98
        refine ewp_region ?_
        refine o_mv rfl rfl  ?_
        refine o_mv rfl rfl  ?_
        refine o_mv rfl rfl  ?_
        refine o_fa rfl rfl  ?_
        refine o_ld (hc := Blk.cell (i := 0) (h22.1) rfl) rfl rfl  ?_
        refine o_mv rfl rfl  ?_
        obtain ⟨q99, e100, hf76⟩ := bs hf76
        refine l_callA (O := O88) (A := All w87) (R := fun w' F v => Vb w' F v q99) (c_base_Rank (fun _ h => h) (Vb.mono (F := Fr 0 w87 O88) h6 Fr.lt) (Vb.mono (F := Fr 0 w87 O88) h94 Fr.lt) e100) rfl rfl fun v105 w101 O102 S103 h104 => ?_
        obtain ⟨rfl, r106⟩ := h104.int
        replace hB := hB.st S103 (fun h => h) (fun h => h)
        replace h22 := h22.st S103 (fun h => h)
        replace h6 := h6.st S103 (fun h => h)
        replace h9 := h9.st S103 (fun h => h)
        replace h12 := h12.st S103 (fun h => h)
        replace h15 := h15.st S103 (fun h => h)
        replace h61 := h61.st S103 (fun h => h)
        replace h28 := h28.st S103 (fun h => h)
        replace h83 := h83.st S103 (fun h => h) (fun h => h)
        refine o_bd rfl rfl rfl  ?_
        obtain ⟨u107, e108, hf76⟩ := bs hf76
        obtain ⟨e108, e109, e110⟩ := appI_some e108
        refine l_append1 rfl (a := (⟨(k38 : Int), (k70 : Int), q99⟩ : Edg)) h83 (Vb.ofAgg (cs := [(.int .i64 (k38 : Int)), (.int .i64 (k70 : Int)), (.int .i64 q99)]) (x := (⟨(k38 : Int), (k70 : Int), q99⟩ : Edg)) rfl ⟨rfl, rk38, rk70, r106⟩) (fun _ => rfl) rfl (by decide) (by decide) e109 e110 ⟨rfl, rfl⟩ fun g111 A112 c113 w114 O115 S116 h117 => ?_
        rw [← e108] at h117 ⊢
        replace hB := hB.st S116 (by decide) (by decide)
        replace h22 := h22.st S116 (by decide)
        replace h6 := h6.st S116 (by decide)
        replace h9 := h9.st S116 (by decide)
        replace h12 := h12.st S116 (by decide)
        replace h15 := h15.st S116 (by decide)
        replace h61 := h61.st S116 (by decide)
        replace h28 := h28.st S116 (by decide)
        refine o_as rfl rfl  ?_
        (first | refine owp_nilT ?_ | refine owp_nilB ?_ | refine owp_nilBB ?_ | refine owp_nil ?_)
        obtain rfl := sm hf76
        refine (?_ : Exists _)
        exact ⟨_, (A112, c113), rfl, ⟨rfl, rfl, rfl, rfl, rfl, rfl, rfl, rfl, rfl, trivial⟩, _, hB, h22, h6, h9, h12, h15, h117, h61, h28⟩
      · replace hf76 := im' hf76 c98
        refine ewp_skip ?_
        obtain rfl := sm hf76
        refine (?_ : Exists _)
        exact ⟨_, (x69.1, x69.2), rfl, ⟨rfl, rfl, rfl, rfl, rfl, rfl, rfl, rfl, rfl, trivial⟩, _, hB, h22, h6, h9, h12, h15, h83, h61, h28⟩
    rintro l119 w120 ⟨s123, x124, rfl, hs122, O121, hB, h22, h6, h9, h12, h15, h83, h28⟩
    replace hf44 := fin_done hf44
    obtain rfl := sm hf44
    refine (?_ : Exists _)
    exact ⟨_, (x124.1, x124.2), rfl, ⟨(subs_lk hs122 _ _ rfl), (subs_lk hs122 _ _ rfl), (subs_lk hs122 _ _ rfl), (subs_lk hs122 _ _ rfl), (subs_lk hs122 _ _ rfl), trivial⟩, _, hB, h22, h6, h9, h12, h15, h83, h28⟩
  rintro l125 w126 ⟨s129, x130, rfl, hs128, O127, hB, h51⟩
  replace hm := fin_done hm
  refine ewp_sub _ hs128 ?_
  refine ewp_seq ?_
  refine ewp_region ?_
  refine o_mv rfl rfl  ?_
  refine o_as rfl rfl  ?_
  (first | refine owp_nilT ?_ | refine owp_nilB ?_ | refine owp_nilBB ?_ | refine owp_nil ?_)
  refine ewp_ret ?_
  obtain ⟨O131, S132, h51⟩ := h51.freeze
  replace hB := hB.st S132 (by decide) (by decide)
  obtain rfl := sm hm
  exact ret1v rfl (res_tmp rfl) ⟨hB.ext, (Vb.mono (F := Fr 0 w126 O131) h51 hB.out)⟩
noncomputable def m_base_Distances (x0 : Tsk) : Option (List Int) :=
  bnd (m_base_States x0.vars) fun q23 => bnd (mkI 8 (0 : Int) (q23.length : Int)) fun u34 => bnd (rng (ρ := (List Int)) (fun (k53 : Nat) (a54 : List Int) (s51 : (List Int)) => bnd (s51[k53]?) fun a79 => bnd (m_base_Holds x0.goal a54) fun q91 => if q91 = true then bnd ((s51.set k53 1125899906842624)[k53]?) fun a98 => some (.next ((s51.set k53 1125899906842624).set k53 0)) else some (.next (s51.set k53 1125899906842624))) q23 0 u34) fun res49 => fin res49 fun (s114 : (List Int)) => bnd (m_base_Edges x0) fun q116 => bnd (lop (ρ := (List Int)) (fun (s127 : (List Int) × Bool) => if s127.2 = true then (bnd (rng (ρ := Ctl ((List Int) × Bool) (List Int)) (fun (k151 : Nat) (a152 : Edg) (s149 : (List Int) × Bool) => bnd (atI x0.ops a152.op) fun a183 => bnd (bnd (atI s149.1 a152.dst) fun a208 => if a208 < 1125899906842624 then (bnd (atI s149.1 a152.dst) fun a221 => bnd (chkI (a221 + a183.cost)) fun n233 => bnd (atI s149.1 a152.src) fun a236 => if n233 < a236 then (some true) else (some false)) else (some false) : Option Bool) fun y204 => if y204 = true then (bnd (atI s149.1 a152.dst) fun a254 => bnd (chkI (a254 + a183.cost)) fun n266 => bnd (atI s149.1 a152.src) fun a269 => some (.next ((s149.1.set (a152.src).toNat n266), true))) else (some (.next (s149.1, s149.2)))) q116 0 (s127.1, false)) fun res147 => fin res147 fun (s287 : (List Int) × Bool) => some (.next (s287.1, s287.2))) else (some (.brk (s127.1, s127.2)))) (s114, true)) fun res125 => fin res125 fun (s293 : (List Int) × Bool) => some s293.1
theorem c_base_Distances {w : World} {A : Nat → Prop} (hA : ∀ k, A k → k < w.heap.size) {vx0 : Value} {x0 : Tsk} (hx0 : Vb w A vx0 x0) {r : (List Int)} (hm : m_base_Distances x0 = some r) :
    Fn Try.prog 34 [vx0, (.slice none 0 0)] w fun v w' => Ext w w' ∧ Vb w' (upA A w w') v r := by
  obtain ⟨O, hB, hA0⟩ := enter hA
  replace hx0 := hx0.mono hA0
  obtain ⟨cs1, rfl, v2, v3, v4, v5, rfl, h6, h9, h12, h15⟩ := hx0
  obtain ⟨A7, c8, rfl⟩ := h6.form
  obtain ⟨A10, c11, rfl⟩ := h9.form
  obtain ⟨A13, c14, rfl⟩ := h12.form
  obtain ⟨A16, c17, rfl⟩ := h15.form
  refine fn_enter Try.func34 rfl Try.ntmps34 rfl ?_
  unfold m_base_Distances at hm
  refine ewp_seq ?_
  refine ewp_region ?_
  refine l_box 2 O rfl rfl fun g18 w19 O20 S21 h22 => ?_
  replace h22 : Lc 2 w19 O20 g18 26 [(.slice A7 x0.vars.length c8), (.slice A10 x0.init.length c11), (.slice A13 x0.goal.length c14), (.slice A16 x0.ops.length c17)] := h22
  replace hB := hB.st S21 (fun h => h) (fun h => h)
  replace h6 := h6.st S21 (fun h => h)
  replace h9 := h9.st S21 (fun h => h)
  replace h12 := h12.st S21 (fun h => h)
  replace h15 := h15.st S21 (fun h => h)
  refine o_as rfl rfl  ?_
  (first | refine owp_nilT ?_ | refine owp_nilB ?_ | refine owp_nilBB ?_ | refine owp_nil ?_)
  refine ewp_seq ?_
  refine ewp_region ?_
  refine o_fa rfl rfl  ?_
  refine o_ld (hc := Blk.cell (i := 0) (h22.1) rfl) rfl rfl  ?_
  obtain ⟨q23, e24, hm⟩ := bs hm
  refine l_call (O := O20) (R := fun w' F v => Vb w' F v q23) (c_base_States Fr.lt h6 e24) rfl rfl fun v29 w25 O26 S27 h28 => ?_
  obtain ⟨A30, c31, rfl⟩ := h28.form
  replace hB := hB.st S27 (fun h => h) (fun h => h)
  replace h22 := h22.st S27 (fun h => h)
  replace h6 := h6.st S27 (fun h => h)
  replace h9 := h9.st S27 (fun h => h)
  replace h12 := h12.st S27 (fun h => h)
  replace h15 := h15.st S27 (fun h => h)
  refine o_as rfl rfl  ?_
  (first | refine owp_nilT ?_ | refine owp_nilB ?_ | refine owp_nilBB ?_ | refine owp_nil ?_)
  refine ewp_seq ?_
  refine ewp_region ?_
  refine o_mv rfl rfl  ?_
  refine o_ln rfl rfl  ?_
  have l33 : q23.length ≤ 9223372036854775807 := Nat.le_trans h28.len.2.1 h28.len.2.2
  have r32 : inI64 (q23.length : Int) := rngNat l33
  obtain ⟨u34, e35, hm⟩ := bs hm
  obtain ⟨m36, e37, e38, e39, e40⟩ := mkI_some e35
  refine l_make 3 (by decide) O26 (z0 := (0 : Int)) rfl rfl rfl rfl rfl e37 (vInt (show inI64 0 from by decide)) e38 e39 rfl fun g41 w42 O43 S44 h45 => ?_
  rw [← e40] at h45 ⊢
  replace hB := hB.st S44 (fun h => h) (fun h => h)
  replace h22 := h22.st S44 (fun h => h)
  replace h6 := h6.st S44 (fun h => h)
  replace h9 := h9.st S44 (fun h => h)
  replace h12 := h12.st S44 (fun h => h)
  replace h15 := h15.st S44 (fun h => h)
  replace h28 := h28.st S44 (fun h => h)
  refine o_as rfl rfl  ?_
  (first | refine owp_nilT ?_ | refine owp_nilB ?_ | refine owp_nilBB ?_ | refine owp_nil ?_)
  refine ewp_seq ?_
  refine ewp_seq ?_
  refine ewp_region ?_
  refine o_mv rfl rfl  ?_
  refine o_ln rfl rfl  ?_
  have l48 : q23.length ≤ 9223372036854775807 := Nat.le_trans h28.len.2.1 h28.len.2.2
  have r47 : inI64 (q23.length : Int) := rngNat l48
  refine o_mv rfl rfl  ?_
  (first | refine owp_nilT ?_ | refine owp_nilB ?_ | refine owp_nilBB ?_ | refine owp_nil ?_)
  obtain ⟨res49, hL50, hm⟩ := bs hm
  refine ewp_join (aft res49 (fun (s51 : (List Int)) (x52 : (Option Addr × Nat)) => [(1, (.slice none 0 0)), (2, (.pointer (some ⟨g18, 0, none⟩))), (6, (.slice x52.1 s51.length x52.2))]) (fun s51 x52 w' => ∃ O' : Lab, Bs w A w' O' ∧ Lc 2 w' O' g18 26 [(.slice A7 x0.vars.length c8), (.slice A10 x0.init.length c11), (.slice A13 x0.goal.length c14), (.slice A16 x0.ops.length c17)] ∧ Vb w' (Fr 0 w' O') (.slice A7 x0.vars.length c8) x0.vars ∧ Vb w' (Fr 0 w' O') (.slice A10 x0.init.length c11) x0.init ∧ Vb w' (Fr 0 w' O') (.slice A13 x0.goal.length c14) x0.goal ∧ Vb w' (Fr 0 w' O') (.slice A16 x0.ops.length c17) x0.ops ∧ Rw 3 w' O' 3 (.slice x52.1 s51.length x52.2) s51)) ?_ ?_
  · refine ewp_block ?_
    refine ewp_rng (σ := (List Int)) (X := (Option Addr × Nat)) (q23.length) hL50 rfl l48 (fun (s51 : (List Int)) (x52 : (Option Addr × Nat)) => [(1, (.slice none 0 0)), (2, (.pointer (some ⟨g18, 0, none⟩))), (6, (.slice x52.1 s51.length x52.2)), (20, (.slice A30 q23.length c31))]) _ (fun s51 x52 w' => ∃ O' : Lab, Bs w A w' O' ∧ Lc 2 w' O' g18 26 [(.slice A7 x0.vars.length c8), (.slice A10 x0.init.length c11), (.slice A13 x0.goal.length c14), (.slice A16 x0.ops.length c17)] ∧ Vb w' (Fr 0 w' O') (.slice A7 x0.vars.length c8) x0.vars ∧ Vb w' (Fr 0 w' O') (.slice A10 x0.init.length c11) x0.init ∧ Vb w' (Fr 0 w' O') (.slice A13 x0.goal.length c14) x0.goal ∧ Vb w' (Fr 0 w' O') (.slice A16 x0.ops.length c17) x0.ops ∧ Rw 3 w' O' 3 (.slice x52.1 s51.length x52.2) s51 ∧ Vb w' (Fr 0 w' O') (.slice A30 q23.length c31) q23) _ ((some ⟨g41, 0, none⟩), m36) ⟨O43, hB, h22, h6, h9, h12, h15, h45, h28⟩ ⟨rfl, rfl, rfl, rfl, rfl, rfl, trivial⟩ (fun _ _ => ⟨rfl, rfl⟩) (fun _ _ => ⟨rfl, rfl, rfl, trivial⟩) (fun _ _ _ ⟨O', hB, h22, h6, h9, h12, h15, h66, h28⟩ => ⟨O', hB, h22, h6, h9, h12, h15, h66⟩) ⟨rfl, rfl, rfl⟩ ⟨rfl, rfl⟩ ?_
    rintro k53 a54 s51 x52 w55 cc57 hx58 ⟨O56, hB, h22, h6, h9, h12, h15, h66, h28⟩ hf59 hret60 hbrk61
    have rk53 : inI64 (k53 : Int) := rngK hx58 l48
    refine ewp_seq ?_
    refine ewp_region ?_
    refine o_mv rfl rfl  ?_
    obtain ⟨b68, o69, ce70, hA71, hl72, hd73, v75, rfl, h76⟩ := h28.elem' hx58
    replace h76 := Vb.of_slice h76
    obtain ⟨A77, c78, rfl⟩ := h76.form
    refine o_iaE (hA := hA71) (hj := rfl) (hlt := hl72) rfl rfl rfl  ?_
    refine o_ld (hc := cat0 hd73) rfl rfl  ?_
    refine o_as rfl rfl  ?_
    refine o_as rfl rfl  ?_
    (first | refine owp_nilT ?_ | refine owp_nilB ?_ | refine owp_nilBB ?_ | refine owp_nil ?_)
    refine ewp_seq ?_
    refine ewp_region ?_
    refine o_mv rfl rfl  ?_
    refine o_mv rfl rfl  ?_
    obtain ⟨a79, e80, hf59⟩ := bs hf59
    obtain ⟨b81, o82, ce83, hA84, hl85, hd86, rfl, r88⟩ := h66.elem e80
    refine o_iaE (hA := hA84) (hj := rfl) (hlt := hl85) rfl rfl rfl  ?_
    refine l_setE rfl h66 (a := 1125899906842624) (vInt (show inI64 (1125899906842624) from by decide)) hA84 rfl rfl (lt_of_get e80) fun w89 S90 h66 => ?_
    replace hB := hB.st S90 (by decide) (by decide)
    replace h22 := h22.st S90 (by decide)
    replace h6 := h6.st S90 (by decide)
    replace h9 := h9.st S90 (by decide)
    replace h12 := h12.st S90 (by decide)
    replace h15 := h15.st S90 (by decide)
    replace h76 := h76.st S90 (by decide)
    replace h28 := h28.st S90 (by decide)
    (first | refine owp_nilT ?_ | refine owp_nilB ?_ | refine owp_nilBB ?_ | refine owp_nil ?_)
    refine ewp_seq ?_
    refine ewp_region ?_
    refine o_fa rfl rfl  ?_
    refine o_ld (hc := Blk.cell (i := 2) (h22.1) rfl) rfl rfl  ?_
    refine o_mv rfl rfl  ?_
    obtain ⟨q91, e92, hf59⟩ := bs hf59
    refine l_callA (O := O56) (A := All w89) (R := fun w' F v => Vb w' F v q91) (c_base_Holds (fun _ h => h) (Vb.mono (F := Fr 0 w89 O56) h12 Fr.lt) (Vb.mono (F := Fr 0 w89 O56) h76 Fr.lt) e92) rfl rfl fun v97 w93 O94 S95 h96 => ?_
    obtain rfl := h96.bool
    replace hB := hB.st S95 (fun h => h) (fun h => h)
    replace h22 := h22.st S95 (fun h => h)
    replace h6 := h6.st S95 (fun h => h)
    replace h9 := h9.st S95 (fun h => h)
    replace h12 := h12.st S95 (fun h => h)
    replace h15 := h15.st S95 (fun h => h)
    replace h66 := h66.st S95 (fun h => h) (fun h => h)
    replace h28 := h28.st S95 (fun h => h)
    cases q91
    case false =>
      replace hf59 := iF hf59
      (first | refine owp_nilT ?_ | refine owp_nilB ?_ | refine owp_nilBB ?_ | refine owp_nil ?_)
      refine ewp_false rfl ?_
      refine ewp_skip ?_
      obtain rfl := sm hf59
      refine (?_ : Exists _)
      exact ⟨_, (x52.1, x52.2), rfl, ⟨rfl, rfl, rfl, rfl, (congrArg (fun n => some (Value.slice _ n _)) ((by simp : (s51.set k53 1125899906842624).length = s51.length).trans rfl).symm), rfl, trivial⟩, _, hB, h22, h6, h9, h12, h15, h66.relen, h28⟩
    replace hf59 := iT hf59
    (first | refine owp_nilT ?_ | refine owp_nilB ?_ | refine owp_nilBB ?_ | refine owp_nil ?_)
    refine ewp_true rfl ?_
    refine ewp_region ?_
    refine o_mv rfl rfl  ?_
    refine o_mv rfl rfl  ?_
    obtain ⟨a98, e99, hf59⟩ := bs hf59
    obtain ⟨b100, o101, ce102, hA103, hl104, hd105, rfl, r107⟩ := h66.elem e99
    refine o_iaE (hA := hA103) (hj := rfl) (hlt := hl104) rfl rfl rfl  ?_
    refine l_setE rfl h66 (a := 0) (vInt (show inI64 (0) from by decide)) hA103 rfl rfl (lt_of_get e99) fun w108 S109 h66 => ?_
    replace hB := hB.st S109 (by decide) (by decide)
    replace h22 := h22.st S109 (by decide)
    replace h6 := h6.st S109 (by decide)
    replace h9 := h9.st S109 (by decide)
    replace h12 := h12.st S109 (by decide)
    replace h15 := h15.st S109 (by decide)
    replace h28 := h28.st S109 (by decide)
    (first | refine owp_nilT ?_ | refine owp_nilB ?_ | refine owp_nilBB ?_ | refine owp_nil ?_)
    obtain rfl := sm hf59
    refine (?_ : Exists _)
    exact ⟨_, (x52.1, x52.2), rfl, ⟨rfl, rfl, rfl, rfl, (congrArg (fun n => some (Value.slice _ n _)) ((by simp : ((s51.set k53 1125899906842624).set k53 0).length = (s51.set k53 1125899906842624).length).trans ((by simp : (s51.set k53 1125899906842624).length = s51.length).trans rfl)).symm), rfl, trivial⟩, _, hB, h22, h6, h9, h12, h15, h66.relen, h28⟩
  rintro l110 w111 ⟨s114, x115, rfl, hs113, O112, hB, h22, h6, h9, h12, h15, h66⟩
  replace hm := fin_done hm
  refine ewp_sub _ hs113 ?_
  refine ewp_seq ?_
  refine ewp_region ?_
  refine o_la (hl := rfl) (hc := (h22.1).cellsAt) rfl rfl  ?_
  obtain ⟨q116, e117, hm⟩ := bs hm
  refine l_call (O := O112) (R := fun w' F v => Vb w' F v q116) (c_base_Edges Fr.lt (Vb.ofAgg (cs := [(.slice A7 x0.vars.length c8), (.slice A10 x0.init.length c11), (.slice A13 x0.goal.length c14), (.slice A16 x0.ops.length c17)]) (x := x0) rfl ⟨_, _, _, _, rfl, h6, h9, h12, h15⟩) e117) rfl rfl fun v122 w118 O119 S120 h121 => ?_
  obtain ⟨A123, c124, rfl⟩ := h121.form
  replace hB := hB.st S120 (fun h => h) (fun h => h)
  replace h22 := h22.st S120 (fun h => h)
  replace h6 := h6.st S120 (fun h => h)
  replace h9 := h9.st S120 (fun h => h)
  replace h12 := h12.st S120 (fun h => h)
  replace h15 := h15.st S120 (fun h => h)
  replace h66 := h66.st S120 (fun h => h) (fun h => h)
  refine o_as rfl rfl  ?_
  (first | refine owp_nilT ?_ | refine owp_nilB ?_ | refine owp_nilBB ?_ | refine owp_nil ?_)
  refine ewp_seq ?_
  refine ewp_seq ?_
  refine ewp_region ?_
  refine o_as rfl rfl  ?_
  (first | refine owp_nilT ?_ | refine owp_nilB ?_ | refine owp_nilBB ?_ | refine owp_nil ?_)
  obtain ⟨res125, hL126, hm⟩ := bs hm
  refine ewp_join (aft res125 (fun (s127 : (List Int) × Bool) (x128 : (Option Addr × Nat)) => [(6, (.slice x128.1 s127.1.length x128.2))]) (fun s127 x128 w' => ∃ O' : Lab, Bs w A w' O' ∧ Rw 3 w' O' 3 (.slice x128.1 s127.1.length x128.2) s127.1)) ?_ ?_
  · refine ewp_block ?_
    refine ewp_lop (σ := (List Int) × Bool) (X := (Option Addr × Nat)) hL126 (fun (s127 : (List Int) × Bool) (x128 : (Option Addr × Nat)) => [(1, (.slice none 0 0)), (2, (.pointer (some ⟨g18, 0, none⟩))), (6, (.slice x128.1 s127.1.length x128.2)), (9, (.slice A123 q116.length c124)), (10, (.bool s127.2))]) _ (fun s127 x128 w' => ∃ O' : Lab, Bs w A w' O' ∧ Lc 2 w' O' g18 26 [(.slice A7 x0.vars.length c8), (.slice A10 x0.init.length c11), (.slice A13 x0.goal.length c14), (.slice A16 x0.ops.length c17)] ∧ Vb w' (Fr 0 w' O') (.slice A7 x0.vars.length c8) x0.vars ∧ Vb w' (Fr 0 w' O') (.slice A10 x0.init.length c11) x0.init ∧ Vb w' (Fr 0 w' O') (.slice A13 x0.goal.length c14) x0.goal ∧ Vb w' (Fr 0 w' O') (.slice A16 x0.ops.length c17) x0.ops ∧ Rw 3 w' O' 3 (.slice x128.1 s127.1.length x128.2) s127.1 ∧ Vb w' (Fr 0 w' O') (.slice A123 q116.length c124) q116) _ (x115.1, x115.2) ⟨O119, hB, h22, h6, h9, h12, h15, h66, h121⟩ ⟨rfl, rfl, rfl, rfl, rfl, trivial⟩  ?_
    rintro s127 x128 w131 cc133 ⟨O132, hB, h22, h6, h9, h12, h15, h142, h121⟩ hf135 hret136 hbrk137
    refine ewp_seq ?_
    refine ewp_seq ?_
    refine ewp_region ?_
    refine o_mv rfl rfl  ?_
    (first | refine owp_nilT ?_ | refine owp_nilB ?_ | refine owp_nilBB ?_ | refine owp_nil ?_)
    refine ewp_cond rfl (fun c144 => ?_) (fun c144 => ?_)
    · replace hf135 := ip hf135 c144
      refine ewp_skip ?_
      refine ewp_block ?_
      refine ewp_seq ?_
      refine ewp_region ?_
      refine o_as rfl rfl  ?_
      (first | refine owp_nilT ?_ | refine owp_nilB ?_ | refine owp_nilBB ?_ | refine owp_nil ?_)
      refine ewp_seq ?_
      refine ewp_region ?_
      refine o_mv rfl rfl  ?_
      refine o_ln rfl rfl  ?_
      have l146 : q116.length ≤ 9223372036854775807 := Nat.le_trans h121.len.2.1 h121.len.2.2
      have r145 : inI64 (q116.length : Int) := rngNat l146
      refine o_mv rfl rfl  ?_
      (first | refine owp_nilT ?_ | refine owp_nilB ?_ | refine owp_nilBB ?_ | refine owp_nil ?_)
      obtain ⟨res147, hL148, hf135⟩ := bs hf135
      refine ewp_join (aft res147 (fun (s149 : (List Int) × Bool) (x150 : (Option Addr × Nat)) => [(1, (.slice none 0 0)), (2, (.pointer (some ⟨g18, 0, none⟩))), (6, (.slice x150.1 s149.1.length x150.2)), (9, (.slice A123 q116.length c124)), (10, (.bool s149.2))]) (fun s149 x150 w' => ∃ O' : Lab, Bs w A w' O' ∧ Lc 2 w' O' g18 26 [(.slice A7 x0.vars.length c8), (.slice A10 x0.init.length c11), (.slice A13 x0.goal.length c14), (.slice A16 x0.ops.length c17)] ∧ Vb w' (Fr 0 w' O') (.slice A7 x0.vars.length c8) x0.vars ∧ Vb w' (Fr 0 w' O') (.slice A10 x0.init.length c11) x0.init ∧ Vb w' (Fr 0 w' O') (.slice A13 x0.goal.length c14) x0.goal ∧ Vb w' (Fr 0 w' O') (.slice A16 x0.ops.length c17) x0.ops ∧ Rw 3 w' O' 3 (.slice x150.1 s149.1.length x150.2) s149.1 ∧ Vb w' (Fr 0 w' O') (.slice A123 q116.length c124) q116)) ?_ ?_
      · refine ewp_block ?_
        refine ewp_rng (σ := (List Int) × Bool) (X := (Option Addr × Nat)) (q116.length) hL148 rfl l146 (fun (s149 : (List Int) × Bool) (x150 : (Option Addr × Nat)) => [(1, (.slice none 0 0)), (2, (.pointer (some ⟨g18, 0, none⟩))), (6, (.slice x150.1 s149.1.length x150.2)), (9, (.slice A123 q116.length c124)), (10, (.bool s149.2)), (41, (.slice A123 q116.length c124))]) _ (fun s149 x150 w' => ∃ O' : Lab, Bs w A w' O' ∧ Lc 2 w' O' g18 26 [(.slice A7 x0.vars.length c8), (.slice A10 x0.init.length c11), (.slice A13 x0.goal.length c14), (.slice A16 x0.ops.length c17)] ∧ Vb w' (Fr 0 w' O') (.slice A7 x0.vars.length c8) x0.vars ∧ Vb w' (Fr 0 w' O') (.slice A10 x0.init.length c11) x0.init ∧ Vb w' (Fr 0 w' O') (.slice A13 x0.goal.length c14) x0.goal ∧ Vb w' (Fr 0 w' O') (.slice A16 x0.ops.length c17) x0.ops ∧ Rw 3 w' O' 3 (.slice x150.1 s149.1.length x150.2) s149.1 ∧ Vb w' (Fr 0 w' O') (.slice A123 q116.length c124) q116) _ (x128.1, x128.2) ⟨O132, hB, h22, h6, h9, h12, h15, h142, h121⟩ ⟨rfl, rfl, rfl, rfl, rfl, rfl, rfl, rfl, trivial⟩ (fun _ _ => ⟨rfl, rfl⟩) (fun _ _ => ⟨rfl, rfl, rfl, rfl, rfl, trivial⟩) (fun _ _ _ ⟨O', hB, h22, h6, h9, h12, h15, h164, h121⟩ => ⟨O', hB, h22, h6, h9, h12, h15, h164, h121⟩) ⟨rfl, rfl, rfl⟩ ⟨rfl, rfl⟩ ?_
        rintro k151 a152 s149 x150 w153 cc155 hx156 ⟨O154, hB, h22, h6, h9, h12, h15, h164, h121⟩ hf157 hret158 hbrk159
        have rk151 : inI64 (k151 : Int) := rngK hx156 l146
        refine ewp_seq ?_
        refine ewp_region ?_
        obtain ⟨b166, o167, ce168, hA169, hl170, hd171, rfl, r173, r174, r175⟩ := h121.elem' hx156
        refine o_iaE (hA := hA169) (hj := rfl) (hlt := hl170) rfl rfl rfl  ?_
        refine o_la (hl := rfl) (hc := hd171) rfl rfl  ?_
        refine l_alloc 4 O154 rfl fun g176 w177 O178 S179 h180 => ?_
        replace hB := hB.st S179 (fun h => h) (fun h => h)
        replace h22 := h22.st S179 (fun h => h)
        replace h6 := h6.st S179 (fun h => h)
        replace h9 := h9.st S179 (fun h => h)
        replace h12 := h12.st S179 (fun h => h)
        replace h15 := h15.st S179 (fun h => h)
        replace h164 := h164.st S179 (fun h => h) (fun h => h)
        replace h121 := h121.st S179 (fun h => h)
        refine l_store h180 rfl rfl rfl (Nat.le_of_ble_eq_true rfl) (by first | exact allOne rfl | simp [Value.cells, Value.oneCell', errV_one]) fun w181 S182 h180 => ?_
        replace h180 : Lc 4 w181 O178 g176 96 [(.int .i64 a152.src), (.int .i64 a152.op), (.int .i64 a152.dst)] := h180
        replace hB := hB.st S182 (by decide) (by decide)
        replace h22 := h22.st S182 (by decide)
        replace h6 := h6.st S182 (by decide)
        replace h9 := h9.st S182 (by decide)
        replace h12 := h12.st S182 (by decide)
        replace h15 := h15.st S182 (by decide)
        replace h164 := h164.st S182 (by decide) (by decide)
        replace h121 := h121.st S182 (by decide)
        (first | refine owp_nilT ?_ | refine owp_nilB ?_ | refine owp_nilBB ?_ | refine owp_nil ?_)
        refine ewp_seq ?_
        refine ewp_region ?_
        refine o_fa rfl rfl  ?_
        refine o_ld (hc := Blk.cell (i := 3) (h22.1) rfl) rfl rfl  ?_
        refine o_fa rfl rfl  ?_
        refine o_ld (hc := Blk.cell (i := 1) (h180.1) rfl) rfl rfl  ?_
        obtain ⟨a183, e184, hf157⟩ := bs hf157
        obtain ⟨p186, x185⟩ := atI_some' e184
        obtain ⟨b187, o188, ce189, hA190, hl191, hd192, v194, v195, rfl, h196, h199, r202, z203⟩ := h15.elem' x185
        obtain ⟨A197, c198, rfl⟩ := h196.form
        obtain ⟨A200, c201, rfl⟩ := h199.form
        refine o_iaE (hA := hA190) (hj := (Int.toNat_of_nonneg p186).symm) (hlt := hl191) rfl rfl rfl  ?_
        refine o_fa rfl rfl  ?_
        refine o_ld (hc := cat1 hd192) rfl rfl  ?_
        refine o_as rfl rfl  ?_
        (first | refine owp_nilT ?_ | refine owp_nilB ?_ | refine owp_nilBB ?_ | refine owp_nil ?_)
        refine ewp_seq ?_
        refine ewp_seq ?_
        refine ewp_region ?_
        refine o_mv rfl rfl  ?_
        refine o_sq rfl rfl  ?_
        (first | refine owp_nilT ?_ | refine owp_nilB ?_ | refine owp_nilBB ?_ | refine owp_nil ?_)
        refine ewp_false rfl ?_
        refine ewp_skip ?_
        refine ewp_seq ?_
        obtain ⟨y204, hy205, hf157⟩ := bs hf157
        refine ewp_join (fun l' w' => ∃ (x207 : Unit) (O' : Lab), subs l' [(1, (.slice none 0 0)), (2, (.pointer (some ⟨g18, 0, none⟩))), (6, (.slice x150.1 s149.1.length x150.2)), (9, (.slice A123 q116.length c124)), (10, (.bool s149.2)), (12, (.pointer (some ⟨g176, 0, none⟩))), (13, (.int .i64 a183.cost)), (41, (.slice A123 q116.length c124)), (42, (.int .i64 (q116.length : Int))), (43, (.int .i64 (k151 : Int))), (81, (.bool y204))] ∧ Bs w A w' O' ∧ Lc 2 w' O' g18 26 [(.slice A7 x0.vars.length c8), (.slice A10 x0.init.length c11), (.slice A13 x0.goal.length c14), (.slice A16 x0.ops.length c17)] ∧ Vb w' (Fr 0 w' O') (.slice A7 x0.vars.length c8) x0.vars ∧ Vb w' (Fr 0 w' O') (.slice A10 x0.init.length c11) x0.init ∧ Vb w' (Fr 0 w' O') (.slice A13 x0.goal.length c14) x0.goal ∧ Vb w' (Fr 0 w' O') (.slice A16 x0.ops.length c17) x0.ops ∧ Rw 3 w' O' 3 (.slice x150.1 s149.1.length x150.2) s149.1 ∧ Vb w' (Fr 0 w' O') (.slice A123 q116.length c124) q116 ∧ Lc 4 w' O' g176 96 [(.int .i64 a152.src), (.int .i64 a152.op), (.int .i64 a152.dst)]) ?_ ?_
        · skip
          refine ewp_draw (· = w181) [(0, true), (1, true), (2, true), (3, true), (4, true), (5, true), (6, true), (7, true), (8, true), (9, true), (10, true), (11, true), (12, true), (13, true), (14, true), (15, true), (16, true), (17, true), (18, true), (19, true), (20, true)] (by kernel_rfl) rfl (by kernel_rfl) rfl ?_
          refine h_mv rfl rfl rfl  ?_
          refine h_fa rfl rfl rfl  ?_
          refine h_ldA (hc := Blk.cell (i := 2) (h180.1) rfl) rfl rfl rfl  ?_
          obtain ⟨a208, e209, hy205⟩ := bs hy205
          obtain ⟨p211, x210⟩ := atI_some' e209
          obtain ⟨b212, o213, ce214, hA215, hl216, hd217, rfl, r219⟩ := h164.elem x210
          refine h_iaE (hA := hA215) (hj := (Int.toNat_of_nonneg p211).symm) (hlt := hl216) rfl rfl rfl rfl  ?_
          refine h_ldA (hc := cat0 hd217) rfl rfl rfl  ?_
          refine h_ltS rfl rfl rfl rfl (fun c220 => ?_) fun c220 => ?_
          · replace hy205 := ip hy205 c220
            refine h_mv rfl rfl rfl  ?_
            refine hwp_o rfl ?_
            refine hwq_yes rfl rfl ?_
            refine g_mv rfl rfl  ?_
            refine hwp_o rfl ?_
            refine hwq_yes rfl rfl ?_
            refine g_fa rfl rfl  ?_
            refine hwp_o rfl ?_
            refine hwq_yes rfl rfl ?_
            refine g_ldA (hc := Blk.cell (i := 2) (h180.1) rfl) rfl rfl  ?_
            refine hwp_o rfl ?_
            refine hwq_yes rfl rfl ?_
            obtain ⟨a221, e222, hy205⟩ := bs hy205
            obtain ⟨p224, x223⟩ := atI_some' e222
            obtain ⟨b225, o226, ce227, hA228, hl229, hd230, rfl, r232⟩ := h164.elem x223
            refine g_iaE (hA := hA228) (hj := (Int.toNat_of_nonneg p224).symm) (hlt := hl229) rfl rfl rfl  ?_
            refine hwp_o rfl ?_
            refine hwq_yes rfl rfl ?_
            refine g_ldA (hc := cat0 hd230) rfl rfl  ?_
            refine hwp_o rfl ?_
            refine hwq_yes rfl rfl ?_
            refine g_mv rfl rfl  ?_
            refine hwp_o rfl ?_
            refine hwq_yes rfl rfl ?_
            obtain ⟨n233, e234, hy205⟩ := bs hy205
            have r235 := (chkI_rng e234)
            refine g_adE (he := e234) rfl rfl rfl  ?_
            refine hwp_o rfl ?_
            refine hwq_yes rfl rfl ?_
            refine g_mv rfl rfl  ?_
            refine hwp_o rfl ?_
            refine hwq_yes rfl rfl ?_
            refine g_fa rfl rfl  ?_
            refine hwp_o rfl ?_
            refine hwq_yes rfl rfl ?_
            refine g_ldA (hc := Blk.cell (i := 0) (h180.1) rfl) rfl rfl  ?_
            refine hwp_o rfl ?_
            refine hwq_yes rfl rfl ?_
            obtain ⟨a236, e237, hy205⟩ := bs hy205
            obtain ⟨p239, x238⟩ := atI_some' e237
            obtain ⟨b240, o241, ce242, hA243, hl244, hd245, rfl, r247⟩ := h164.elem x238
            refine g_iaE (hA := hA243) (hj := (Int.toNat_of_nonneg p239).symm) (hlt := hl244) rfl rfl rfl  ?_
            refine hwp_o rfl ?_
            refine hwq_yes rfl rfl ?_
            refine g_ldA (hc := cat0 hd245) rfl rfl  ?_
            refine hwp_o rfl ?_
            refine hwq_yes rfl rfl ?_
            refine hwq_split (fun _ _ => ev_lss rfl rfl) rfl (fun c248 => ?_) (fun c248 => ?_)
            · replace hy205 := ip hy205 c248
              refine h_pt rfl rfl rfl rfl  ?_
              (first | refine hwp_nilT ?_ | refine hwp_nilB ?_ | refine hwp_nil ?_)
              obtain rfl := sm hy205
              exact ⟨(), _, ⟨rfl, rfl, rfl, rfl, rfl, rfl, rfl, rfl, rfl, rfl, rfl, trivial⟩, hB, h22, h6, h9, h12, h15, h164, h121, h180⟩
            · replace hy205 := im hy205 c248
              refine h_pt rfl rfl rfl rfl  ?_
              (first | refine hwp_nilT ?_ | refine hwp_nilB ?_ | refine hwp_nil ?_)
              obtain rfl := sm hy205
              exact ⟨(), _, ⟨rfl, rfl, rfl, rfl, rfl, rfl, rfl, rfl, rfl, rfl, rfl, trivial⟩, hB, h22, h6, h9, h12, h15, h164, h121, h180⟩
          · replace hy205 := im hy205 c220
            refine h_mv rfl rfl rfl  ?_
            refine h_no rfl rfl rfl rfl rfl ?_
            refine h_no rfl rfl rfl rfl rfl ?_
            refine h_no rfl rfl rfl rfl rfl ?_
            refine h_no rfl rfl rfl rfl rfl ?_
            refine h_no rfl rfl rfl rfl rfl ?_
            refine h_no rfl rfl rfl rfl rfl ?_
            refine h_no rfl rfl rfl rfl rfl ?_
            refine h_no rfl rfl rfl rfl rfl ?_
            refine h_no rfl rfl rfl rfl rfl ?_
            refine h_no rfl rfl rfl rfl rfl ?_
            refine h_no rfl rfl rfl rfl rfl ?_
            refine h_no rfl rfl rfl rfl rfl ?_
            refine h_no rfl rfl rfl rfl rfl ?_
            refine h_pf rfl rfl rfl rfl  ?_
            (first | refine hwp_nilT ?_ | refine hwp_nilB ?_ | refine hwp_nil ?_)
            obtain rfl := sm hy205
            exact ⟨(), _, ⟨rfl, rfl, rfl, rfl, rfl, rfl, rfl, rfl, rfl, rfl, rfl, trivial⟩, hB, h22, h6, h9, h12, h15, h164, h121, h180⟩
        rintro l249 w250 ⟨x207, O251, hs252, hB, h22, h6, h9, h12, h15, h164, h121, h180⟩
        refine ewp_sub _ hs252 ?_
        refine ewp_cond rfl (fun c253 => ?_) (fun c253 => ?_)
        · replace hf157 := ip hf157 c253
          refine ewp_seq ?_
          have hZ := St.refl (nT) w250 O251
          have zh22 := h22
          have zh6 := h6
          have zh9 := h9
          have zh12 := h12
          have zh15 := h15
          have zh164 := h164
          have zh121 := h121
          have zh180 := h180
          refine ewp_drawS (fun w' => ∃ O', St (nT) w250 O251 w' O') ?_
          refine hws_pre (fuel := 1) [(0, true), (1, true), (2, true), (3, true), (4, true), (5, true), (6, true), (7, true), (8, true), (9, true), (10, true)] (by kernel_rfl) (by kernel_rfl) (by kernel_rfl) ⟨_, hZ⟩ ?_
          refine h_mv rfl rfl rfl  ?_
          refine h_fa rfl rfl rfl  ?_
          refine h_ldC (hc := fun w' ⟨O', hq⟩ => Blk.cell (i := 0) ((zh180.st hq (by decide)).1) rfl) rfl rfl rfl  ?_
          refine h_mv rfl rfl rfl  ?_
          refine h_fa rfl rfl rfl  ?_
          refine h_ldC (hc := fun w' ⟨O', hq⟩ => Blk.cell (i := 2) ((zh180.st hq (by decide)).1) rfl) rfl rfl rfl  ?_
          obtain ⟨a254, e255, hf157⟩ := bs hf157
          obtain ⟨p257, x256⟩ := atI_some' e255
          obtain ⟨b258, o259, ce260, hA261, hF264, hl262, hd263, rfl, r265⟩ := zh164.elemF x256
          refine h_iaE (hA := hA261) (hj := (Int.toNat_of_nonneg p257).symm) (hlt := hl262) rfl rfl rfl rfl  ?_
          refine h_ldC (hc := fun w' ⟨O', hq⟩ => cat0 (cellsAt_agree (hq.agree (i := 3) (by decide)) hF264 hd263)) rfl rfl rfl  ?_
          refine h_mv rfl rfl rfl  ?_
          obtain ⟨n266, e267, hf157⟩ := bs hf157
          have r268 := (chkI_rng e267)
          refine h_adE (he := e267) rfl rfl rfl rfl  ?_
          obtain ⟨a269, e270, hf157⟩ := bs hf157
          obtain ⟨p272, x271⟩ := atI_some' e270
          obtain ⟨b273, o274, ce275, hA276, hF279, hl277, hd278, rfl, r280⟩ := zh164.elemF x271
          refine h_iaE (hA := hA276) (hj := (Int.toNat_of_nonneg p272).symm) (hlt := hl277) rfl rfl rfl rfl  ?_
          refine hwp_nilT ?_
          refine hws_one (i := 11) (by kernel_rfl) rfl ?_
          refine l_setE rfl h164 (a := n266) (vInt r268) hA276 rfl rfl (lt_of_get x271) fun w281 S282 h164 => ?_
          replace hB := hB.st S282 (by decide) (by decide)
          replace h22 := h22.st S282 (by decide)
          replace h6 := h6.st S282 (by decide)
          replace h9 := h9.st S282 (by decide)
          replace h12 := h12.st S282 (by decide)
          replace h15 := h15.st S282 (by decide)
          replace h121 := h121.st S282 (by decide)
          refine owp_loudSE (by kernel_rfl) ?_
          refine hws_nil (by kernel_rfl) ?_
          refine ewp_region ?_
          refine o_as rfl rfl  ?_
          (first | refine owp_nilT ?_ | refine owp_nilB ?_ | refine owp_nilBB ?_ | refine owp_nil ?_)
          obtain rfl := sm hf157
          refine (?_ : Exists _)
          exact ⟨_, (x150.1, x150.2), rfl, ⟨rfl, rfl, rfl, rfl, (congrArg (fun n => some (Value.slice _ n _)) ((by simp : (s149.1.set (a152.src).toNat n266).length = s149.1.length).trans rfl).symm), rfl, rfl, rfl, trivial⟩, _, hB, h22, h6, h9, h12, h15, h164.relen, h121⟩
        · replace hf157 := im' hf157 c253
          refine ewp_skip ?_
          obtain rfl := sm hf157
          refine (?_ : Exists _)
          exact ⟨_, (x150.1, x150.2), rfl, ⟨rfl, rfl, rfl, rfl, rfl, rfl, rfl, rfl, trivial⟩, _, hB, h22, h6, h9, h12, h15, h164, h121⟩
      rintro l283 w284 ⟨s287, x288, rfl, hs286, O285, hB, h22, h6, h9, h12, h15, h164, h121⟩
      replace hf135 := fin_done hf135
      obtain rfl := sm hf135
      refine (?_ : Exists _)
      exact ⟨_, (x288.1, x288.2), rfl, ⟨(subs_lk hs286 _ _ rfl), (subs_lk hs286 _ _ rfl), (subs_lk hs286 _ _ rfl), (subs_lk hs286 _ _ rfl), (subs_lk hs286 _ _ rfl), trivial⟩, _, hB, h22, h6, h9, h12, h15, h164, h121⟩
    · replace hf135 := im' hf135 c144
      refine ewp_exit ?_
      obtain rfl := sm hf135
      refine (?_ : Exists _)
      exact ⟨_, (x128.1, x128.2), hbrk137 _ rfl, ⟨rfl, trivial⟩, _, hB, h142⟩
  rintro l289 w290 ⟨s293, x294, rfl, hs292, O291, hB, h142⟩
  replace hm := fin_done hm
  refine ewp_sub _ hs292 ?_
  refine ewp_seq ?_
  refine ewp_region ?_
  refine o_mv rfl rfl  ?_
  refine o_as rfl rfl  ?_
  (first | refine owp_nilT ?_ | refine owp_nilB ?_ | refine owp_nilBB ?_ | refine owp_nil ?_)
  refine ewp_ret ?_
  obtain ⟨O295, S296, h142⟩ := h142.freeze
  replace hB := hB.st S296 (by decide) (by decide)
  obtain rfl := sm hm
  exact ret1v rfl (res_tmp rfl) ⟨hB.ext, (Vb.mono (F := Fr 0 w290 O295) h142 hB.out)⟩
noncomputable def m_base_Cost (x0 : Tsk) (x1 : List Int) (x2 : List Int) : Option (Int × Bool) :=
  bnd (rng (ρ := Int × Bool) (fun (k33 : Nat) (a34 : Int) (s31 : (List Int) × Int) => bnd (m_base_Apply x0 s31.1 a34) fun q56 => if (!q56.2) = true then (some (.ret (0, false))) else (bnd (atI x0.ops a34) fun a70 => bnd (chkI (s31.2 + a70.cost)) fun n91 => some (.next (q56.1, n91)))) x2 0 (x1, 0)) fun res29 => fin res29 fun (s98 : (List Int) × Int) => bnd (bnd (m_base_Holds x0.goal s98.1) fun q104 => if q104 = true then some true else some false : Option Bool) fun y100 => some (s98.2, y100)
theorem c_base_Cost {w : World} {A : Nat → Prop} (hA : ∀ k, A k → k < w.heap.size) {vx0 : Value} {x0 : Tsk} (hx0 : Vb w A vx0 x0) {vx1 : Value} {x1 : List Int} (hx1 : Vb w A vx1 x1) {vx2 : Value} {x2 : List Int} (hx2 : Vb w A vx2 x2) {r : Int × Bool} (hm : m_base_Cost x0 x1 x2 = some r) :
    Fn Try.prog 37 [vx0, vx1, vx2] w fun v w' => Ext w w' ∧ T2 w' (upA A w w') v r := by
  obtain ⟨O, hB, hA0⟩ := enter hA
  replace hx0 := hx0.mono hA0
  obtain ⟨cs1, rfl, v2, v3, v4, v5, rfl, h6, h9, h12, h15⟩ := hx0
  obtain ⟨A7, c8, rfl⟩ := h6.form
  obtain ⟨A10, c11, rfl⟩ := h9.form
  obtain ⟨A13, c14, rfl⟩ := h12.form
  obtain ⟨A16, c17, rfl⟩ := h15.form
  replace hx1 := hx1.mono hA0
  obtain ⟨A18, c19, rfl⟩ := hx1.form
  replace hx2 := hx2.mono hA0
  obtain ⟨A20, c21, rfl⟩ := hx2.form
  refine fn_enter Try.func37 rfl Try.ntmps37 rfl ?_
  unfold m_base_Cost at hm
  refine ewp_seq ?_
  refine ewp_region ?_
  refine l_box 2 O rfl rfl fun g22 w23 O24 S25 h26 => ?_
  replace h26 : Lc 2 w23 O24 g22 26 [(.slice A7 x0.vars.length c8), (.slice A10 x0.init.length c11), (.slice A13 x0.goal.length c14), (.slice A16 x0.ops.length c17)] := h26
  replace hB := hB.st S25 (fun h => h) (fun h => h)
  replace hx1 := hx1.st S25 (fun h => h)
  replace hx2 := hx2.st S25 (fun h => h)
  replace h6 := h6.st S25 (fun h => h)
  replace h9 := h9.st S25 (fun h => h)
  replace h12 := h12.st S25 (fun h => h)
  replace h15 := h15.st S25 (fun h => h)
  refine o_as rfl rfl  ?_
  refine o_as rfl rfl  ?_
  (first | refine owp_nilT ?_ | refine owp_nilB ?_ | refine owp_nilBB ?_ | refine owp_nil ?_)
  refine ewp_seq ?_
  refine ewp_region ?_
  refine o_as rfl rfl  ?_
  (first | refine owp_nilT ?_ | refine owp_nilB ?_ | refine owp_nilBB ?_ | refine owp_nil ?_)
  refine ewp_seq ?_
  refine ewp_seq ?_
  refine ewp_region ?_
  refine o_mv rfl rfl  ?_
  refine o_ln rfl rfl  ?_
  have l28 : x2.length ≤ 9223372036854775807 := Nat.le_trans hx2.len.2.1 hx2.len.2.2
  have r27 : inI64 (x2.length : Int) := rngNat l28
  refine o_mv rfl rfl  ?_
  (first | refine owp_nilT ?_ | refine owp_nilB ?_ | refine owp_nilBB ?_ | refine owp_nil ?_)
  obtain ⟨res29, hL30, hm⟩ := bs hm
  refine ewp_join (aft res29 (fun (s31 : (List Int) × Int) (x32 : (Option Addr × Nat)) => [(1, (.slice x32.1 s31.1.length x32.2)), (3, (.pointer (some ⟨g22, 0, none⟩))), (8, (.int .i64 s31.2))]) (fun s31 x32 w' => ∃ O' : Lab, Bs w A w' O' ∧ Vb w' (Fr 0 w' O') (.slice x32.1 s31.1.length x32.2) s31.1 ∧ Lc 2 w' O' g22 26 [(.slice A7 x0.vars.length c8), (.slice A10 x0.init.length c11), (.slice A13 x0.goal.length c14), (.slice A16 x0.ops.length c17)] ∧ Vb w' (Fr 0 w' O') (.slice A7 x0.vars.length c8) x0.vars ∧ Vb w' (Fr 0 w' O') (.slice A10 x0.init.length c11) x0.init ∧ Vb w' (Fr 0 w' O') (.slice A13 x0.goal.length c14) x0.goal ∧ Vb w' (Fr 0 w' O') (.slice A16 x0.ops.length c17) x0.ops ∧ inI64 s31.2)) ?_ ?_
  · refine ewp_block ?_
    refine ewp_rng (σ := (List Int) × Int) (X := (Option Addr × Nat)) (x2.length) hL30 rfl l28 (fun (s31 : (List Int) × Int) (x32 : (Option Addr × Nat)) => [(1, (.slice x32.1 s31.1.length x32.2)), (3, (.pointer (some ⟨g22, 0, none⟩))), (8, (.int .i64 s31.2)), (13, (.slice A20 x2.length c21))]) _ (fun s31 x32 w' => ∃ O' : Lab, Bs w A w' O' ∧ Vb w' (Fr 0 w' O') (.slice x32.1 s31.1.length x32.2) s31.1 ∧ Lc 2 w' O' g22 26 [(.slice A7 x0.vars.length c8), (.slice A10 x0.init.length c11), (.slice A13 x0.goal.length c14), (.slice A16 x0.ops.length c17)] ∧ Vb w' (Fr 0 w' O') (.slice A7 x0.vars.length c8) x0.vars ∧ Vb w' (Fr 0 w' O') (.slice A10 x0.init.length c11) x0.init ∧ Vb w' (Fr 0 w' O') (.slice A13 x0.goal.length c14) x0.goal ∧ Vb w' (Fr 0 w' O') (.slice A16 x0.ops.length c17) x0.ops ∧ Vb w' (Fr 0 w' O') (.slice A20 x2.length c21) x2 ∧ inI64 s31.2) _ (A18, c19) ⟨O24, hB, hx1, h26, h6, h9, h12, h15, hx2, (show inI64 (0) from by decide)⟩ ⟨rfl, rfl, rfl, rfl, rfl, rfl, trivial⟩ (fun _ _ => ⟨rfl, rfl⟩) (fun _ _ => ⟨rfl, rfl, rfl, trivial⟩) (fun _ _ _ ⟨O', hB, h46, h26, h6, h9, h12, h15, hx2, r47⟩ => ⟨O', hB, h46, h26, h6, h9, h12, h15, r47⟩) ⟨rfl, rfl, rfl⟩ ⟨rfl, rfl⟩ ?_
    rintro k33 a34 s31 x32 w35 cc37 hx38 ⟨O36, hB, h46, h26, h6, h9, h12, h15, hx2, r47⟩ hf39 hret40 hbrk41
    have rk33 : inI64 (k33 : Int) := rngK hx38 l28
    refine ewp_seq ?_
    refine ewp_region ?_
    obtain ⟨b48, o49, ce50, hA51, hl52, hd53, rfl, r55⟩ := hx2.elem' hx38
    refine o_iaE (hA := hA51) (hj := rfl) (hlt := hl52) rfl rfl rfl  ?_
    refine o_ld (hc := cat0 hd53) rfl rfl  ?_
    refine o_as rfl rfl  ?_
    (first | refine owp_nilT ?_ | refine owp_nilB ?_ | refine owp_nilBB ?_ | refine owp_nil ?_)
    refine ewp_seq ?_
    refine ewp_region ?_
    refine o_la (hl := rfl) (hc := (h26.1).cellsAt) rfl rfl  ?_
    refine o_mv rfl rfl  ?_
    refine o_mv rfl rfl  ?_
    obtain ⟨q56, e57, hf39⟩ := bs hf39
    refine l_call (O := O36) (R := fun w' F v => T2 w' F v q56) (c_base_Apply Fr.lt (Vb.ofAgg (cs := [(.slice A7 x0.vars.length c8), (.slice A10 x0.init.length c11), (.slice A13 x0.goal.length c14), (.slice A16 x0.ops.length c17)]) (x := x0) rfl ⟨_, _, _, _, rfl, h6, h9, h12, h15⟩) h46 r55 e57) rfl rfl fun v62 w58 O59 S60 h61 => ?_
    obtain ⟨v63, v64, rfl, h65, h66⟩ := h61
    obtain ⟨A67, c68, rfl⟩ := h65.form
    obtain rfl := h66.bool
    replace hB := hB.st S60 (fun h => h) (fun h => h)
    replace h26 := h26.st S60 (fun h => h)
    replace h6 := h6.st S60 (fun h => h)
    replace h9 := h9.st S60 (fun h => h)
    replace h12 := h12.st S60 (fun h => h)
    replace h15 := h15.st S60 (fun h => h)
    replace hx2 := hx2.st S60 (fun h => h)
    refine o_mv rfl rfl  ?_
    refine o_ex rfl rfl rfl  ?_
    refine o_ex rfl rfl rfl  ?_
    refine o_as rfl rfl  ?_
    refine o_as rfl rfl  ?_
    (first | refine owp_nilT ?_ | refine owp_nilB ?_ | refine owp_nilBB ?_ | refine owp_nil ?_)
    refine ewp_seq ?_
    refine ewp_seq ?_
    refine ewp_region ?_
    refine o_mv rfl rfl  ?_
    refine o_nn rfl rfl  ?_
    (first | refine owp_nilT ?_ | refine owp_nilB ?_ | refine owp_nilBB ?_ | refine owp_nil ?_)
    refine ewp_cond rfl (fun c69 => ?_) (fun c69 => ?_)
    · replace hf39 := ip hf39 c69
      refine ewp_seq ?_
      refine ewp_region ?_
      refine o_as rfl rfl  ?_
      refine o_as rfl rfl  ?_
      (first | refine owp_nilT ?_ | refine owp_nilB ?_ | refine owp_nilBB ?_ | refine owp_nil ?_)
      refine ewp_ret ?_
      obtain rfl := sm hf39
      obtain rfl := hret40 _ rfl
      obtain rfl := sm (fin_ret hm)
      exact ret2 rfl (res_tmp rfl) (res_tmp rfl) ⟨hB.ext, _, _, rfl, (vInt (show inI64 (0) from by decide)), vBool⟩
    · replace hf39 := im' hf39 c69
      refine ewp_skip ?_
      refine ewp_seq ?_
      refine ewp_region ?_
      refine o_mv rfl rfl  ?_
      refine o_as rfl rfl  ?_
      (first | refine owp_nilT ?_ | refine owp_nilB ?_ | refine owp_nilBB ?_ | refine owp_nil ?_)
      refine ewp_region ?_
      refine o_mv rfl rfl  ?_
      refine o_fa rfl rfl  ?_
      refine o_ld (hc := Blk.cell (i := 3) (h26.1) rfl) rfl rfl  ?_
      refine o_mv rfl rfl  ?_
      obtain ⟨a70, e71, hf39⟩ := bs hf39
      obtain ⟨p73, x72⟩ := atI_some' e71
      obtain ⟨b74, o75, ce76, hA77, hl78, hd79, v81, v82, rfl, h83, h86, r89, z90⟩ := h15.elem' x72
      obtain ⟨A84, c85, rfl⟩ := h83.form
      obtain ⟨A87, c88, rfl⟩ := h86.form
      refine o_iaE (hA := hA77) (hj := (Int.toNat_of_nonneg p73).symm) (hlt := hl78) rfl rfl rfl  ?_
      refine o_fa rfl rfl  ?_
      refine o_ld (hc := cat1 hd79) rfl rfl  ?_
      obtain ⟨n91, e92, hf39⟩ := bs hf39
      have r93 := (chkI_rng e92)
      refine o_adE (he := e92) rfl rfl rfl  ?_
      refine o_as rfl rfl  ?_
      (first | refine owp_nilT ?_ | refine owp_nilB ?_ | refine owp_nilBB ?_ | refine owp_nil ?_)
      obtain rfl := sm hf39
      refine (?_ : Exists _)
      exact ⟨_, (A67, c68), rfl, ⟨rfl, rfl, rfl, rfl, rfl, rfl, trivial⟩, _, hB, h65, h26, h6, h9, h12, h15, hx2, r93⟩
  rintro l94 w95 ⟨s98, x99, rfl, hs97, O96, hB, h46, h26, h6, h9, h12, h15, r47⟩
  replace hm := fin_done hm
  refine ewp_sub _ hs97 ?_
  refine ewp_seq ?_
  obtain ⟨y100, hy101, hm⟩ := bs hm
  refine ewp_join (fun l' w' => ∃ (x103 : Unit) (O' : Lab), subs l' [(6, (.int .i64 s98.2)), (7, (.bool y100))] ∧ Bs w A w' O') ?_ ?_
  · skip
    refine ewp_region ?_
    refine o_mv rfl rfl  ?_
    refine o_fa rfl rfl  ?_
    refine o_ld (hc := Blk.cell (i := 2) (h26.1) rfl) rfl rfl  ?_
    refine o_mv rfl rfl  ?_
    obtain ⟨q104, e105, hy101⟩ := bs hy101
    refine l_callA (O := O96) (A := All w95) (R := fun w' F v => Vb w' F v q104) (c_base_Holds (fun _ h => h) (Vb.mono (F := Fr 0 w95 O96) h12 Fr.lt) (Vb.mono (F := Fr 0 w95 O96) h46 Fr.lt) e105) rfl rfl fun v110 w106 O107 S108 h109 => ?_
    obtain rfl := h109.bool
    replace hB := hB.st S108 (fun h => h) (fun h => h)
    cases q104
    case false =>
      replace hy101 := iF hy101
      refine o_as rfl rfl  ?_
      refine o_as rfl rfl  ?_
      (first | refine owp_nilT ?_ | refine owp_nilB ?_ | refine owp_nilBB ?_ | refine owp_nil ?_)
      obtain rfl := sm hy101
      exact ⟨(), _, ⟨rfl, rfl, trivial⟩, hB⟩
    replace hy101 := iT hy101
    refine o_as rfl rfl  ?_
    refine o_as rfl rfl  ?_
    (first | refine owp_nilT ?_ | refine owp_nilB ?_ | refine owp_nilBB ?_ | refine owp_nil ?_)
    obtain rfl := sm hy101
    exact ⟨(), _, ⟨rfl, rfl, trivial⟩, hB⟩
  rintro l111 w112 ⟨x103, O113, hs114, hB⟩
  refine ewp_sub _ hs114 ?_
  refine ewp_ret ?_
  obtain rfl := sm hm
  exact ret2 rfl (res_tmp rfl) (res_tmp rfl) ⟨hB.ext, _, _, rfl, (vInt r47), vBool⟩
end Go.Proofs.Ytdhaelekmjgbmaa

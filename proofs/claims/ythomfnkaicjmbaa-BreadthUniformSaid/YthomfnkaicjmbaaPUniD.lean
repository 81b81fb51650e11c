/- Own text: what the proof of breadthUniform_holds uses, part 4: rules, models and their proofs, plain laws. -/
import Derived.Test.YthomfnkaicjmbaaPUniC
namespace Go.Proofs.Ythomfnkaicjmbaa
open Go Go.RowKit
section
open Go Go.RowKit
attribute [local irreducible] ewp owp hwp hwq hws Ev Evg Fn retPost loud loudS Res1
structure Edg where
  src : Int
  op : Int
  dst : Int
instance : Rp Edg where
  isAgg := true
  size := 3
  R w F cs x := cs = [.int .i64 x.src, .int .i64 x.op, .int .i64 x.dst] ∧ inI64 x.src ∧ inI64 x.op ∧ inI64 x.dst
  len := by rintro w F cs x ⟨rfl, h0, h1, h2⟩; rfl
  one := by rintro w F cs x ⟨rfl, h0, h1, h2⟩ u hu; simp at hu; rcases hu with rfl | rfl | rfl <;> first | rfl | exact Vb.one rfl (by assumption)
  agree := by rintro w w' F cs x ⟨rfl, h0, h1, h2⟩ ha; exact ⟨rfl, h0, h1, h2⟩
  mono := by rintro w F G cs x ⟨rfl, h0, h1, h2⟩ ha; exact ⟨rfl, h0, h1, h2⟩
noncomputable def m_base_States (x0 : List Int) : Option (List (List Int)) :=
  bnd (rng (ρ := (List (List Int))) (fun (k24 : Nat) (a25 : Int) (s22 : (List (List Int))) => bnd (rng (ρ := Ctl (List (List Int)) (List (List Int))) (fun (k53 : Nat) (a54 : List Int) (s51 : (List (List Int))) => bnd (natI a25) fun N92 => bnd (rngN (ρ := Ctl (List (List Int)) (Ctl (List (List Int)) (List (List Int)))) (fun (k83 : Nat) (s81 : (List (List Int))) => bnd (appI 8 ([] : List Int) a54) fun u104 => bnd (appI 8 u104 [(k83 : Int)]) fun u115 => bnd (appI 24 s81 [u115]) fun u129 => some (.next u129)) N92 s51) fun res79 => fin res79 fun (s145 : (List (List Int))) => some (.next s145)) s22 0 ([] : List (List Int))) fun res49 => fin res49 fun (s151 : (List (List Int))) => some (.next s151)) x0 0 [([] : List Int)]) fun res20 => fin res20 fun (s159 : (List (List Int))) => some s159
theorem c_base_States {w : World} {A : Nat → Prop} (hA : ∀ k, A k → k < w.heap.size) {vx0 : Value} {x0 : List Int} (hx0 : Vb w A vx0 x0) {r : (List (List Int))} (hm : m_base_States x0 = some r) :
    Fn Try.prog 45 [vx0] w fun v w' => Ext w w' ∧ Vb w' (upA A w w') v r := by
 obtain ⟨O, hB, hA0⟩ := enter hA
 replace hx0 := hx0.mono hA0
 obtain ⟨A2, c3, rfl⟩ := hx0.form
 refine fn_enter Try.func45 rfl Try.ntmps45 rfl ?_
 unfold m_base_States at hm
 refine ewp_seq (ewp_region (o_as rfl rfl (o_z ?_)))
 refine ewp_seq (ewp_region (l_bslice 2 (by decide) O (xs := (([] : List Int) : List Int)) rfl rfl rfl rfl trivial (by decide) (by decide) rfl fun g4 w5 O6 S7 h8 => ?_))
 obtain ⟨O10, S11, h8⟩ := h8.freeze
 refine l_bslice 3 (by decide) O10 (xs := ([([] : List Int)] : List (List Int))) rfl rfl rfl rfl ⟨h8, trivial⟩ (by decide) (by decide) rfl fun g12 w13 O14 S15 h16 => ?_
 refine o_as rfl rfl (o_z ?_)
 refine ewp_seq (ewp_seq (ewp_region (o_mv rfl rfl (o_ln rfl rfl ?_))))
 replace hx0 := ((hx0.st S7).st S11).st S15
 have l19 : x0.length ≤ 9223372036854775807 := Nat.le_trans hx0.len.2.1 hx0.len.2.2
 have r18 : inI64 (x0.length : Int) := rngNat l19
 refine o_mv rfl rfl (o_z ?_)
 obtain ⟨res20, hL21, hm⟩ := bs hm
 refine ewp_join (aft res20 (fun (s22 : (List (List Int))) (x23 : (Option Addr × Nat)) => [(3, (.slice x23.1 s22.length x23.2))]) (fun s22 x23 w' => ∃ O' : Lab, Bs w A w' O' ∧ Vb w' (Fr 0 w' O') (.slice x23.1 s22.length x23.2) s22)) ?_ ?_
 ·
  refine ewp_block ?_
  obtain ⟨O37, S38, h16⟩ := h16.freeze
  replace hB := (((hB.st S7).st S11).st S15).st S38
  replace hx0 := hx0.st S38
  refine ewp_rng (σ := (List (List Int))) (X := (Option Addr × Nat)) (x0.length) hL21 rfl l19 (fun (s22 : (List (List Int))) (x23 : (Option Addr × Nat)) => [(3, (.slice x23.1 s22.length x23.2)), (12, (.slice A2 x0.length c3))]) _ (fun s22 x23 w' => ∃ O' : Lab, Bs w A w' O' ∧ Vb w' (Fr 0 w' O') (.slice x23.1 s22.length x23.2) s22 ∧ Vb w' (Fr 0 w' O') (.slice A2 x0.length c3) x0) _ ((some ⟨g12, 0, none⟩), 1) ⟨O37, hB, h16, hx0⟩ ⟨rfl, rfl, rfl, rfl, trivial⟩ (fun _ _ => ⟨rfl, rfl⟩) (fun _ _ => ⟨rfl, trivial⟩) (fun _ _ _ ⟨O', hB, h36, hx0⟩ => ⟨O', hB, h36⟩) ⟨rfl, rfl, rfl⟩ ⟨rfl, rfl⟩ ?_
  rintro k24 a25 s22 x23 w26 cc28 hx29 ⟨O27, hB, h36, hx0⟩ hf30 hret31 hbrk32
  have rk24 : inI64 (k24 : Int) := rngK hx29 l19
  refine ewp_seq (ewp_region ?_)
  obtain ⟨b39, o40, ce41, hA42, hl43, hd44, rfl, r46⟩ := hx0.elem' hx29
  refine o_iaE (hA := hA42) (hj := rfl) (hlt := hl43) rfl rfl rfl ?_
  refine o_ld (hc := cat0 hd44) rfl rfl ?_
  refine o_as rfl rfl (o_z ?_)
  refine ewp_seq (ewp_region (o_as rfl rfl (o_z ?_)))
  refine ewp_seq (ewp_seq (ewp_region (o_mv rfl rfl (o_ln rfl rfl ?_))))
  have l48 : s22.length ≤ 9223372036854775807 := Nat.le_trans h36.len.2.1 h36.len.2.2
  have r47 : inI64 (s22.length : Int) := rngNat l48
  refine o_mv rfl rfl (o_z ?_)
  obtain ⟨res49, hL50, hf30⟩ := bs hf30
  refine ewp_join (aft res49 (fun (s51 : (List (List Int))) (x52 : (Option Addr × Nat)) => [(6, (.slice x52.1 s51.length x52.2)), (12, (.slice A2 x0.length c3)), (13, (.int .i64 (x0.length : Int))), (14, (.int .i64 (k24 : Int)))]) (fun s51 x52 w' => ∃ O' : Lab, Bs w A w' O' ∧ Rw 5 w' O' 22 (.slice x52.1 s51.length x52.2) s51 ∧ Vb w' (Fr 0 w' O') (.slice A2 x0.length c3) x0)) ?_ ?_
  ·
   refine ewp_block (ewp_rng (σ := (List (List Int))) (X := (Option Addr × Nat)) (s22.length) hL50 rfl l48 (fun (s51 : (List (List Int))) (x52 : (Option Addr × Nat)) => [(5, (.int .i64 a25)), (6, (.slice x52.1 s51.length x52.2)), (12, (.slice A2 x0.length c3)), (13, (.int .i64 (x0.length : Int))), (14, (.int .i64 (k24 : Int))), (18, (.slice x23.1 s22.length x23.2))]) _ (fun s51 x52 w' => ∃ O' : Lab, Bs w A w' O' ∧ Rw 5 w' O' 22 (.slice x52.1 s51.length x52.2) s51 ∧ Vb w' (Fr 0 w' O') (.slice A2 x0.length c3) x0 ∧ Vb w' (Fr 0 w' O') (.slice x23.1 s22.length x23.2) s22) _ (none, 0) ⟨O27, hB, (Rw.nil 5 (by decide)), hx0, h36⟩ ⟨rfl, rfl, rfl, rfl, rfl, rfl, rfl, rfl, trivial⟩ (fun _ _ => ⟨rfl, rfl⟩) (fun _ _ => ⟨rfl, rfl, rfl, rfl, trivial⟩) (fun _ _ _ ⟨O', hB, h66, hx0, h36⟩ => ⟨O', hB, h66, hx0⟩) ⟨rfl, rfl, rfl⟩ ⟨rfl, rfl⟩ ?_)
   rintro k53 a54 s51 x52 w55 cc57 hx58 ⟨O56, hB, h66, hx0, h36⟩ hf59 hret60 hbrk61
   have rk53 : inI64 (k53 : Int) := rngK hx58 l48
   refine ewp_seq (ewp_region ?_)
   obtain ⟨b68, o69, ce70, hA71, hl72, hd73, v75, rfl, h76⟩ := h36.elem' hx58
   replace h76 := Vb.of_slice h76
   obtain ⟨A77, c78, rfl⟩ := h76.form
   refine o_iaE (hA := hA71) (hj := rfl) (hlt := hl72) rfl rfl rfl ?_
   refine o_ld (hc := cat0 hd73) rfl rfl ?_
   refine o_as rfl rfl (o_z ?_)
   refine ewp_seq (ewp_region (o_mv rfl rfl (o_mv rfl rfl (o_z ?_))))
   obtain ⟨N92, hN93, hf59⟩ := bs hf59
   replace hN93 := natI_some hN93
   obtain ⟨res79, hL80, hf59⟩ := bs hf59
   refine ewp_join (aft res79 (fun (s81 : (List (List Int))) (x82 : (Option Addr × Nat)) => [(5, (.int .i64 a25)), (6, (.slice x82.1 s81.length x82.2)), (12, (.slice A2 x0.length c3)), (13, (.int .i64 (x0.length : Int))), (14, (.int .i64 (k24 : Int))), (18, (.slice x23.1 s22.length x23.2)), (19, (.int .i64 (s22.length : Int))), (20, (.int .i64 (k53 : Int)))]) (fun s81 x82 w' => ∃ O' : Lab, Bs w A w' O' ∧ Rw 5 w' O' 22 (.slice x82.1 s81.length x82.2) s81 ∧ Vb w' (Fr 0 w' O') (.slice A2 x0.length c3) x0 ∧ Vb w' (Fr 0 w' O') (.slice x23.1 s22.length x23.2) s22)) ?_ ?_
   ·
    refine ewp_block (ewp_rngN (σ := (List (List Int))) (X := (Option Addr × Nat)) N92 hL80 (natI_le hN93 r46) (fun (s81 : (List (List Int))) (x82 : (Option Addr × Nat)) => [(5, (.int .i64 a25)), (6, (.slice x82.1 s81.length x82.2)), (8, (.slice A77 a54.length c78)), (12, (.slice A2 x0.length c3)), (13, (.int .i64 (x0.length : Int))), (14, (.int .i64 (k24 : Int))), (18, (.slice x23.1 s22.length x23.2)), (19, (.int .i64 (s22.length : Int))), (20, (.int .i64 (k53 : Int)))]) _ (fun s81 x82 w' => ∃ O' : Lab, Bs w A w' O' ∧ Rw 5 w' O' 22 (.slice x82.1 s81.length x82.2) s81 ∧ Vb w' (Fr 0 w' O') (.slice A77 a54.length c78) a54 ∧ Vb w' (Fr 0 w' O') (.slice A2 x0.length c3) x0 ∧ Vb w' (Fr 0 w' O') (.slice x23.1 s22.length x23.2) s22) _ (x52.1, x52.2) ⟨O56, hB, h66, h76, hx0, h36⟩ ⟨rfl, (congrArg (fun z => some (Value.int .i64 z)) hN93), rfl, rfl, rfl, rfl, rfl, rfl, rfl, rfl, rfl, trivial⟩ (fun _ _ => ⟨rfl, rfl⟩) (fun _ _ => ⟨rfl, rfl, rfl, rfl, rfl, rfl, rfl, rfl, trivial⟩) (fun _ _ _ ⟨O', hB, h96, h76, hx0, h36⟩ => ⟨O', hB, h96, hx0, h36⟩) ⟨rfl, rfl, rfl⟩ ⟨rfl, rfl⟩ ?_)
    rintro k83 s81 x82 w85 cc87 hx88 ⟨O86, hB, h96, h76, hx0, h36⟩ hf89 hret90 hbrk91
    have rk83 : inI64 (k83 : Int) := rngKN hx88 (natI_le hN93 r46)
    refine ewp_seq (ewp_region (o_mv rfl rfl (o_as rfl rfl (o_z ?_))))
    refine ewp_region (o_mv rfl rfl (l_bslice 4 (by decide) O86 (xs := (([] : List Int) : List Int)) rfl rfl rfl rfl trivial (by decide) (by decide) rfl fun g98 w99 O100 S101 h102 => ?_))
    refine o_mv rfl rfl ?_
    obtain ⟨u104, e105, hf89⟩ := bs hf89
    obtain ⟨e105, e106, e107⟩ := appI_some e105
    replace h76 := h76.st S101
    refine l_append rfl h102 (h76.rd) rfl rfl (by decide) e106 e107 rfl fun A108 c109 w110 O111 S112 h113 => ?_
    rw [← e105] at h113 ⊢
    refine o_mv rfl rfl ?_
    obtain ⟨u115, e116, hf89⟩ := bs hf89
    obtain ⟨e116, e117, e118⟩ := appI_some e116
    refine l_append1 rfl (a := (k83 : Int)) h113 (vInt rk83) (fun _ => rfl) rfl (by decide) (by decide) e117 e118 ⟨rfl, rfl⟩ fun g119 A120 c121 w122 O123 S124 h125 => ?_
    rw [← e116] at h125 ⊢
    obtain ⟨O127, S128, h125⟩ := h125.freeze
    obtain ⟨u129, e130, hf89⟩ := bs hf89
    obtain ⟨e130, e131, e132⟩ := appI_some e130
    replace h96 := (((h96.st S101).st S112).st S124).st S128
    refine l_append1 rfl (a := u115) h96 h125 (fun _ => rfl) rfl (by decide) (by decide) e131 e132 ⟨rfl, rfl⟩ fun g133 A134 c135 w136 O137 S138 h139 => ?_
    rw [← e130] at h139 ⊢
    refine o_as rfl rfl (o_z ?_)
    obtain rfl := sm hf89
    refine (?_ : Exists _)
    replace hx0 := ((((hx0.st S101).st S112).st S124).st S128).st S138
    replace hB := ((((hB.st S101).st S112).st S124).st S128).st S138
    replace h36 := ((((h36.st S101).st S112).st S124).st S128).st S138
    replace h76 := (((h76.st S112).st S124).st S128).st S138
    exact ⟨_, (A134, c135), rfl, ⟨rfl, rfl, rfl, rfl, rfl, rfl, rfl, rfl, rfl, rfl, rfl, trivial⟩, _, hB, h139, h76, hx0, h36⟩
   rintro l141 w142 ⟨s145, x146, rfl, hs144, O143, hB, h96, hx0, h36⟩
   replace hf59 := fin_done hf59
   obtain rfl := sm hf59
   refine (?_ : Exists _)
   exact ⟨_, (x146.1, x146.2), rfl, ⟨(subs_lk hs144 _ _ rfl), (subs_lk hs144 _ _ rfl), (subs_lk hs144 _ _ rfl), (subs_lk hs144 _ _ rfl), (subs_lk hs144 _ _ rfl), (subs_lk hs144 _ _ rfl), (subs_lk hs144 _ _ rfl), (subs_lk hs144 _ _ rfl), trivial⟩, _, hB, h96, hx0, h36⟩
  rintro l147 w148 ⟨s151, x152, rfl, hs150, O149, hB, h66, hx0⟩
  replace hf30 := fin_done hf30
  refine ewp_sub _ hs150 ?_
  refine ewp_region (o_mv rfl rfl (o_as rfl rfl (o_z ?_)))
  obtain ⟨O153, S154, h66⟩ := h66.freeze
  obtain rfl := sm hf30
  refine (?_ : Exists _)
  replace hB := hB.st S154
  replace hx0 := hx0.st S154
  exact ⟨_, (x152.1, x152.2), rfl, ⟨rfl, rfl, rfl, rfl, trivial⟩, _, hB, h66, hx0⟩
 replace hB := ((hB.st S7).st S11).st S15
 rintro l155 w156 ⟨s159, x160, rfl, hs158, O157, hB, h36⟩
 replace hm := fin_done hm
 refine ewp_sub _ hs158 ?_
 refine ewp_seq (ewp_region (o_mv rfl rfl (o_as rfl rfl (o_z ?_))))
 refine ewp_ret ?_
 obtain rfl := sm hm
 exact ret1v rfl (res_tmp rfl) ⟨hB.ext, (Vb.mono (F := Fr 0 w156 O157) h36 hB.out)⟩
noncomputable def m_base_Apply (x0 : Tsk) (x1 : List Int) (x2 : Int) : Option ((List Int) × Bool) :=
  bnd (if x2 < 0 then (some true) else (if (x0.ops.length : Int) ≤ x2 then (some true) else (bnd (atI x0.ops x2) fun a36 => bnd (m_base_Holds a36.pre x1) fun q57 => if q57 = true then some false else some true)) : Option Bool) fun y28 => if y28 = true then (some (([] : List Int), false)) else (bnd (appI 8 ([] : List Int) x1) fun u75 => bnd (atI x0.ops x2) fun a86 => bnd (rng (ρ := (List Int) × Bool) (fun (k113 : Nat) (a114 : Eff) (s111 : (List Int)) => bnd (m_base_Holds a114.cond x1) fun q148 => if q148 = true then bnd (atI s111 a114.var) fun a155 => some (.next (s111.set (a114.var : Int).toNat a114.val)) else some (.next s111)) a86.effs 0 u75) fun res109 => fin res109 fun (s173 : (List Int)) => some (s173, true))
theorem c_base_Apply {w : World} {A : Nat → Prop} (hA : ∀ k, A k → k < w.heap.size) {vx0 : Value} {x0 : Tsk} (hx0 : Vb w A vx0 x0) {vx1 : Value} {x1 : List Int} (hx1 : Vb w A vx1 x1) {x2 : Int} (rx2 : inI64 x2) {r : (List Int) × Bool} (hm : m_base_Apply x0 x1 x2 = some r) :
    Fn Try.prog 19 [vx0, vx1, (.int .i64 x2)] w fun v w' => Ext w w' ∧ T2 w' (upA A w w') v r := by
 obtain ⟨O, hB, hA0⟩ := enter hA
 replace hx0 := hx0.mono hA0
 obtain ⟨cs4, rfl, v5, v6, v7, v8, rfl, h9, h12, h15, h18⟩ := hx0
 obtain ⟨A10, c11, rfl⟩ := h9.form
 obtain ⟨A13, c14, rfl⟩ := h12.form
 obtain ⟨A16, c17, rfl⟩ := h15.form
 obtain ⟨A19, c20, rfl⟩ := h18.form
 replace hx1 := hx1.mono hA0
 obtain ⟨A21, c22, rfl⟩ := hx1.form
 refine fn_enter Try.func19 rfl Try.ntmps19 rfl ?_
 unfold m_base_Apply at hm
 refine ewp_seq (ewp_region (l_box 2 O rfl rfl fun g23 w24 O25 S26 h27 => ?_))
 replace h27 : Lc 2 w24 O25 g23 26 [(.slice A10 x0.vars.length c11), (.slice A13 x0.init.length c14), (.slice A16 x0.goal.length c17), (.slice A19 x0.ops.length c20)] := h27
 refine o_as rfl rfl (o_as rfl rfl (o_z ?_))
 refine ewp_seq (ewp_seq ?_)
 obtain ⟨y28, hy29, hm⟩ := bs hm
 refine ewp_join (fun l' w' => ∃ (x31 : Unit) (O' : Lab), subs l' [(1, (.slice A21 x1.length c22)), (2, (.int .i64 x2)), (3, (.pointer (some ⟨g23, 0, none⟩))), (30, (.bool y28))] ∧ Bs w A w' O' ∧ Vb w' (Fr 0 w' O') (.slice A21 x1.length c22) x1 ∧ Lc 2 w' O' g23 26 [(.slice A10 x0.vars.length c11), (.slice A13 x0.init.length c14), (.slice A16 x0.goal.length c17), (.slice A19 x0.ops.length c20)] ∧ Vb w' (Fr 0 w' O') (.slice A10 x0.vars.length c11) x0.vars ∧ Vb w' (Fr 0 w' O') (.slice A13 x0.init.length c14) x0.init ∧ Vb w' (Fr 0 w' O') (.slice A16 x0.goal.length c17) x0.goal ∧ Vb w' (Fr 0 w' O') (.slice A19 x0.ops.length c20) x0.ops) ?_ ?_
 ·
  refine ewp_region (o_mv rfl rfl (o_ltS rfl rfl rfl (fun c32 => ?_) fun c32 => ?_))
  ·
   replace hy29 := ip hy29 c32
   refine o_mv rfl rfl (owp_no rfl rfl rfl rfl (owp_no rfl rfl rfl rfl (owp_no rfl rfl rfl rfl (owp_no rfl rfl rfl rfl (owp_no rfl rfl rfl rfl (o_pt rfl rfl rfl (o_mv rfl rfl (owp_no rfl rfl rfl rfl (owp_no rfl rfl rfl rfl (owp_no rfl rfl rfl rfl (owp_no rfl rfl rfl rfl (owp_no rfl rfl rfl rfl (owp_no rfl rfl rfl rfl (owp_no rfl rfl rfl rfl ?_))))))))))))))
   refine owp_no rfl rfl rfl rfl (owp_no rfl rfl rfl rfl (o_pt rfl rfl rfl (o_z ?_)))
   obtain rfl := sm hy29
   replace hB := hB.st S26
   replace hx1 := hx1.st S26
   replace h9 := h9.st S26
   replace h12 := h12.st S26
   replace h15 := h15.st S26
   replace h18 := h18.st S26
   exact ⟨(), _, ⟨rfl, rfl, rfl, rfl, trivial⟩, hB, hx1, h27, h9, h12, h15, h18⟩
  ·
   replace hy29 := im hy29 c32
   refine o_mv rfl rfl (owp_yes rfl rfl (o_mv rfl rfl (owp_yes rfl rfl (o_fa rfl rfl (owp_yes rfl rfl (o_ld (hc := Blk.cell (i := 3) (h27.1) rfl) rfl rfl ?_))))))
   refine owp_yes rfl rfl (o_ln rfl rfl ?_)
   replace h18 := h18.st S26
   have l34 : x0.ops.length ≤ 9223372036854775807 := Nat.le_trans h18.len.2.1 h18.len.2.2
   have r33 : inI64 (x0.ops.length : Int) := rngNat l34
   refine owp_yes rfl rfl (o_geS rfl rfl rfl (fun c35 => ?_) fun c35 => ?_)
   ·
    replace hy29 := ip hy29 c35
    refine o_pf rfl rfl rfl (o_mv rfl rfl (owp_no rfl rfl rfl rfl (owp_no rfl rfl rfl rfl (owp_no rfl rfl rfl rfl (owp_no rfl rfl rfl rfl (owp_no rfl rfl rfl rfl (owp_no rfl rfl rfl rfl (owp_no rfl rfl rfl rfl (owp_no rfl rfl rfl rfl (owp_no rfl rfl rfl rfl (o_pt rfl rfl rfl (o_z ?_))))))))))))
    obtain rfl := sm hy29
    replace hB := hB.st S26
    replace hx1 := hx1.st S26
    replace h9 := h9.st S26
    replace h12 := h12.st S26
    replace h15 := h15.st S26
    exact ⟨(), _, ⟨rfl, rfl, rfl, rfl, trivial⟩, hB, hx1, h27, h9, h12, h15, h18⟩
   ·
    replace hy29 := im hy29 c35
    refine o_pf rfl rfl rfl (o_mv rfl rfl (owp_yes rfl rfl (o_fa rfl rfl (owp_yes rfl rfl (o_ld (hc := Blk.cell (i := 3) (h27.1) rfl) rfl rfl ?_)))))
    refine owp_yes rfl rfl (o_mv rfl rfl (owp_yes rfl rfl ?_))
    obtain ⟨a36, e37, hy29⟩ := bs hy29
    obtain ⟨p39, x38⟩ := atI_some' e37
    obtain ⟨b40, o41, ce42, hA43, hl44, hd45, v47, v48, rfl, h49, h52, r55, z56⟩ := h18.elem' x38
    obtain ⟨A50, c51, rfl⟩ := h49.form
    obtain ⟨A53, c54, rfl⟩ := h52.form
    refine o_iaE (hA := hA43) (hj := (Int.toNat_of_nonneg p39).symm) (hlt := hl44) rfl rfl rfl ?_
    refine owp_yes rfl rfl (o_fa rfl rfl (owp_yes rfl rfl (o_ld (hc := cat2 hd45) rfl rfl ?_)))
    refine owp_yes rfl rfl (o_mv rfl rfl (owp_yes rfl rfl ?_))
    obtain ⟨q57, e58, hy29⟩ := bs hy29
    replace hx1 := hx1.st S26
    refine l_callA (O := O25) (A := All w24) (R := fun w' F v => Vb w' F v q57) (c_base_Holds (fun _ h => h) (Vb.mono (F := Fr 0 w24 O25) h49 Fr.lt) (Vb.mono (F := Fr 0 w24 O25) hx1 Fr.lt) e58) rfl rfl fun v63 w59 O60 S61 h62 => ?_
    obtain rfl := h62.bool
    cases q57
    case false =>
     replace hy29 := iF hy29
     refine owp_yes rfl rfl (o_nf rfl rfl (o_pf rfl rfl rfl (o_z ?_)))
     obtain rfl := sm hy29
     replace hB := (hB.st S26).st S61
     replace hx1 := hx1.st S61
     replace h9 := (h9.st S26).st S61
     replace h12 := (h12.st S26).st S61
     replace h15 := (h15.st S26).st S61
     replace h18 := h18.st S61
     replace h27 := h27.st S61
     exact ⟨(), _, ⟨rfl, rfl, rfl, rfl, trivial⟩, hB, hx1, h27, h9, h12, h15, h18⟩
    replace hy29 := iT hy29
    refine owp_yes rfl rfl (o_nt rfl rfl (o_pf rfl rfl rfl (o_z ?_)))
    obtain rfl := sm hy29
    replace hB := (hB.st S26).st S61
    replace hx1 := hx1.st S61
    replace h9 := (h9.st S26).st S61
    replace h12 := (h12.st S26).st S61
    replace h15 := (h15.st S26).st S61
    replace h18 := h18.st S61
    replace h27 := h27.st S61
    exact ⟨(), _, ⟨rfl, rfl, rfl, rfl, trivial⟩, hB, hx1, h27, h9, h12, h15, h18⟩
 replace hB := hB.st S26
 replace hx1 := hx1.st S26
 replace h9 := h9.st S26
 replace h12 := h12.st S26
 replace h15 := h15.st S26
 replace h18 := h18.st S26
 rintro l64 w65 ⟨x31, O66, hs67, hB, hx1, h27, h9, h12, h15, h18⟩
 refine ewp_sub _ hs67 ?_
 refine ewp_cond rfl (fun c68 => ?_) (fun c68 => ?_)
 ·
  replace hm := ip hm c68
  refine ewp_seq (ewp_region (o_as rfl rfl (o_as rfl rfl (o_z ?_))))
  refine ewp_ret ?_
  obtain rfl := sm hm
  exact ret2 rfl (res_tmp rfl) (res_tmp rfl) ⟨hB.ext, _, _, rfl, (Vb.mono (F := Fr 0 w65 O66) (Vb.nil _ _) hB.out), vBool⟩
 ·
  replace hm := im' hm c68
  refine ewp_skip (ewp_seq (ewp_region (l_bslice 3 (by decide) O66 (xs := (([] : List Int) : List Int)) rfl rfl rfl rfl trivial (by decide) (by decide) rfl fun g69 w70 O71 S72 h73 => ?_)))
  refine o_mv rfl rfl ?_
  obtain ⟨u75, e76, hm⟩ := bs hm
  obtain ⟨e76, e77, e78⟩ := appI_some e76
  replace hx1 := hx1.st S72
  refine l_append rfl h73 (hx1.rd) rfl rfl (by decide) e77 e78 rfl fun A79 c80 w81 O82 S83 h84 => ?_
  rw [← e76] at h84 ⊢
  refine o_as rfl rfl (o_z ?_)
  refine ewp_seq (ewp_seq (ewp_region (o_fa rfl rfl ?_)))
  replace h27 := (h27.st S72).st S83
  refine o_ld (hc := Blk.cell (i := 3) (h27.1) rfl) rfl rfl ?_
  refine o_mv rfl rfl ?_
  obtain ⟨a86, e87, hm⟩ := bs hm
  obtain ⟨p89, x88⟩ := atI_some' e87
  replace h18 := (h18.st S72).st S83
  obtain ⟨b90, o91, ce92, hA93, hl94, hd95, v97, v98, rfl, h99, h102, r105, z106⟩ := h18.elem' x88
  obtain ⟨A100, c101, rfl⟩ := h99.form
  obtain ⟨A103, c104, rfl⟩ := h102.form
  refine o_iaE (hA := hA93) (hj := (Int.toNat_of_nonneg p89).symm) (hlt := hl94) rfl rfl rfl ?_
  refine o_fa rfl rfl (o_ld (hc := cat3 hd95) rfl rfl ?_)
  refine o_ln rfl rfl ?_
  have l108 : a86.effs.length ≤ 9223372036854775807 := Nat.le_trans h102.len.2.1 h102.len.2.2
  have r107 : inI64 (a86.effs.length : Int) := rngNat l108
  refine o_mv rfl rfl (o_z ?_)
  obtain ⟨res109, hL110, hm⟩ := bs hm
  refine ewp_join (aft res109 (fun (s111 : (List Int)) (x112 : Unit) => [(8, (.slice A79 u75.length c80))]) (fun s111 x112 w' => ∃ O' : Lab, Bs w A w' O' ∧ Rw 3 w' O' 3 (.slice A79 u75.length c80) s111)) ?_ ?_
  ·
   refine ewp_block ?_
   replace hB := (hB.st S72).st S83
   replace hx1 := hx1.st S83
   refine ewp_rng (σ := (List Int)) (X := Unit) (a86.effs.length) hL110 rfl l108 (fun (s111 : (List Int)) (x112 : Unit) => [(1, (.slice A21 x1.length c22)), (8, (.slice A79 u75.length c80)), (39, (.slice A103 a86.effs.length c104))]) _ (fun s111 x112 w' => ∃ O' : Lab, Bs w A w' O' ∧ Vb w' (Fr 0 w' O') (.slice A21 x1.length c22) x1 ∧ Rw 3 w' O' 3 (.slice A79 u75.length c80) s111 ∧ Vb w' (Fr 0 w' O') (.slice A103 a86.effs.length c104) a86.effs) _ () ⟨O82, hB, hx1, h84, h102⟩ ⟨rfl, rfl, rfl, rfl, rfl, trivial⟩ (fun _ _ => ⟨rfl, rfl⟩) (fun _ _ => ⟨rfl, trivial⟩) (fun _ _ _ ⟨O', hB, hx1, h126, h102⟩ => ⟨O', hB, h126⟩) ⟨rfl, rfl, rfl⟩ ⟨rfl, rfl⟩ ?_
   rintro k113 a114 s111 x112 w115 cc117 hx118 ⟨O116, hB, hx1, h126, h102⟩ hf119 hret120 hbrk121
   have rk113 : inI64 (k113 : Int) := rngK hx118 l108
   refine ewp_seq (ewp_region ?_)
   obtain ⟨b128, o129, ce130, hA131, hl132, hd133, v135, rfl, h136, r139, r140⟩ := h102.elem' hx118
   obtain ⟨A137, c138, rfl⟩ := h136.form
   refine o_iaE (hA := hA131) (hj := rfl) (hlt := hl132) rfl rfl rfl ?_
   refine o_la (hl := rfl) (hc := hd133) rfl rfl ?_
   refine l_alloc 4 O116 rfl fun g141 w142 O143 S144 h145 => ?_
   refine l_store h145 rfl rfl rfl (Nat.le_of_ble_eq_true rfl) (by first | exact allOne rfl | simp [Value.cells, Value.oneCell', errV_one]) fun w146 S147 h145 => ?_
   replace h145 : Lc 4 w146 O143 g141 59 [(.slice A137 a114.cond.length c138), (.int .i64 a114.var), (.int .i64 a114.val)] := h145
   refine o_z ?_
   refine ewp_seq (ewp_region (o_fa rfl rfl (o_ld (hc := Blk.cell (i := 0) (h145.1) rfl) rfl rfl ?_)))
   refine o_mv rfl rfl ?_
   obtain ⟨q148, e149, hf119⟩ := bs hf119
   replace hx1 := (hx1.st S144).st S147
   replace h136 := (h136.st S144).st S147
   refine l_callA (O := O143) (A := All w146) (R := fun w' F v => Vb w' F v q148) (c_base_Holds (fun _ h => h) (Vb.mono (F := Fr 0 w146 O143) h136 Fr.lt) (Vb.mono (F := Fr 0 w146 O143) hx1 Fr.lt) e149) rfl rfl fun v154 w150 O151 S152 h153 => ?_
   obtain rfl := h153.bool
   cases q148
   case false =>
    replace hf119 := iF hf119
    refine o_z ?_
    refine ewp_false rfl (ewp_skip ?_)
    obtain rfl := sm hf119
    refine (?_ : Exists _)
    replace hB := ((hB.st S144).st S147).st S152
    replace hx1 := hx1.st S152
    replace h102 := ((h102.st S144).st S147).st S152
    replace h126 := ((h126.st S144).st S147).st S152
    exact ⟨_, (), rfl, ⟨rfl, rfl, rfl, rfl, rfl, trivial⟩, _, hB, hx1, h126, h102⟩
   replace hf119 := iT hf119
   refine o_z ?_
   refine ewp_true rfl (ewp_region (o_mv rfl rfl (o_fa rfl rfl ?_)))
   replace h145 := h145.st S152
   refine o_ld (hc := Blk.cell (i := 1) (h145.1) rfl) rfl rfl ?_
   refine o_fa rfl rfl (o_ld (hc := Blk.cell (i := 2) (h145.1) rfl) rfl rfl ?_)
   obtain ⟨a155, e156, hf119⟩ := bs hf119
   obtain ⟨p158, x157⟩ := atI_some' e156
   replace h126 := ((h126.st S144).st S147).st S152
   obtain ⟨b159, o160, ce161, hA162, hl163, hd164, rfl, r166⟩ := h126.elem x157
   refine o_iaE (hA := hA162) (hj := (Int.toNat_of_nonneg p158).symm) (hlt := hl163) rfl rfl rfl ?_
   refine l_setE rfl h126 (a := a114.val) (vInt r140) hA162 rfl rfl (lt_of_get x157) fun w167 S168 h126 => ?_
   refine o_z ?_
   obtain rfl := sm hf119
   refine (?_ : Exists _)
   replace hB := (((hB.st S144).st S147).st S152).st S168
   replace hx1 := (hx1.st S152).st S168
   replace h102 := (((h102.st S144).st S147).st S152).st S168
   exact ⟨_, (), rfl, ⟨rfl, rfl, rfl, rfl, rfl, trivial⟩, _, hB, hx1, h126, h102⟩
  replace hB := (hB.st S72).st S83
  rintro l169 w170 ⟨s173, x174, rfl, hs172, O171, hB, h126⟩
  replace hm := fin_done hm
  refine ewp_sub _ hs172 ?_
  refine ewp_seq (ewp_region (o_mv rfl rfl (o_as rfl rfl (o_as rfl rfl (o_z ?_)))))
  refine ewp_ret ?_
  obtain ⟨O175, S176, h126⟩ := h126.freeze
  obtain rfl := sm hm
  replace hB := hB.st S176
  exact ret2 rfl (res_tmp rfl) (res_tmp rfl) ⟨hB.ext, _, _, rfl, (Vb.mono (F := Fr 0 w170 O175) h126 hB.out), vBool⟩
noncomputable def m_base_Rank (x0 : List Int) (x1 : List Int) : Option Int :=
  bnd (rng (ρ := Int) (fun (k13 : Nat) (a14 : Int) (s11 : Int) => bnd (x0[k13]?) fun a26 => bnd (chkI (s11 * a26)) fun n36 => bnd (chkI (n36 + a14)) fun n47 => some (.next n47)) x1 0 0) fun res9 => fin res9 fun (s54 : Int) => some s54
theorem c_base_Rank {w : World} {A : Nat → Prop} (hA : ∀ k, A k → k < w.heap.size) {vx0 : Value} {x0 : List Int} (hx0 : Vb w A vx0 x0) {vx1 : Value} {x1 : List Int} (hx1 : Vb w A vx1 x1) {r : Int} (hm : m_base_Rank x0 x1 = some r) :
    Fn Try.prog 17 [vx0, vx1] w fun v w' => Ext w w' ∧ Vb w' (upA A w w') v r := by
 obtain ⟨O, hB, hA0⟩ := enter hA
 replace hx0 := hx0.mono hA0
 obtain ⟨A3, c4, rfl⟩ := hx0.form
 replace hx1 := hx1.mono hA0
 obtain ⟨A5, c6, rfl⟩ := hx1.form
 refine fn_enter Try.func17 rfl Try.ntmps17 rfl ?_
 unfold m_base_Rank at hm
 refine ewp_seq (ewp_region (o_as rfl rfl (o_z ?_)))
 refine ewp_seq (ewp_region (o_as rfl rfl (o_z ?_)))
 refine ewp_seq (ewp_seq (ewp_region (o_mv rfl rfl (o_ln rfl rfl ?_))))
 have l8 : x1.length ≤ 9223372036854775807 := Nat.le_trans hx1.len.2.1 hx1.len.2.2
 have r7 : inI64 (x1.length : Int) := rngNat l8
 refine o_mv rfl rfl (o_z ?_)
 obtain ⟨res9, hL10, hm⟩ := bs hm
 refine ewp_join (aft res9 (fun (s11 : Int) (x12 : Unit) => [(5, (.int .i64 s11))]) (fun s11 x12 w' => ∃ O' : Lab, Bs w A w' O' ∧ inI64 s11)) ?_ ?_
 ·
  refine ewp_block (ewp_rng (σ := Int) (X := Unit) (x1.length) hL10 rfl l8 (fun (s11 : Int) (x12 : Unit) => [(0, (.slice A3 x0.length c4)), (1, (.slice A5 x1.length c6)), (5, (.int .i64 s11))]) _ (fun s11 x12 w' => ∃ O' : Lab, Bs w A w' O' ∧ Vb w' (Fr 0 w' O') (.slice A3 x0.length c4) x0 ∧ Vb w' (Fr 0 w' O') (.slice A5 x1.length c6) x1 ∧ inI64 s11) _ () ⟨O, hB, hx0, hx1, (show inI64 (0) from by decide)⟩ ⟨rfl, rfl, rfl, rfl, rfl, trivial⟩ (fun _ _ => ⟨rfl, rfl⟩) (fun _ _ => ⟨rfl, trivial⟩) (fun _ _ _ ⟨O', hB, hx0, hx1, r25⟩ => ⟨O', hB, r25⟩) ⟨rfl, rfl, rfl⟩ ⟨rfl, rfl⟩ ?_)
  rintro k13 a14 s11 x12 w15 cc17 hx18 ⟨O16, hB, hx0, hx1, r25⟩ hf19 hret20 hbrk21
  have rk13 : inI64 (k13 : Int) := rngK hx18 l8
  refine ewp_seq (ewp_region (o_mv rfl rfl (o_as rfl rfl (o_z ?_))))
  refine ewp_draw (· = w15) [(0, true), (1, true), (2, true), (3, true), (4, true), (5, true), (6, true), (7, true), (8, true), (9, true), (10, true), (11, true)] (by kernel_rfl) rfl (by kernel_rfl) rfl ?_
  refine h_mv rfl rfl rfl (h_mv rfl rfl rfl (h_mv rfl rfl rfl ?_))
  obtain ⟨a26, e27, hf19⟩ := bs hf19
  obtain ⟨b28, o29, ce30, hA31, hl32, hd33, rfl, r35⟩ := hx0.elem' e27
  refine h_iaE (hA := hA31) (hj := rfl) (hlt := hl32) rfl rfl rfl rfl ?_
  refine h_ldA (hc := cat0 hd33) rfl rfl rfl ?_
  obtain ⟨n36, e37, hf19⟩ := bs hf19
  have r38 := (chkI_rng e37)
  refine h_mlE (he := e37) rfl rfl rfl rfl ?_
  refine h_mv rfl rfl rfl (h_mv rfl rfl rfl ?_)
  obtain ⟨b39, o40, ce41, hA42, hl43, hd44, rfl, r46⟩ := hx1.elem' hx18
  refine h_iaE (hA := hA42) (hj := rfl) (hlt := hl43) rfl rfl rfl rfl ?_
  refine h_ldA (hc := cat0 hd44) rfl rfl rfl ?_
  obtain ⟨n47, e48, hf19⟩ := bs hf19
  have r49 := (chkI_rng e48)
  refine h_adE (he := e48) rfl rfl rfl rfl ?_
  refine h_as rfl rfl rfl (h_z ?_)
  obtain rfl := sm hf19
  refine (?_ : Exists _)
  exact ⟨_, (), rfl, ⟨rfl, rfl, rfl, rfl, rfl, trivial⟩, _, hB, hx0, hx1, r49⟩
 rintro l50 w51 ⟨s54, x55, rfl, hs53, O52, hB, r25⟩
 replace hm := fin_done hm
 refine ewp_sub _ hs53 ?_
 refine ewp_seq (ewp_region (o_mv rfl rfl (o_as rfl rfl (o_z ?_))))
 refine ewp_ret ?_
 obtain rfl := sm hm
 exact ret1v rfl (res_tmp rfl) ⟨hB.ext, (vInt r25)⟩
noncomputable def m_base_Edges (x0 : Tsk) : Option (List Edg) :=
  bnd (m_base_States x0.vars) fun q24 => bnd (rng (ρ := (List Edg)) (fun (k39 : Nat) (a40 : List Int) (s37 : (List Edg)) => bnd (rng (ρ := Ctl (List Edg) (List Edg)) (fun (k71 : Nat) (a72 : Opr) (s69 : (List Edg)) => bnd (m_base_Apply x0 a40 (k71 : Int)) fun q86 => if q86.2 = true then (bnd (m_base_Rank x0.vars q86.1) fun q100 => bnd (appI 24 s69 [(⟨(k39 : Int), (k71 : Int), q100⟩ : Edg)]) fun u108 => some (.next u108)) else (some (.next s69))) x0.ops 0 s37) fun res67 => fin res67 fun (s124 : (List Edg)) => some (.next s124)) q24 0 ([] : List Edg)) fun res35 => fin res35 fun (s130 : (List Edg)) => some s130
theorem c_base_Edges {w : World} {A : Nat → Prop} (hA : ∀ k, A k → k < w.heap.size) {vx0 : Value} {x0 : Tsk} (hx0 : Vb w A vx0 x0) {r : (List Edg)} (hm : m_base_Edges x0 = some r) :
    Fn Try.prog 46 [vx0] w fun v w' => Ext w w' ∧ Vb w' (upA A w w') v r := by
 obtain ⟨O, hB, hA0⟩ := enter hA
 replace hx0 := hx0.mono hA0
 obtain ⟨cs2, rfl, v3, v4, v5, v6, rfl, h7, h10, h13, h16⟩ := hx0
 obtain ⟨A8, c9, rfl⟩ := h7.form
 obtain ⟨A11, c12, rfl⟩ := h10.form
 obtain ⟨A14, c15, rfl⟩ := h13.form
 obtain ⟨A17, c18, rfl⟩ := h16.form
 refine fn_enter Try.func46 rfl Try.ntmps46 rfl ?_
 unfold m_base_Edges at hm
 refine ewp_seq (ewp_region (l_box 2 O rfl rfl fun g19 w20 O21 S22 h23 => ?_))
 replace h23 : Lc 2 w20 O21 g19 26 [(.slice A8 x0.vars.length c9), (.slice A11 x0.init.length c12), (.slice A14 x0.goal.length c15), (.slice A17 x0.ops.length c18)] := h23
 refine o_as rfl rfl (o_z ?_)
 refine ewp_seq (ewp_region (o_as rfl rfl (o_z ?_)))
 refine ewp_seq (ewp_seq (ewp_region (o_fa rfl rfl (o_ld (hc := Blk.cell (i := 0) (h23.1) rfl) rfl rfl ?_))))
 obtain ⟨q24, e25, hm⟩ := bs hm
 replace h7 := h7.st S22
 refine l_call (O := O21) (R := fun w' F v => Vb w' F v q24) (c_base_States Fr.lt h7 e25) rfl rfl fun v30 w26 O27 S28 h29 => ?_
 obtain ⟨A31, c32, rfl⟩ := h29.form
 refine o_ln rfl rfl ?_
 have l34 : q24.length ≤ 9223372036854775807 := Nat.le_trans h29.len.2.1 h29.len.2.2
 have r33 : inI64 (q24.length : Int) := rngNat l34
 refine o_mv rfl rfl (o_z ?_)
 obtain ⟨res35, hL36, hm⟩ := bs hm
 refine ewp_join (aft res35 (fun (s37 : (List Edg)) (x38 : (Option Addr × Nat)) => [(3, (.slice x38.1 s37.length x38.2))]) (fun s37 x38 w' => ∃ O' : Lab, Bs w A w' O' ∧ Rw 3 w' O' 93 (.slice x38.1 s37.length x38.2) s37)) ?_ ?_
 ·
  refine ewp_block ?_
  replace hB := (hB.st S22).st S28
  replace h7 := h7.st S28
  replace h10 := (h10.st S22).st S28
  replace h13 := (h13.st S22).st S28
  replace h16 := (h16.st S22).st S28
  replace h23 := h23.st S28
  refine ewp_rng (σ := (List Edg)) (X := (Option Addr × Nat)) (q24.length) hL36 rfl l34 (fun (s37 : (List Edg)) (x38 : (Option Addr × Nat)) => [(1, (.pointer (some ⟨g19, 0, none⟩))), (3, (.slice x38.1 s37.length x38.2)), (11, (.slice A31 q24.length c32))]) _ (fun s37 x38 w' => ∃ O' : Lab, Bs w A w' O' ∧ Lc 2 w' O' g19 26 [(.slice A8 x0.vars.length c9), (.slice A11 x0.init.length c12), (.slice A14 x0.goal.length c15), (.slice A17 x0.ops.length c18)] ∧ Vb w' (Fr 0 w' O') (.slice A8 x0.vars.length c9) x0.vars ∧ Vb w' (Fr 0 w' O') (.slice A11 x0.init.length c12) x0.init ∧ Vb w' (Fr 0 w' O') (.slice A14 x0.goal.length c15) x0.goal ∧ Vb w' (Fr 0 w' O') (.slice A17 x0.ops.length c18) x0.ops ∧ Rw 3 w' O' 93 (.slice x38.1 s37.length x38.2) s37 ∧ Vb w' (Fr 0 w' O') (.slice A31 q24.length c32) q24) _ (none, 0) ⟨O27, hB, h23, h7, h10, h13, h16, (Rw.nil 3 (by decide)), h29⟩ ⟨rfl, rfl, rfl, rfl, rfl, trivial⟩ (fun _ _ => ⟨rfl, rfl⟩) (fun _ _ => ⟨rfl, trivial⟩) (fun _ _ _ ⟨O', hB, h23, h7, h10, h13, h16, h52, h29⟩ => ⟨O', hB, h52⟩) ⟨rfl, rfl, rfl⟩ ⟨rfl, rfl⟩ ?_
  rintro k39 a40 s37 x38 w41 cc43 hx44 ⟨O42, hB, h23, h7, h10, h13, h16, h52, h29⟩ hf45 hret46 hbrk47
  have rk39 : inI64 (k39 : Int) := rngK hx44 l34
  refine ewp_seq (ewp_region (o_mv rfl rfl ?_))
  obtain ⟨b54, o55, ce56, hA57, hl58, hd59, v61, rfl, h62⟩ := h29.elem' hx44
  replace h62 := Vb.of_slice h62
  obtain ⟨A63, c64, rfl⟩ := h62.form
  refine o_iaE (hA := hA57) (hj := rfl) (hlt := hl58) rfl rfl rfl ?_
  refine o_ld (hc := cat0 hd59) rfl rfl ?_
  refine o_as rfl rfl (o_as rfl rfl (o_z ?_))
  refine ewp_seq (ewp_region (o_fa rfl rfl (o_ld (hc := Blk.cell (i := 3) (h23.1) rfl) rfl rfl ?_)))
  refine o_ln rfl rfl ?_
  have l66 : x0.ops.length ≤ 9223372036854775807 := Nat.le_trans h16.len.2.1 h16.len.2.2
  have r65 : inI64 (x0.ops.length : Int) := rngNat l66
  refine o_mv rfl rfl (o_z ?_)
  obtain ⟨res67, hL68, hf45⟩ := bs hf45
  refine ewp_join (aft res67 (fun (s69 : (List Edg)) (x70 : (Option Addr × Nat)) => [(1, (.pointer (some ⟨g19, 0, none⟩))), (3, (.slice x70.1 s69.length x70.2)), (11, (.slice A31 q24.length c32)), (12, (.int .i64 (q24.length : Int))), (13, (.int .i64 (k39 : Int)))]) (fun s69 x70 w' => ∃ O' : Lab, Bs w A w' O' ∧ Lc 2 w' O' g19 26 [(.slice A8 x0.vars.length c9), (.slice A11 x0.init.length c12), (.slice A14 x0.goal.length c15), (.slice A17 x0.ops.length c18)] ∧ Vb w' (Fr 0 w' O') (.slice A8 x0.vars.length c9) x0.vars ∧ Vb w' (Fr 0 w' O') (.slice A11 x0.init.length c12) x0.init ∧ Vb w' (Fr 0 w' O') (.slice A14 x0.goal.length c15) x0.goal ∧ Vb w' (Fr 0 w' O') (.slice A17 x0.ops.length c18) x0.ops ∧ Rw 3 w' O' 93 (.slice x70.1 s69.length x70.2) s69 ∧ Vb w' (Fr 0 w' O') (.slice A31 q24.length c32) q24)) ?_ ?_
  ·
   refine ewp_block (ewp_rng (σ := (List Edg)) (X := (Option Addr × Nat)) (x0.ops.length) hL68 rfl l66 (fun (s69 : (List Edg)) (x70 : (Option Addr × Nat)) => [(1, (.pointer (some ⟨g19, 0, none⟩))), (3, (.slice x70.1 s69.length x70.2)), (4, (.int .i64 (k39 : Int))), (5, (.slice A63 a40.length c64)), (11, (.slice A31 q24.length c32)), (12, (.int .i64 (q24.length : Int))), (13, (.int .i64 (k39 : Int)))]) _ (fun s69 x70 w' => ∃ O' : Lab, Bs w A w' O' ∧ Lc 2 w' O' g19 26 [(.slice A8 x0.vars.length c9), (.slice A11 x0.init.length c12), (.slice A14 x0.goal.length c15), (.slice A17 x0.ops.length c18)] ∧ Vb w' (Fr 0 w' O') (.slice A8 x0.vars.length c9) x0.vars ∧ Vb w' (Fr 0 w' O') (.slice A11 x0.init.length c12) x0.init ∧ Vb w' (Fr 0 w' O') (.slice A14 x0.goal.length c15) x0.goal ∧ Vb w' (Fr 0 w' O') (.slice A17 x0.ops.length c18) x0.ops ∧ Rw 3 w' O' 93 (.slice x70.1 s69.length x70.2) s69 ∧ Vb w' (Fr 0 w' O') (.slice A63 a40.length c64) a40 ∧ Vb w' (Fr 0 w' O') (.slice A31 q24.length c32) q24) _ (x38.1, x38.2) ⟨O42, hB, h23, h7, h10, h13, h16, h52, h62, h29⟩ ⟨rfl, rfl, rfl, rfl, rfl, rfl, rfl, rfl, rfl, trivial⟩ (fun _ _ => ⟨rfl, rfl⟩) (fun _ _ => ⟨rfl, rfl, rfl, rfl, rfl, trivial⟩) (fun _ _ _ ⟨O', hB, h23, h7, h10, h13, h16, h84, h62, h29⟩ => ⟨O', hB, h23, h7, h10, h13, h16, h84, h29⟩) ⟨rfl, rfl, rfl⟩ ⟨rfl, rfl⟩ ?_)
   rintro k71 a72 s69 x70 w73 cc75 hx76 ⟨O74, hB, h23, h7, h10, h13, h16, h84, h62, h29⟩ hf77 hret78 hbrk79
   have rk71 : inI64 (k71 : Int) := rngK hx76 l66
   refine ewp_seq (ewp_region (o_mv rfl rfl (o_as rfl rfl (o_z ?_))))
   refine ewp_seq (ewp_region (o_la (hl := rfl) (hc := (h23.1).cellsAt) rfl rfl ?_))
   refine o_mv rfl rfl (o_mv rfl rfl ?_)
   obtain ⟨q86, e87, hf77⟩ := bs hf77
   refine l_call (O := O74) (R := fun w' F v => T2 w' F v q86) (c_base_Apply Fr.lt (Vb.ofAgg (cs := [(.slice A8 x0.vars.length c9), (.slice A11 x0.init.length c12), (.slice A14 x0.goal.length c15), (.slice A17 x0.ops.length c18)]) (x := x0) rfl ⟨_, _, _, _, rfl, h7, h10, h13, h16⟩) h62 rk71 e87) rfl rfl fun v92 w88 O89 S90 h91 => ?_
   obtain ⟨v93, v94, rfl, h95, h96⟩ := h91
   obtain ⟨A97, c98, rfl⟩ := h95.form
   obtain rfl := h96.bool
   refine o_mv rfl rfl (o_ex rfl rfl rfl (o_ex rfl rfl rfl (o_as rfl rfl (o_as rfl rfl (o_z ?_)))))
   refine ewp_seq (ewp_region (o_mv rfl rfl (o_z ?_)))
   refine ewp_cond rfl (fun c99 => ?_) (fun c99 => ?_)
   ·
    replace hf77 := ip hf77 c99
    refine ewp_region (o_mv rfl rfl (o_mv rfl rfl (o_mv rfl rfl (o_fa rfl rfl ?_))))
    replace h23 := h23.st S90
    refine o_ld (hc := Blk.cell (i := 0) (h23.1) rfl) rfl rfl ?_
    refine o_mv rfl rfl ?_
    obtain ⟨q100, e101, hf77⟩ := bs hf77
    replace h7 := h7.st S90
    refine l_callA (O := O89) (A := All w88) (R := fun w' F v => Vb w' F v q100) (c_base_Rank (fun _ h => h) (Vb.mono (F := Fr 0 w88 O89) h7 Fr.lt) (Vb.mono (F := Fr 0 w88 O89) h95 Fr.lt) e101) rfl rfl fun v106 w102 O103 S104 h105 => ?_
    obtain ⟨rfl, r107⟩ := h105.int
    refine o_bd rfl rfl rfl ?_
    obtain ⟨u108, e109, hf77⟩ := bs hf77
    obtain ⟨e109, e110, e111⟩ := appI_some e109
    replace h84 := (h84.st S90).st S104
    refine l_append1 rfl (a := (⟨(k39 : Int), (k71 : Int), q100⟩ : Edg)) h84 (Vb.ofAgg (cs := [(.int .i64 (k39 : Int)), (.int .i64 (k71 : Int)), (.int .i64 q100)]) (x := (⟨(k39 : Int), (k71 : Int), q100⟩ : Edg)) rfl ⟨rfl, rk39, rk71, r107⟩) (fun _ => rfl) rfl (by decide) (by decide) e110 e111 ⟨rfl, rfl⟩ fun g112 A113 c114 w115 O116 S117 h118 => ?_
    rw [← e109] at h118 ⊢
    refine o_as rfl rfl (o_z ?_)
    obtain rfl := sm hf77
    refine (?_ : Exists _)
    replace hB := ((hB.st S90).st S104).st S117
    replace h7 := (h7.st S104).st S117
    replace h10 := ((h10.st S90).st S104).st S117
    replace h13 := ((h13.st S90).st S104).st S117
    replace h16 := ((h16.st S90).st S104).st S117
    replace h23 := (h23.st S104).st S117
    replace h29 := ((h29.st S90).st S104).st S117
    replace h62 := ((h62.st S90).st S104).st S117
    exact ⟨_, (A113, c114), rfl, ⟨rfl, rfl, rfl, rfl, rfl, rfl, rfl, rfl, rfl, trivial⟩, _, hB, h23, h7, h10, h13, h16, h118, h62, h29⟩
   ·
    replace hf77 := im' hf77 c99
    refine ewp_skip ?_
    obtain rfl := sm hf77
    refine (?_ : Exists _)
    replace hB := hB.st S90
    replace h7 := h7.st S90
    replace h10 := h10.st S90
    replace h13 := h13.st S90
    replace h16 := h16.st S90
    replace h23 := h23.st S90
    replace h29 := h29.st S90
    replace h62 := h62.st S90
    replace h84 := h84.st S90
    exact ⟨_, (x70.1, x70.2), rfl, ⟨rfl, rfl, rfl, rfl, rfl, rfl, rfl, rfl, rfl, trivial⟩, _, hB, h23, h7, h10, h13, h16, h84, h62, h29⟩
  rintro l120 w121 ⟨s124, x125, rfl, hs123, O122, hB, h23, h7, h10, h13, h16, h84, h29⟩
  replace hf45 := fin_done hf45
  obtain rfl := sm hf45
  refine (?_ : Exists _)
  exact ⟨_, (x125.1, x125.2), rfl, ⟨(subs_lk hs123 _ _ rfl), (subs_lk hs123 _ _ rfl), (subs_lk hs123 _ _ rfl), (subs_lk hs123 _ _ rfl), (subs_lk hs123 _ _ rfl), trivial⟩, _, hB, h23, h7, h10, h13, h16, h84, h29⟩
 replace hB := (hB.st S22).st S28
 rintro l126 w127 ⟨s130, x131, rfl, hs129, O128, hB, h52⟩
 replace hm := fin_done hm
 refine ewp_sub _ hs129 ?_
 refine ewp_seq (ewp_region (o_mv rfl rfl (o_as rfl rfl (o_z ?_))))
 refine ewp_ret ?_
 obtain ⟨O132, S133, h52⟩ := h52.freeze
 obtain rfl := sm hm
 replace hB := hB.st S133
 exact ret1v rfl (res_tmp rfl) ⟨hB.ext, (Vb.mono (F := Fr 0 w127 O132) h52 hB.out)⟩
noncomputable def m_base_Distances (x0 : Tsk) : Option (List Int) :=
  bnd (m_base_States x0.vars) fun q25 => bnd (mkI 8 (0 : Int) (q25.length : Int)) fun u36 => bnd (rng (ρ := (List Int)) (fun (k55 : Nat) (a56 : List Int) (s53 : (List Int)) => bnd (s53[k55]?) fun a81 => bnd (m_base_Holds x0.goal a56) fun q93 => if q93 = true then bnd ((s53.set k55 1125899906842624)[k55]?) fun a100 => some (.next ((s53.set k55 1125899906842624).set k55 0)) else some (.next (s53.set k55 1125899906842624))) q25 0 u36) fun res51 => fin res51 fun (s116 : (List Int)) => bnd (m_base_Edges x0) fun q118 => bnd (lop (ρ := (List Int)) (fun (s129 : (List Int) × Bool) => if s129.2 = true then (bnd (rng (ρ := Ctl ((List Int) × Bool) (List Int)) (fun (k153 : Nat) (a154 : Edg) (s151 : (List Int) × Bool) => bnd (atI x0.ops a154.op) fun a185 => bnd (bnd (atI s151.1 a154.dst) fun a210 => if a210 < 1125899906842624 then (bnd (atI s151.1 a154.dst) fun a223 => bnd (chkI (a223 + a185.cost)) fun n235 => bnd (atI s151.1 a154.src) fun a238 => if n235 < a238 then (some true) else (some false)) else (some false) : Option Bool) fun y206 => if y206 = true then (bnd (atI s151.1 a154.dst) fun a256 => bnd (chkI (a256 + a185.cost)) fun n268 => bnd (atI s151.1 a154.src) fun a271 => some (.next ((s151.1.set (a154.src : Int).toNat n268), true))) else (some (.next (s151.1, s151.2)))) q118 0 (s129.1, false)) fun res149 => fin res149 fun (s289 : (List Int) × Bool) => some (.next (s289.1, s289.2))) else (some (.brk (s129.1, s129.2)))) (s116, true)) fun res127 => fin res127 fun (s295 : (List Int) × Bool) => some s295.1
theorem c_base_Distances {w : World} {A : Nat → Prop} (hA : ∀ k, A k → k < w.heap.size) {vx0 : Value} {x0 : Tsk} (hx0 : Vb w A vx0 x0) {r : (List Int)} (hm : m_base_Distances x0 = some r) :
    Fn Try.prog 16 [vx0, (.slice none 0 0)] w fun v w' => Ext w w' ∧ Vb w' (upA A w w') v r := by
 obtain ⟨O, hB, hA0⟩ := enter hA
 replace hx0 := hx0.mono hA0
 obtain ⟨cs3, rfl, v4, v5, v6, v7, rfl, h8, h11, h14, h17⟩ := hx0
 obtain ⟨A9, c10, rfl⟩ := h8.form
 obtain ⟨A12, c13, rfl⟩ := h11.form
 obtain ⟨A15, c16, rfl⟩ := h14.form
 obtain ⟨A18, c19, rfl⟩ := h17.form
 refine fn_enter Try.func16 rfl Try.ntmps16 rfl ?_
 unfold m_base_Distances at hm
 refine ewp_seq (ewp_region (l_box 2 O rfl rfl fun g20 w21 O22 S23 h24 => ?_))
 replace h24 : Lc 2 w21 O22 g20 26 [(.slice A9 x0.vars.length c10), (.slice A12 x0.init.length c13), (.slice A15 x0.goal.length c16), (.slice A18 x0.ops.length c19)] := h24
 refine o_as rfl rfl (o_z ?_)
 refine ewp_seq (ewp_region (o_fa rfl rfl (o_ld (hc := Blk.cell (i := 0) (h24.1) rfl) rfl rfl ?_)))
 obtain ⟨q25, e26, hm⟩ := bs hm
 replace h8 := h8.st S23
 refine l_call (O := O22) (R := fun w' F v => Vb w' F v q25) (c_base_States Fr.lt h8 e26) rfl rfl fun v31 w27 O28 S29 h30 => ?_
 obtain ⟨A32, c33, rfl⟩ := h30.form
 refine o_as rfl rfl (o_z ?_)
 refine ewp_seq (ewp_region (o_mv rfl rfl (o_ln rfl rfl ?_)))
 have l35 : q25.length ≤ 9223372036854775807 := Nat.le_trans h30.len.2.1 h30.len.2.2
 have r34 : inI64 (q25.length : Int) := rngNat l35
 obtain ⟨u36, e37, hm⟩ := bs hm
 obtain ⟨m38, e39, e40, e41, e42⟩ := mkI_some e37
 refine l_make 3 (by decide) O28 (z0 := (0 : Int)) rfl rfl rfl rfl rfl e39 (vInt (show inI64 0 from by decide)) e40 e41 rfl fun g43 w44 O45 S46 h47 => ?_
 rw [← e42] at h47 ⊢
 refine o_as rfl rfl (o_z ?_)
 refine ewp_seq (ewp_seq (ewp_region (o_mv rfl rfl (o_ln rfl rfl ?_))))
 replace h30 := h30.st S46
 have l50 : q25.length ≤ 9223372036854775807 := Nat.le_trans h30.len.2.1 h30.len.2.2
 have r49 : inI64 (q25.length : Int) := rngNat l50
 refine o_mv rfl rfl (o_z ?_)
 obtain ⟨res51, hL52, hm⟩ := bs hm
 refine ewp_join (aft res51 (fun (s53 : (List Int)) (x54 : Unit) => [(1, (.slice none 0 0)), (2, (.pointer (some ⟨g20, 0, none⟩))), (6, (.slice (some ⟨g43, 0, none⟩) u36.length m38))]) (fun s53 x54 w' => ∃ O' : Lab, Bs w A w' O' ∧ Lc 2 w' O' g20 26 [(.slice A9 x0.vars.length c10), (.slice A12 x0.init.length c13), (.slice A15 x0.goal.length c16), (.slice A18 x0.ops.length c19)] ∧ Vb w' (Fr 0 w' O') (.slice A9 x0.vars.length c10) x0.vars ∧ Vb w' (Fr 0 w' O') (.slice A12 x0.init.length c13) x0.init ∧ Vb w' (Fr 0 w' O') (.slice A15 x0.goal.length c16) x0.goal ∧ Vb w' (Fr 0 w' O') (.slice A18 x0.ops.length c19) x0.ops ∧ Rw 3 w' O' 3 (.slice (some ⟨g43, 0, none⟩) u36.length m38) s53)) ?_ ?_
 ·
  refine ewp_block ?_
  replace hB := ((hB.st S23).st S29).st S46
  replace h8 := (h8.st S29).st S46
  replace h11 := ((h11.st S23).st S29).st S46
  replace h14 := ((h14.st S23).st S29).st S46
  replace h17 := ((h17.st S23).st S29).st S46
  replace h24 := (h24.st S29).st S46
  refine ewp_rng (σ := (List Int)) (X := Unit) (q25.length) hL52 rfl l50 (fun (s53 : (List Int)) (x54 : Unit) => [(1, (.slice none 0 0)), (2, (.pointer (some ⟨g20, 0, none⟩))), (6, (.slice (some ⟨g43, 0, none⟩) u36.length m38)), (20, (.slice A32 q25.length c33))]) _ (fun s53 x54 w' => ∃ O' : Lab, Bs w A w' O' ∧ Lc 2 w' O' g20 26 [(.slice A9 x0.vars.length c10), (.slice A12 x0.init.length c13), (.slice A15 x0.goal.length c16), (.slice A18 x0.ops.length c19)] ∧ Vb w' (Fr 0 w' O') (.slice A9 x0.vars.length c10) x0.vars ∧ Vb w' (Fr 0 w' O') (.slice A12 x0.init.length c13) x0.init ∧ Vb w' (Fr 0 w' O') (.slice A15 x0.goal.length c16) x0.goal ∧ Vb w' (Fr 0 w' O') (.slice A18 x0.ops.length c19) x0.ops ∧ Rw 3 w' O' 3 (.slice (some ⟨g43, 0, none⟩) u36.length m38) s53 ∧ Vb w' (Fr 0 w' O') (.slice A32 q25.length c33) q25) _ () ⟨O45, hB, h24, h8, h11, h14, h17, h47, h30⟩ ⟨rfl, rfl, rfl, rfl, rfl, rfl, trivial⟩ (fun _ _ => ⟨rfl, rfl⟩) (fun _ _ => ⟨rfl, rfl, rfl, trivial⟩) (fun _ _ _ ⟨O', hB, h24, h8, h11, h14, h17, h68, h30⟩ => ⟨O', hB, h24, h8, h11, h14, h17, h68⟩) ⟨rfl, rfl, rfl⟩ ⟨rfl, rfl⟩ ?_
  rintro k55 a56 s53 x54 w57 cc59 hx60 ⟨O58, hB, h24, h8, h11, h14, h17, h68, h30⟩ hf61 hret62 hbrk63
  have rk55 : inI64 (k55 : Int) := rngK hx60 l50
  refine ewp_seq (ewp_region (o_mv rfl rfl ?_))
  obtain ⟨b70, o71, ce72, hA73, hl74, hd75, v77, rfl, h78⟩ := h30.elem' hx60
  replace h78 := Vb.of_slice h78
  obtain ⟨A79, c80, rfl⟩ := h78.form
  refine o_iaE (hA := hA73) (hj := rfl) (hlt := hl74) rfl rfl rfl ?_
  refine o_ld (hc := cat0 hd75) rfl rfl ?_
  refine o_as rfl rfl (o_as rfl rfl (o_z ?_))
  refine ewp_seq (ewp_region (o_mv rfl rfl (o_mv rfl rfl ?_)))
  obtain ⟨a81, e82, hf61⟩ := bs hf61
  obtain ⟨b83, o84, ce85, hA86, hl87, hd88, rfl, r90⟩ := h68.elem e82
  refine o_iaE (hA := hA86) (hj := rfl) (hlt := hl87) rfl rfl rfl ?_
  refine l_setE rfl h68 (a := 1125899906842624) (vInt (show inI64 (1125899906842624) from by decide)) hA86 rfl rfl (lt_of_get e82) fun w91 S92 h68 => ?_
  refine o_z ?_
  refine ewp_seq (ewp_region (o_fa rfl rfl ?_))
  replace h24 := h24.st S92
  refine o_ld (hc := Blk.cell (i := 2) (h24.1) rfl) rfl rfl ?_
  refine o_mv rfl rfl ?_
  obtain ⟨q93, e94, hf61⟩ := bs hf61
  replace h14 := h14.st S92
  replace h78 := h78.st S92
  refine l_callA (O := O58) (A := All w91) (R := fun w' F v => Vb w' F v q93) (c_base_Holds (fun _ h => h) (Vb.mono (F := Fr 0 w91 O58) h14 Fr.lt) (Vb.mono (F := Fr 0 w91 O58) h78 Fr.lt) e94) rfl rfl fun v99 w95 O96 S97 h98 => ?_
  obtain rfl := h98.bool
  cases q93
  case false =>
   replace hf61 := iF hf61
   refine o_z ?_
   refine ewp_false rfl (ewp_skip ?_)
   obtain rfl := sm hf61
   refine (?_ : Exists _)
   replace hB := (hB.st S92).st S97
   replace h8 := (h8.st S92).st S97
   replace h11 := (h11.st S92).st S97
   replace h14 := h14.st S97
   replace h17 := (h17.st S92).st S97
   replace h24 := h24.st S97
   replace h30 := (h30.st S92).st S97
   replace h68 := h68.st S97
   exact ⟨_, (), rfl, ⟨rfl, rfl, rfl, rfl, rfl, rfl, trivial⟩, _, hB, h24, h8, h11, h14, h17, h68, h30⟩
  replace hf61 := iT hf61
  refine o_z ?_
  refine ewp_true rfl (ewp_region (o_mv rfl rfl (o_mv rfl rfl ?_)))
  obtain ⟨a100, e101, hf61⟩ := bs hf61
  replace h68 := h68.st S97
  obtain ⟨b102, o103, ce104, hA105, hl106, hd107, rfl, r109⟩ := h68.elem e101
  refine o_iaE (hA := hA105) (hj := rfl) (hlt := hl106) rfl rfl rfl ?_
  refine l_setE rfl h68 (a := 0) (vInt (show inI64 (0) from by decide)) hA105 rfl rfl (lt_of_get e101) fun w110 S111 h68 => ?_
  refine o_z ?_
  obtain rfl := sm hf61
  refine (?_ : Exists _)
  replace hB := ((hB.st S92).st S97).st S111
  replace h8 := ((h8.st S92).st S97).st S111
  replace h11 := ((h11.st S92).st S97).st S111
  replace h14 := (h14.st S97).st S111
  replace h17 := ((h17.st S92).st S97).st S111
  replace h24 := (h24.st S97).st S111
  replace h30 := ((h30.st S92).st S97).st S111
  exact ⟨_, (), rfl, ⟨rfl, rfl, rfl, rfl, rfl, rfl, trivial⟩, _, hB, h24, h8, h11, h14, h17, h68, h30⟩
 replace hB := ((hB.st S23).st S29).st S46
 replace h8 := (h8.st S29).st S46
 replace h11 := ((h11.st S23).st S29).st S46
 replace h14 := ((h14.st S23).st S29).st S46
 replace h17 := ((h17.st S23).st S29).st S46
 replace h24 := (h24.st S29).st S46
 rintro l112 w113 ⟨s116, x117, rfl, hs115, O114, hB, h24, h8, h11, h14, h17, h68⟩
 replace hm := fin_done hm
 refine ewp_sub _ hs115 ?_
 refine ewp_seq (ewp_region (o_la (hl := rfl) (hc := (h24.1).cellsAt) rfl rfl ?_))
 obtain ⟨q118, e119, hm⟩ := bs hm
 refine l_call (O := O114) (R := fun w' F v => Vb w' F v q118) (c_base_Edges Fr.lt (Vb.ofAgg (cs := [(.slice A9 x0.vars.length c10), (.slice A12 x0.init.length c13), (.slice A15 x0.goal.length c16), (.slice A18 x0.ops.length c19)]) (x := x0) rfl ⟨_, _, _, _, rfl, h8, h11, h14, h17⟩) e119) rfl rfl fun v124 w120 O121 S122 h123 => ?_
 obtain ⟨A125, c126, rfl⟩ := h123.form
 refine o_as rfl rfl (o_z ?_)
 refine ewp_seq (ewp_seq (ewp_region (o_as rfl rfl (o_z ?_))))
 obtain ⟨res127, hL128, hm⟩ := bs hm
 refine ewp_join (aft res127 (fun (s129 : (List Int) × Bool) (x130 : Unit) => [(6, (.slice (some ⟨g43, 0, none⟩) u36.length m38))]) (fun s129 x130 w' => ∃ O' : Lab, Bs w A w' O' ∧ Rw 3 w' O' 3 (.slice (some ⟨g43, 0, none⟩) u36.length m38) s129.1)) ?_ ?_
 ·
  refine ewp_block ?_
  replace hB := hB.st S122
  replace h8 := h8.st S122
  replace h11 := h11.st S122
  replace h14 := h14.st S122
  replace h17 := h17.st S122
  replace h24 := h24.st S122
  replace h68 := h68.st S122
  refine ewp_lop (σ := (List Int) × Bool) (X := Unit) hL128 (fun (s129 : (List Int) × Bool) (x130 : Unit) => [(1, (.slice none 0 0)), (2, (.pointer (some ⟨g20, 0, none⟩))), (6, (.slice (some ⟨g43, 0, none⟩) u36.length m38)), (9, (.slice A125 q118.length c126)), (10, (.bool s129.2))]) _ (fun s129 x130 w' => ∃ O' : Lab, Bs w A w' O' ∧ Lc 2 w' O' g20 26 [(.slice A9 x0.vars.length c10), (.slice A12 x0.init.length c13), (.slice A15 x0.goal.length c16), (.slice A18 x0.ops.length c19)] ∧ Vb w' (Fr 0 w' O') (.slice A9 x0.vars.length c10) x0.vars ∧ Vb w' (Fr 0 w' O') (.slice A12 x0.init.length c13) x0.init ∧ Vb w' (Fr 0 w' O') (.slice A15 x0.goal.length c16) x0.goal ∧ Vb w' (Fr 0 w' O') (.slice A18 x0.ops.length c19) x0.ops ∧ Rw 3 w' O' 3 (.slice (some ⟨g43, 0, none⟩) u36.length m38) s129.1 ∧ Vb w' (Fr 0 w' O') (.slice A125 q118.length c126) q118) _ () ⟨O121, hB, h24, h8, h11, h14, h17, h68, h123⟩ ⟨rfl, rfl, rfl, rfl, rfl, trivial⟩ ?_
  rintro s129 x130 w133 cc135 ⟨O134, hB, h24, h8, h11, h14, h17, h144, h123⟩ hf137 hret138 hbrk139
  refine ewp_seq (ewp_seq (ewp_region (o_mv rfl rfl (o_z ?_))))
  refine ewp_cond rfl (fun c146 => ?_) (fun c146 => ?_)
  ·
   replace hf137 := ip hf137 c146
   refine ewp_skip (ewp_block (ewp_seq (ewp_region (o_as rfl rfl (o_z ?_)))))
   refine ewp_seq (ewp_region (o_mv rfl rfl (o_ln rfl rfl ?_)))
   have l148 : q118.length ≤ 9223372036854775807 := Nat.le_trans h123.len.2.1 h123.len.2.2
   have r147 : inI64 (q118.length : Int) := rngNat l148
   refine o_mv rfl rfl (o_z ?_)
   obtain ⟨res149, hL150, hf137⟩ := bs hf137
   refine ewp_join (aft res149 (fun (s151 : (List Int) × Bool) (x152 : Unit) => [(1, (.slice none 0 0)), (2, (.pointer (some ⟨g20, 0, none⟩))), (6, (.slice (some ⟨g43, 0, none⟩) u36.length m38)), (9, (.slice A125 q118.length c126)), (10, (.bool s151.2))]) (fun s151 x152 w' => ∃ O' : Lab, Bs w A w' O' ∧ Lc 2 w' O' g20 26 [(.slice A9 x0.vars.length c10), (.slice A12 x0.init.length c13), (.slice A15 x0.goal.length c16), (.slice A18 x0.ops.length c19)] ∧ Vb w' (Fr 0 w' O') (.slice A9 x0.vars.length c10) x0.vars ∧ Vb w' (Fr 0 w' O') (.slice A12 x0.init.length c13) x0.init ∧ Vb w' (Fr 0 w' O') (.slice A15 x0.goal.length c16) x0.goal ∧ Vb w' (Fr 0 w' O') (.slice A18 x0.ops.length c19) x0.ops ∧ Rw 3 w' O' 3 (.slice (some ⟨g43, 0, none⟩) u36.length m38) s151.1 ∧ Vb w' (Fr 0 w' O') (.slice A125 q118.length c126) q118)) ?_ ?_
   ·
    refine ewp_block (ewp_rng (σ := (List Int) × Bool) (X := Unit) (q118.length) hL150 rfl l148 (fun (s151 : (List Int) × Bool) (x152 : Unit) => [(1, (.slice none 0 0)), (2, (.pointer (some ⟨g20, 0, none⟩))), (6, (.slice (some ⟨g43, 0, none⟩) u36.length m38)), (9, (.slice A125 q118.length c126)), (10, (.bool s151.2)), (41, (.slice A125 q118.length c126))]) _ (fun s151 x152 w' => ∃ O' : Lab, Bs w A w' O' ∧ Lc 2 w' O' g20 26 [(.slice A9 x0.vars.length c10), (.slice A12 x0.init.length c13), (.slice A15 x0.goal.length c16), (.slice A18 x0.ops.length c19)] ∧ Vb w' (Fr 0 w' O') (.slice A9 x0.vars.length c10) x0.vars ∧ Vb w' (Fr 0 w' O') (.slice A12 x0.init.length c13) x0.init ∧ Vb w' (Fr 0 w' O') (.slice A15 x0.goal.length c16) x0.goal ∧ Vb w' (Fr 0 w' O') (.slice A18 x0.ops.length c19) x0.ops ∧ Rw 3 w' O' 3 (.slice (some ⟨g43, 0, none⟩) u36.length m38) s151.1 ∧ Vb w' (Fr 0 w' O') (.slice A125 q118.length c126) q118) _ () ⟨O134, hB, h24, h8, h11, h14, h17, h144, h123⟩ ⟨rfl, rfl, rfl, rfl, rfl, rfl, rfl, rfl, trivial⟩ (fun _ _ => ⟨rfl, rfl⟩) (fun _ _ => ⟨rfl, rfl, rfl, rfl, rfl, trivial⟩) (fun _ _ _ ⟨O', hB, h24, h8, h11, h14, h17, h166, h123⟩ => ⟨O', hB, h24, h8, h11, h14, h17, h166, h123⟩) ⟨rfl, rfl, rfl⟩ ⟨rfl, rfl⟩ ?_)
    rintro k153 a154 s151 x152 w155 cc157 hx158 ⟨O156, hB, h24, h8, h11, h14, h17, h166, h123⟩ hf159 hret160 hbrk161
    have rk153 : inI64 (k153 : Int) := rngK hx158 l148
    refine ewp_seq (ewp_region ?_)
    obtain ⟨b168, o169, ce170, hA171, hl172, hd173, rfl, r175, r176, r177⟩ := h123.elem' hx158
    refine o_iaE (hA := hA171) (hj := rfl) (hlt := hl172) rfl rfl rfl ?_
    refine o_la (hl := rfl) (hc := hd173) rfl rfl ?_
    refine l_alloc 4 O156 rfl fun g178 w179 O180 S181 h182 => ?_
    refine l_store h182 rfl rfl rfl (Nat.le_of_ble_eq_true rfl) (by first | exact allOne rfl | simp [Value.cells, Value.oneCell', errV_one]) fun w183 S184 h182 => ?_
    replace h182 : Lc 4 w183 O180 g178 93 [(.int .i64 a154.src), (.int .i64 a154.op), (.int .i64 a154.dst)] := h182
    refine o_z ?_
    refine ewp_seq (ewp_region (o_fa rfl rfl ?_))
    replace h24 := (h24.st S181).st S184
    refine o_ld (hc := Blk.cell (i := 3) (h24.1) rfl) rfl rfl ?_
    refine o_fa rfl rfl (o_ld (hc := Blk.cell (i := 1) (h182.1) rfl) rfl rfl ?_)
    obtain ⟨a185, e186, hf159⟩ := bs hf159
    obtain ⟨p188, x187⟩ := atI_some' e186
    replace h17 := (h17.st S181).st S184
    obtain ⟨b189, o190, ce191, hA192, hl193, hd194, v196, v197, rfl, h198, h201, r204, z205⟩ := h17.elem' x187
    obtain ⟨A199, c200, rfl⟩ := h198.form
    obtain ⟨A202, c203, rfl⟩ := h201.form
    refine o_iaE (hA := hA192) (hj := (Int.toNat_of_nonneg p188).symm) (hlt := hl193) rfl rfl rfl ?_
    refine o_fa rfl rfl (o_ld (hc := cat1 hd194) rfl rfl ?_)
    refine o_as rfl rfl (o_z ?_)
    refine ewp_seq (ewp_seq (ewp_region (o_mv rfl rfl (o_sq rfl rfl ?_))))
    refine o_z ?_
    refine ewp_false rfl (ewp_skip (ewp_seq ?_))
    obtain ⟨y206, hy207, hf159⟩ := bs hf159
    refine ewp_join (fun l' w' => ∃ (x209 : Unit) (O' : Lab), subs l' [(1, (.slice none 0 0)), (2, (.pointer (some ⟨g20, 0, none⟩))), (6, (.slice (some ⟨g43, 0, none⟩) u36.length m38)), (9, (.slice A125 q118.length c126)), (10, (.bool s151.2)), (12, (.pointer (some ⟨g178, 0, none⟩))), (13, (.int .i64 a185.cost)), (41, (.slice A125 q118.length c126)), (42, (.int .i64 (q118.length : Int))), (43, (.int .i64 (k153 : Int))), (81, (.bool y206))] ∧ Bs w A w' O' ∧ Lc 2 w' O' g20 26 [(.slice A9 x0.vars.length c10), (.slice A12 x0.init.length c13), (.slice A15 x0.goal.length c16), (.slice A18 x0.ops.length c19)] ∧ Vb w' (Fr 0 w' O') (.slice A9 x0.vars.length c10) x0.vars ∧ Vb w' (Fr 0 w' O') (.slice A12 x0.init.length c13) x0.init ∧ Vb w' (Fr 0 w' O') (.slice A15 x0.goal.length c16) x0.goal ∧ Vb w' (Fr 0 w' O') (.slice A18 x0.ops.length c19) x0.ops ∧ Rw 3 w' O' 3 (.slice (some ⟨g43, 0, none⟩) u36.length m38) s151.1 ∧ Vb w' (Fr 0 w' O') (.slice A125 q118.length c126) q118 ∧ Lc 4 w' O' g178 93 [(.int .i64 a154.src), (.int .i64 a154.op), (.int .i64 a154.dst)]) ?_ ?_
    ·
     refine ewp_draw (· = w183) [(0, true), (1, true), (2, true), (3, true), (4, true), (5, true), (6, true), (7, true), (8, true), (9, true), (10, true), (11, true), (12, true), (13, true), (14, true), (15, true), (16, true), (17, true), (18, true), (19, true), (20, true)] (by kernel_rfl) rfl (by kernel_rfl) rfl ?_
     refine h_mv rfl rfl rfl (h_fa rfl rfl rfl (h_ldA (hc := Blk.cell (i := 2) (h182.1) rfl) rfl rfl rfl ?_))
     obtain ⟨a210, e211, hy207⟩ := bs hy207
     obtain ⟨p213, x212⟩ := atI_some' e211
     replace h166 := (h166.st S181).st S184
     obtain ⟨b214, o215, ce216, hA217, hl218, hd219, rfl, r221⟩ := h166.elem x212
     refine h_iaE (hA := hA217) (hj := (Int.toNat_of_nonneg p213).symm) (hlt := hl218) rfl rfl rfl rfl ?_
     refine h_ldA (hc := cat0 hd219) rfl rfl rfl ?_
     refine h_ltS rfl rfl rfl rfl (fun c222 => ?_) fun c222 => ?_
     ·
      replace hy207 := ip hy207 c222
      refine h_mv rfl rfl rfl (hwp_o rfl (hwq_yes rfl rfl (g_mv rfl rfl (hwp_o rfl (hwq_yes rfl rfl (g_fa rfl rfl (hwp_o rfl (hwq_yes rfl rfl (g_ldA (hc := Blk.cell (i := 2) (h182.1) rfl) rfl rfl ?_)))))))))
      refine hwp_o rfl (hwq_yes rfl rfl ?_)
      obtain ⟨a223, e224, hy207⟩ := bs hy207
      obtain ⟨p226, x225⟩ := atI_some' e224
      obtain ⟨b227, o228, ce229, hA230, hl231, hd232, rfl, r234⟩ := h166.elem x225
      refine g_iaE (hA := hA230) (hj := (Int.toNat_of_nonneg p226).symm) (hlt := hl231) rfl rfl rfl ?_
      refine hwp_o rfl (hwq_yes rfl rfl (g_ldA (hc := cat0 hd232) rfl rfl ?_))
      refine hwp_o rfl (hwq_yes rfl rfl (g_mv rfl rfl (hwp_o rfl (hwq_yes rfl rfl ?_))))
      obtain ⟨n235, e236, hy207⟩ := bs hy207
      have r237 := (chkI_rng e236)
      refine g_adE (he := e236) rfl rfl rfl ?_
      refine hwp_o rfl (hwq_yes rfl rfl (g_mv rfl rfl (hwp_o rfl (hwq_yes rfl rfl (g_fa rfl rfl (hwp_o rfl (hwq_yes rfl rfl (g_ldA (hc := Blk.cell (i := 0) (h182.1) rfl) rfl rfl ?_))))))))
      refine hwp_o rfl (hwq_yes rfl rfl ?_)
      obtain ⟨a238, e239, hy207⟩ := bs hy207
      obtain ⟨p241, x240⟩ := atI_some' e239
      obtain ⟨b242, o243, ce244, hA245, hl246, hd247, rfl, r249⟩ := h166.elem x240
      refine g_iaE (hA := hA245) (hj := (Int.toNat_of_nonneg p241).symm) (hlt := hl246) rfl rfl rfl ?_
      refine hwp_o rfl (hwq_yes rfl rfl (g_ldA (hc := cat0 hd247) rfl rfl ?_))
      refine hwp_o rfl (hwq_yes rfl rfl (hwq_split (fun _ _ => ev_lss rfl rfl) rfl (fun c250 => ?_) (fun c250 => ?_)))
      ·
       replace hy207 := ip hy207 c250
       refine h_pt rfl rfl rfl rfl (h_z ?_)
       obtain rfl := sm hy207
       replace hB := (hB.st S181).st S184
       replace h8 := (h8.st S181).st S184
       replace h11 := (h11.st S181).st S184
       replace h14 := (h14.st S181).st S184
       replace h123 := (h123.st S181).st S184
       exact ⟨(), _, ⟨rfl, rfl, rfl, rfl, rfl, rfl, rfl, rfl, rfl, rfl, rfl, trivial⟩, hB, h24, h8, h11, h14, h17, h166, h123, h182⟩
      ·
       replace hy207 := im hy207 c250
       refine h_pt rfl rfl rfl rfl (h_z ?_)
       obtain rfl := sm hy207
       replace hB := (hB.st S181).st S184
       replace h8 := (h8.st S181).st S184
       replace h11 := (h11.st S181).st S184
       replace h14 := (h14.st S181).st S184
       replace h123 := (h123.st S181).st S184
       exact ⟨(), _, ⟨rfl, rfl, rfl, rfl, rfl, rfl, rfl, rfl, rfl, rfl, rfl, trivial⟩, hB, h24, h8, h11, h14, h17, h166, h123, h182⟩
     ·
      replace hy207 := im hy207 c222
      refine h_mv rfl rfl rfl (h_no rfl rfl rfl rfl rfl (h_no rfl rfl rfl rfl rfl (h_no rfl rfl rfl rfl rfl (h_no rfl rfl rfl rfl rfl (h_no rfl rfl rfl rfl rfl (h_no rfl rfl rfl rfl rfl (h_no rfl rfl rfl rfl rfl (h_no rfl rfl rfl rfl rfl (h_no rfl rfl rfl rfl rfl (h_no rfl rfl rfl rfl rfl (h_no rfl rfl rfl rfl rfl (h_no rfl rfl rfl rfl rfl (h_no rfl rfl rfl rfl rfl (h_pf rfl rfl rfl rfl ?_))))))))))))))
      refine h_z ?_
      obtain rfl := sm hy207
      replace hB := (hB.st S181).st S184
      replace h8 := (h8.st S181).st S184
      replace h11 := (h11.st S181).st S184
      replace h14 := (h14.st S181).st S184
      replace h123 := (h123.st S181).st S184
      exact ⟨(), _, ⟨rfl, rfl, rfl, rfl, rfl, rfl, rfl, rfl, rfl, rfl, rfl, trivial⟩, hB, h24, h8, h11, h14, h17, h166, h123, h182⟩
    replace hB := (hB.st S181).st S184
    replace h8 := (h8.st S181).st S184
    replace h11 := (h11.st S181).st S184
    replace h14 := (h14.st S181).st S184
    replace h123 := (h123.st S181).st S184
    replace h166 := (h166.st S181).st S184
    rintro l251 w252 ⟨x209, O253, hs254, hB, h24, h8, h11, h14, h17, h166, h123, h182⟩
    refine ewp_sub _ hs254 ?_
    refine ewp_cond rfl (fun c255 => ?_) (fun c255 => ?_)
    ·
     replace hf159 := ip hf159 c255
     refine ewp_seq (ewp_drawX [] O253 ?_)
     refine x_pre (fuel := 1) [] [(0, true), (1, true), (2, true), (3, true), (4, true), (5, true), (6, true), (7, true), (8, true), (9, true), (10, true)] (by kernel_rfl) rfl ?_
     refine h_mv rfl rfl rfl (h_fa rfl rfl rfl (h_ldC (hc := fun w' ⟨O', hq⟩ => Blk.cell (i := 0) ((h182.st hq (by decide)).1) rfl) rfl rfl rfl ?_))
     refine h_mv rfl rfl rfl (h_fa rfl rfl rfl (h_ldC (hc := fun w' ⟨O', hq⟩ => Blk.cell (i := 2) ((h182.st hq (by decide)).1) rfl) rfl rfl rfl ?_))
     obtain ⟨a256, e257, hf159⟩ := bs hf159
     obtain ⟨p259, x258⟩ := atI_some' e257
     obtain ⟨b260, o261, ce262, hA263, hF266, hl264, hd265, rfl, r267⟩ := h166.elemF x258
     refine h_iaE (hA := hA263) (hj := (Int.toNat_of_nonneg p259).symm) (hlt := hl264) rfl rfl rfl rfl ?_
     refine h_ldC (hc := fun w' ⟨O', hq⟩ => cat0 (cellsAt_agree (hq.agree (i := 3) (by decide)) hF266 hd265)) rfl rfl rfl ?_
     refine h_mv rfl rfl rfl ?_
     obtain ⟨n268, e269, hf159⟩ := bs hf159
     have r270 := (chkI_rng e269)
     refine h_adE (he := e269) rfl rfl rfl rfl ?_
     obtain ⟨a271, e272, hf159⟩ := bs hf159
     obtain ⟨p274, x273⟩ := atI_some' e272
     obtain ⟨b275, o276, ce277, hA278, hF281, hl279, hd280, rfl, r282⟩ := h166.elemF x273
     refine h_iaE (hA := hA278) (hj := (Int.toNat_of_nonneg p274).symm) (hlt := hl279) rfl rfl rfl rfl ?_
     refine hwp_nilT ?_
     refine x_one (i := 11) (by kernel_rfl) rfl ?_
     refine l_setE rfl h166 (a := n268) (vInt r270) hA278 rfl rfl (lt_of_get x273) fun w283 S284 h166 => ?_
     refine x_end (by kernel_rfl) ?_
     refine x_nil (by kernel_rfl) ?_
     refine ewp_region (o_as rfl rfl (o_z ?_))
     obtain rfl := sm hf159
     refine (?_ : Exists _)
     replace hB := hB.st S284
     replace h8 := h8.st S284
     replace h11 := h11.st S284
     replace h14 := h14.st S284
     replace h17 := h17.st S284
     replace h24 := h24.st S284
     replace h123 := h123.st S284
     exact ⟨_, (), rfl, ⟨rfl, rfl, rfl, rfl, rfl, rfl, rfl, rfl, trivial⟩, _, hB, h24, h8, h11, h14, h17, h166, h123⟩
    ·
     replace hf159 := im' hf159 c255
     refine ewp_skip ?_
     obtain rfl := sm hf159
     refine (?_ : Exists _)
     exact ⟨_, (), rfl, ⟨rfl, rfl, rfl, rfl, rfl, rfl, rfl, rfl, trivial⟩, _, hB, h24, h8, h11, h14, h17, h166, h123⟩
   rintro l285 w286 ⟨s289, x290, rfl, hs288, O287, hB, h24, h8, h11, h14, h17, h166, h123⟩
   replace hf137 := fin_done hf137
   obtain rfl := sm hf137
   refine (?_ : Exists _)
   exact ⟨_, (), rfl, ⟨(subs_lk hs288 _ _ rfl), (subs_lk hs288 _ _ rfl), (subs_lk hs288 _ _ rfl), (subs_lk hs288 _ _ rfl), (subs_lk hs288 _ _ rfl), trivial⟩, _, hB, h24, h8, h11, h14, h17, h166, h123⟩
  ·
   replace hf137 := im' hf137 c146
   refine ewp_exit ?_
   obtain rfl := sm hf137
   refine (?_ : Exists _)
   exact ⟨_, (), hbrk139 _ rfl, ⟨rfl, trivial⟩, _, hB, h144⟩
 replace hB := hB.st S122
 rintro l291 w292 ⟨s295, x296, rfl, hs294, O293, hB, h144⟩
 replace hm := fin_done hm
 refine ewp_sub _ hs294 ?_
 refine ewp_seq (ewp_region (o_mv rfl rfl (o_as rfl rfl (o_z ?_))))
 refine ewp_ret ?_
 obtain ⟨O297, S298, h144⟩ := h144.freeze
 obtain rfl := sm hm
 replace hB := hB.st S298
 exact ret1v rfl (res_tmp rfl) ⟨hB.ext, (Vb.mono (F := Fr 0 w292 O297) h144 hB.out)⟩
noncomputable def m_base_Cost (x0 : Tsk) (x1 : List Int) (x2 : List Int) : Option (Int × Bool) :=
  bnd (rng (ρ := Int × Bool) (fun (k36 : Nat) (a37 : Int) (s34 : (List Int) × Int) => bnd (m_base_Apply x0 s34.1 a37) fun q59 => if (!q59.2) = true then (some (.ret (0, false))) else (bnd (atI x0.ops a37) fun a73 => bnd (chkI (s34.2 + a73.cost)) fun n94 => some (.next (q59.1, n94)))) x2 0 (x1, 0)) fun res32 => fin res32 fun (s101 : (List Int) × Int) => bnd (bnd (m_base_Holds x0.goal s101.1) fun q107 => if q107 = true then some true else some false : Option Bool) fun y103 => some (s101.2, y103)
theorem c_base_Cost {w : World} {A : Nat → Prop} (hA : ∀ k, A k → k < w.heap.size) {vx0 : Value} {x0 : Tsk} (hx0 : Vb w A vx0 x0) {vx1 : Value} {x1 : List Int} (hx1 : Vb w A vx1 x1) {vx2 : Value} {x2 : List Int} (hx2 : Vb w A vx2 x2) {r : Int × Bool} (hm : m_base_Cost x0 x1 x2 = some r) :
    Fn Try.prog 18 [vx0, vx1, vx2] w fun v w' => Ext w w' ∧ T2 w' (upA A w w') v r := by
 obtain ⟨O, hB, hA0⟩ := enter hA
 replace hx0 := hx0.mono hA0
 obtain ⟨cs4, rfl, v5, v6, v7, v8, rfl, h9, h12, h15, h18⟩ := hx0
 obtain ⟨A10, c11, rfl⟩ := h9.form
 obtain ⟨A13, c14, rfl⟩ := h12.form
 obtain ⟨A16, c17, rfl⟩ := h15.form
 obtain ⟨A19, c20, rfl⟩ := h18.form
 replace hx1 := hx1.mono hA0
 obtain ⟨A21, c22, rfl⟩ := hx1.form
 replace hx2 := hx2.mono hA0
 obtain ⟨A23, c24, rfl⟩ := hx2.form
 refine fn_enter Try.func18 rfl Try.ntmps18 rfl ?_
 unfold m_base_Cost at hm
 refine ewp_seq (ewp_region (l_box 2 O rfl rfl fun g25 w26 O27 S28 h29 => ?_))
 replace h29 : Lc 2 w26 O27 g25 26 [(.slice A10 x0.vars.length c11), (.slice A13 x0.init.length c14), (.slice A16 x0.goal.length c17), (.slice A19 x0.ops.length c20)] := h29
 refine o_as rfl rfl (o_as rfl rfl (o_z ?_))
 refine ewp_seq (ewp_region (o_as rfl rfl (o_z ?_)))
 refine ewp_seq (ewp_seq (ewp_region (o_mv rfl rfl (o_ln rfl rfl ?_))))
 replace hx2 := hx2.st S28
 have l31 : x2.length ≤ 9223372036854775807 := Nat.le_trans hx2.len.2.1 hx2.len.2.2
 have r30 : inI64 (x2.length : Int) := rngNat l31
 refine o_mv rfl rfl (o_z ?_)
 obtain ⟨res32, hL33, hm⟩ := bs hm
 refine ewp_join (aft res32 (fun (s34 : (List Int) × Int) (x35 : (Option Addr × Nat)) => [(1, (.slice x35.1 s34.1.length x35.2)), (3, (.pointer (some ⟨g25, 0, none⟩))), (8, (.int .i64 s34.2))]) (fun s34 x35 w' => ∃ O' : Lab, Bs w A w' O' ∧ Vb w' (Fr 0 w' O') (.slice x35.1 s34.1.length x35.2) s34.1 ∧ Lc 2 w' O' g25 26 [(.slice A10 x0.vars.length c11), (.slice A13 x0.init.length c14), (.slice A16 x0.goal.length c17), (.slice A19 x0.ops.length c20)] ∧ Vb w' (Fr 0 w' O') (.slice A10 x0.vars.length c11) x0.vars ∧ Vb w' (Fr 0 w' O') (.slice A13 x0.init.length c14) x0.init ∧ Vb w' (Fr 0 w' O') (.slice A16 x0.goal.length c17) x0.goal ∧ Vb w' (Fr 0 w' O') (.slice A19 x0.ops.length c20) x0.ops ∧ inI64 s34.2)) ?_ ?_
 ·
  refine ewp_block ?_
  replace hB := hB.st S28
  replace hx1 := hx1.st S28
  replace h9 := h9.st S28
  replace h12 := h12.st S28
  replace h15 := h15.st S28
  replace h18 := h18.st S28
  refine ewp_rng (σ := (List Int) × Int) (X := (Option Addr × Nat)) (x2.length) hL33 rfl l31 (fun (s34 : (List Int) × Int) (x35 : (Option Addr × Nat)) => [(1, (.slice x35.1 s34.1.length x35.2)), (3, (.pointer (some ⟨g25, 0, none⟩))), (8, (.int .i64 s34.2)), (13, (.slice A23 x2.length c24))]) _ (fun s34 x35 w' => ∃ O' : Lab, Bs w A w' O' ∧ Vb w' (Fr 0 w' O') (.slice x35.1 s34.1.length x35.2) s34.1 ∧ Lc 2 w' O' g25 26 [(.slice A10 x0.vars.length c11), (.slice A13 x0.init.length c14), (.slice A16 x0.goal.length c17), (.slice A19 x0.ops.length c20)] ∧ Vb w' (Fr 0 w' O') (.slice A10 x0.vars.length c11) x0.vars ∧ Vb w' (Fr 0 w' O') (.slice A13 x0.init.length c14) x0.init ∧ Vb w' (Fr 0 w' O') (.slice A16 x0.goal.length c17) x0.goal ∧ Vb w' (Fr 0 w' O') (.slice A19 x0.ops.length c20) x0.ops ∧ Vb w' (Fr 0 w' O') (.slice A23 x2.length c24) x2 ∧ inI64 s34.2) _ (A21, c22) ⟨O27, hB, hx1, h29, h9, h12, h15, h18, hx2, (show inI64 (0) from by decide)⟩ ⟨rfl, rfl, rfl, rfl, rfl, rfl, trivial⟩ (fun _ _ => ⟨rfl, rfl⟩) (fun _ _ => ⟨rfl, rfl, rfl, trivial⟩) (fun _ _ _ ⟨O', hB, h49, h29, h9, h12, h15, h18, hx2, r50⟩ => ⟨O', hB, h49, h29, h9, h12, h15, h18, r50⟩) ⟨rfl, rfl, rfl⟩ ⟨rfl, rfl⟩ ?_
  rintro k36 a37 s34 x35 w38 cc40 hx41 ⟨O39, hB, h49, h29, h9, h12, h15, h18, hx2, r50⟩ hf42 hret43 hbrk44
  have rk36 : inI64 (k36 : Int) := rngK hx41 l31
  refine ewp_seq (ewp_region ?_)
  obtain ⟨b51, o52, ce53, hA54, hl55, hd56, rfl, r58⟩ := hx2.elem' hx41
  refine o_iaE (hA := hA54) (hj := rfl) (hlt := hl55) rfl rfl rfl ?_
  refine o_ld (hc := cat0 hd56) rfl rfl ?_
  refine o_as rfl rfl (o_z ?_)
  refine ewp_seq (ewp_region (o_la (hl := rfl) (hc := (h29.1).cellsAt) rfl rfl ?_))
  refine o_mv rfl rfl (o_mv rfl rfl ?_)
  obtain ⟨q59, e60, hf42⟩ := bs hf42
  refine l_call (O := O39) (R := fun w' F v => T2 w' F v q59) (c_base_Apply Fr.lt (Vb.ofAgg (cs := [(.slice A10 x0.vars.length c11), (.slice A13 x0.init.length c14), (.slice A16 x0.goal.length c17), (.slice A19 x0.ops.length c20)]) (x := x0) rfl ⟨_, _, _, _, rfl, h9, h12, h15, h18⟩) h49 r58 e60) rfl rfl fun v65 w61 O62 S63 h64 => ?_
  obtain ⟨v66, v67, rfl, h68, h69⟩ := h64
  obtain ⟨A70, c71, rfl⟩ := h68.form
  obtain rfl := h69.bool
  refine o_mv rfl rfl (o_ex rfl rfl rfl (o_ex rfl rfl rfl (o_as rfl rfl (o_as rfl rfl (o_z ?_)))))
  refine ewp_seq (ewp_seq (ewp_region (o_mv rfl rfl (o_nn rfl rfl (o_z ?_)))))
  refine ewp_cond rfl (fun c72 => ?_) (fun c72 => ?_)
  ·
   replace hf42 := ip hf42 c72
   refine ewp_seq (ewp_region (o_as rfl rfl (o_as rfl rfl (o_z ?_))))
   refine ewp_ret ?_
   obtain rfl := sm hf42
   obtain rfl := hret43 _ rfl
   obtain rfl := sm (fin_ret hm)
   replace hB := hB.st S63
   exact ret2 rfl (res_tmp rfl) (res_tmp rfl) ⟨hB.ext, _, _, rfl, (vInt (show inI64 (0) from by decide)), vBool⟩
  ·
   replace hf42 := im' hf42 c72
   refine ewp_skip (ewp_seq (ewp_region (o_mv rfl rfl (o_as rfl rfl (o_z ?_)))))
   refine ewp_region (o_mv rfl rfl (o_fa rfl rfl ?_))
   replace h29 := h29.st S63
   refine o_ld (hc := Blk.cell (i := 3) (h29.1) rfl) rfl rfl ?_
   refine o_mv rfl rfl ?_
   obtain ⟨a73, e74, hf42⟩ := bs hf42
   obtain ⟨p76, x75⟩ := atI_some' e74
   replace h18 := h18.st S63
   obtain ⟨b77, o78, ce79, hA80, hl81, hd82, v84, v85, rfl, h86, h89, r92, z93⟩ := h18.elem' x75
   obtain ⟨A87, c88, rfl⟩ := h86.form
   obtain ⟨A90, c91, rfl⟩ := h89.form
   refine o_iaE (hA := hA80) (hj := (Int.toNat_of_nonneg p76).symm) (hlt := hl81) rfl rfl rfl ?_
   refine o_fa rfl rfl (o_ld (hc := cat1 hd82) rfl rfl ?_)
   obtain ⟨n94, e95, hf42⟩ := bs hf42
   have r96 := (chkI_rng e95)
   refine o_adE (he := e95) rfl rfl rfl ?_
   refine o_as rfl rfl (o_z ?_)
   obtain rfl := sm hf42
   refine (?_ : Exists _)
   replace hB := hB.st S63
   replace hx2 := hx2.st S63
   replace h9 := h9.st S63
   replace h12 := h12.st S63
   replace h15 := h15.st S63
   exact ⟨_, (A70, c71), rfl, ⟨rfl, rfl, rfl, rfl, rfl, rfl, trivial⟩, _, hB, h68, h29, h9, h12, h15, h18, hx2, r96⟩
 replace hB := hB.st S28
 replace h9 := h9.st S28
 replace h12 := h12.st S28
 replace h15 := h15.st S28
 replace h18 := h18.st S28
 rintro l97 w98 ⟨s101, x102, rfl, hs100, O99, hB, h49, h29, h9, h12, h15, h18, r50⟩
 replace hm := fin_done hm
 refine ewp_sub _ hs100 ?_
 refine ewp_seq ?_
 obtain ⟨y103, hy104, hm⟩ := bs hm
 refine ewp_join (fun l' w' => ∃ (x106 : Unit) (O' : Lab), subs l' [(6, (.int .i64 s101.2)), (7, (.bool y103))] ∧ Bs w A w' O') ?_ ?_
 ·
  refine ewp_region (o_mv rfl rfl (o_fa rfl rfl (o_ld (hc := Blk.cell (i := 2) (h29.1) rfl) rfl rfl ?_)))
  refine o_mv rfl rfl ?_
  obtain ⟨q107, e108, hy104⟩ := bs hy104
  refine l_callA (O := O99) (A := All w98) (R := fun w' F v => Vb w' F v q107) (c_base_Holds (fun _ h => h) (Vb.mono (F := Fr 0 w98 O99) h15 Fr.lt) (Vb.mono (F := Fr 0 w98 O99) h49 Fr.lt) e108) rfl rfl fun v113 w109 O110 S111 h112 => ?_
  obtain rfl := h112.bool
  cases q107
  case false =>
   replace hy104 := iF hy104
   refine o_as rfl rfl (o_as rfl rfl (o_z ?_))
   obtain rfl := sm hy104
   replace hB := hB.st S111
   exact ⟨(), _, ⟨rfl, rfl, trivial⟩, hB⟩
  replace hy104 := iT hy104
  refine o_as rfl rfl (o_as rfl rfl (o_z ?_))
  obtain rfl := sm hy104
  replace hB := hB.st S111
  exact ⟨(), _, ⟨rfl, rfl, trivial⟩, hB⟩
 rintro l114 w115 ⟨x106, O116, hs117, hB⟩
 refine ewp_sub _ hs117 ?_
 refine ewp_ret ?_
 obtain rfl := sm hm
 exact ret2 rfl (res_tmp rfl) (res_tmp rfl) ⟨hB.ext, _, _, rfl, (vInt r50), vBool⟩
end
section
open Go Go.RowKit
theorem states_eq {vars : List Int} (h0 : ∀ (i : Nat) n, vars[i]? = some n → 0 ≤ n ∧ n ≤ 64) (hb : ∀ k, (statesL (vars.take k)).length ≤ 1000000) (hvn : vars.length ≤ 1000) : m_base_States vars = some (statesL vars) := by
  unfold m_base_States
  rw [rng_from (fun k => statesL (vars.take k)) ?_ ?_]
  · rw [bnd_some, fin_d, List.take_length]
  · rfl
  intro k n hn
  obtain ⟨N, rfl⟩ := Int.eq_ofNat_of_zero_le (h0 k n hn).1
  have hN := (h0 k _ hn).2
  have hk := lt_of_get hn
  have hlen := hb k
  rw [rng_from (fun i => ((statesL (vars.take k)).take i).flatMap (exts N)) ?_ ?_]
  · rw [bnd_some, fin_d, List.take_length, statesL_step hn]; rfl
  · rfl
  intro i s hs
  have hsl := statesL_mem vars k (by omega) s (List.mem_of_getElem? hs)
  have hfl := grows_len N ((statesL (vars.take k)).take i)
  have hfl2 : ((statesL (vars.take k)).take i).length * N ≤ 1000000 * 64 := Nat.mul_le_mul (by rw [List.length_take]; omega) (by omega)
  rw [natI_eq, bnd_some, rngN_from (fun x => ((statesL (vars.take k)).take i).flatMap (exts N) ++ exts x s) ?_ ?_]
  · rw [bnd_some, fin_d, flat_step _ hs]
  · simp [exts]
  intro x hx
  rw [appI_eq (by simp; omega) (by simp; omega), bnd_some, appI_eq (by simp; omega) (by simp; omega), bnd_some, appI_eq (by simp only [List.length_append, exts_len, List.length_singleton]; omega) (by simp only [List.length_append, exts_len, List.length_singleton]; omega), bnd_some, exts_step]
  simp
theorem states_small {t : Tsk} (h : SmallOk t) : m_base_States t.vars = some (statesL t.vars) :=
  states_eq (fun i n hn => by have := h.ok.vars i n hn; omega) (fun k => by have := h.states k; omega) (by have := h.1; omega)
end
section
open Go Go.RowKit
/-- The state after an operator's effects. -/
def effsOn (s : List Int) : List Eff → List Int → List Int
  | [], out => out
  | e :: r, out => effsOn s r (if holdsB e.cond s = true then out.set e.var.toNat e.val else out)
theorem effsOn_append (s : List Int) : ∀ (a b : List Eff) (out : List Int), effsOn s (a ++ b) out = effsOn s b (effsOn s a out)
  | [], _, _ => rfl
  | e :: a, b, out => by simp [effsOn, effsOn_append s a b]
theorem effsOn_length (s : List Int) : ∀ (a : List Eff) (out : List Int), (effsOn s a out).length = out.length
  | [], _ => rfl
  | e :: a, out => by
    rw [effsOn, effsOn_length s a]
    split <;> simp
theorem effsOn_step (s : List Int) {l : List Eff} {k : Nat} {e : Eff} (h : l[k]? = some e) (out : List Int) : effsOn s (l.take (k + 1)) out = if holdsB e.cond s = true then (effsOn s (l.take k) out).set e.var.toNat e.val else effsOn s (l.take k) out := by
  rw [List.take_add_one, h, effsOn_append]; rfl
/-- The effects name variables of the state. -/
def EffsIn (s : List Int) (l : List Eff) : Prop := ∀ (i : Nat) e, l[i]? = some e → 0 ≤ e.var ∧ e.var < s.length
def succ (o : Opr) (s : List Int) : List Int := effsOn s o.effs s
end
section
open Go Go.RowKit
theorem TaskOk.effs {t : Tsk} (h : TaskOk t) {s : List Int} (hs : StateOk t.vars s) : ∀ (i : Nat) o, t.ops[i]? = some o → EffsIn s o.effs := fun i o ho j e he => by
  obtain ⟨h1, _, y, hy, _⟩ := ((h.2.2.2.2.2 i o ho).2.2.2.2.2 j e he).2
  refine ⟨h1, ?_⟩
  have := (List.getElem?_eq_some_iff.1 hy).1
  rw [hs.1]
  simp only at h1 this
  omega
end
section
open Go Go.RowKit
theorem holds_eq (f : List Fct) (s : List Int) : m_base_Holds f s = some (holdsB f s) := rfl
theorem effs_run {ρ : Type} {s : List Int} {effs : List Eff} (he : EffsIn s effs) (m : List Fct → List Int → Option Bool) (hm : ∀ f s, m f s = some (holdsB f s)) (u : List Int) (hu : u.length = s.length) :
    rng (ρ := ρ) (fun (_ : Nat) (e : Eff) (out : List Int) => bnd (m e.cond s) fun q => if q = true then bnd (atI out e.var) fun _ => some (.next (out.set (e.var).toNat e.val)) else some (.next out)) effs 0 u = some (.done (effsOn s effs u)) := by
  rw [rng_from (fun k => effsOn s (effs.take k) u) ?_ ?_, List.take_length]
  · rfl
  intro k e hk
  rw [hm, bnd_some, effsOn_step s hk]
  have hin := he k e hk
  have hl := effsOn_length s (effs.take k) u
  by_cases hb : holdsB e.cond s = true
  · rw [if_pos hb, if_pos hb]
    obtain ⟨j, hj⟩ := Int.eq_ofNat_of_zero_le hin.1
    rw [hj, atI_eq, List.getElem?_eq_getElem (by omega), bnd_some]
  · rw [if_neg hb, if_neg hb]
theorem apply_eq {t : Tsk} {s : List Int} {j : Nat} {o : Opr} (ho : t.ops[j]? = some o) (hp : holdsB o.pre s = true) (hl : s.length ≤ 1000000) (he : EffsIn s o.effs) : m_base_Apply t s (j : Int) = some (succ o s, true) := by
  have hj := lt_of_get ho
  unfold m_base_Apply
  rw [if_neg (by omega), if_neg (by omega), atI_eq, ho, bnd_some, holds_eq, bnd_some, hp, if_t, bnd_some, if_f, appI_eq (by simp; omega) (by simp; omega), bnd_some, bnd_some, List.nil_append, effs_run he m_base_Holds holds_eq s rfl, bnd_some, fin_d]
  rfl
theorem effsOn_ok {vars s : List Int} : ∀ (l : List Eff), (∀ e ∈ l, EffOk vars e) → ∀ (u : List Int), StateOk vars u → StateOk vars (effsOn s l u)
  | [], _, _, hu => hu
  | e :: l, he, u, hu => by
    refine effsOn_ok l (fun e' h' => he e' (List.mem_cons_of_mem _ h')) _ ?_
    split
    · obtain ⟨_, h1, h2, y, hy, h3⟩ := he e List.mem_cons_self
      refine ⟨by rw [List.length_set]; exact hu.1, fun i x n hx hn => ?_⟩
      rw [List.getElem?_set] at hx
      by_cases hi : e.var.toNat = i
      · subst hi
        rw [if_pos rfl] at hx
        split at hx
        · obtain rfl := Option.some.inj hx
          simp only at hy h2 h3
          rw [hy] at hn
          obtain rfl := Option.some.inj hn
          exact ⟨h2, h3⟩
        · cases hx
      · rw [if_neg hi] at hx
        exact hu.2 i x n hx hn
    · exact hu
theorem succ_ok {t : Tsk} (h : TaskOk t) {s : List Int} (hs : StateOk t.vars s) {k : Nat} {o : Opr} (ho : t.ops[k]? = some o) : StateOk t.vars (succ o s) :=
  effsOn_ok o.effs (fun e he => by obtain ⟨j, hj⟩ := List.getElem?_of_mem he; exact (h.2.2.2.2.2 k o ho).2.2.2.2.2 j e hj) s hs
theorem apply_all {t : Tsk} (h : TaskOk t) {s : List Int} (hs : StateOk t.vars s) {k : Nat} {o : Opr} (ho : t.ops[k]? = some o) : m_base_Apply t s (k : Int) = some (if holdsB o.pre s = true then (succ o s, true) else ([], false)) := by
  have hk := lt_of_get ho
  by_cases hp : holdsB o.pre s = true
  · rw [apply_eq ho hp (by have := hs.1; have := h.1; omega) (h.effs hs k o ho), if_pos hp]
  · unfold m_base_Apply
    rw [if_neg (by omega), if_neg (by omega), atI_eq, ho, bnd_some, holds_eq, bnd_some, if_neg hp, if_neg hp, bnd_some, if_t]
theorem flat_get {n : Nat} (hn : 0 < n) : ∀ (l : List (List Int)) (q : Nat), (l.flatMap (exts n))[q]? = (l[q / n]?).map (· ++ [((q % n : Nat) : Int)])
  | [], q => by simp
  | a :: l, q => by
    rw [List.flatMap_cons]
    by_cases hq : q < n
    · rw [List.getElem?_append_left (by rw [exts_len]; exact hq), Nat.div_eq_of_lt hq, Nat.mod_eq_of_lt hq]
      simp [exts, hq]
    · rw [List.getElem?_append_right (by rw [exts_len]; omega), exts_len, flat_get hn l (q - n)]
      obtain ⟨r, rfl⟩ : ∃ r, q = r + n := ⟨q - n, by omega⟩
      rw [Nat.add_sub_cancel, Nat.add_div_right _ hn, Nat.add_mod_right]
      simp
theorem states_inj {vars : List Int} (hv : ∀ (i : Nat) n, vars[i]? = some n → 1 ≤ n) : ∀ (k : Nat), k ≤ vars.length → ∀ (i j : Nat) (s : List Int), (statesL (vars.take k))[i]? = some s → (statesL (vars.take k))[j]? = some s → i = j
  | 0, _, i, j, s, h1, h2 => by
    have e1 := lt_of_get h1
    have e2 := lt_of_get h2
    simp [statesL] at e1 e2
    omega
  | k + 1, hk, i, j, s, h1, h2 => by
    obtain ⟨n, hn⟩ := some_of_lt (l := vars) (k := k) (by omega)
    have hn1 := hv k n hn
    rw [statesL_step hn] at h1 h2
    unfold grows at h1 h2
    rw [flat_get (by omega)] at h1 h2
    obtain ⟨p, hp, rfl⟩ := Option.map_eq_some_iff.1 h1
    obtain ⟨p', hp', e⟩ := Option.map_eq_some_iff.1 h2
    obtain ⟨e1, e2⟩ := List.append_inj' e rfl
    subst e1
    have := states_inj hv k (by omega) _ _ _ hp hp'
    have e3 : j % n.toNat = i % n.toNat := by
      have := List.singleton_inj.1 e2
      omega
    have d1 := Nat.div_add_mod i n.toNat
    have d2 := Nat.div_add_mod j n.toNat
    rw [this, ← e3] at d1
    omega
theorem states_uniq {t : Tsk} (h : TaskOk t) {i j : Nat} {s : List Int} (h1 : (statesL t.vars)[i]? = some s) (h2 : (statesL t.vars)[j]? = some s) : i = j := by
  have := states_inj (vars := t.vars) (fun i n hn => (h.vars i n hn).1) t.vars.length (Nat.le_refl _) i j s
  rw [List.take_length] at this
  exact this h1 h2
theorem rank_at {t : Tsk} (h : SmallOk t) {s : List Int} (hs : StateOk t.vars s) : ∃ i : Nat, m_base_Rank t.vars s = some (i : Int) ∧ (statesL t.vars)[i]? = some s := by
  unfold m_base_Rank
  obtain ⟨r, h1, i, rfl, h2⟩ := rng_all (ρ := Int) (f := fun (k11 : Nat) (a12 : Int) (s9 : Int) => bnd (t.vars[k11]?) fun a24 => bnd (chkI (s9 * a24)) fun n34 => bnd (chkI (n34 + a12)) fun n45 => some (.next n45)) (xs := s) (s₀ := 0) (fun k r => ∃ i : Nat, r = (i : Int) ∧ (statesL (t.vars.take k))[i]? = some (s.take k)) ⟨0, rfl, by simp [statesL]⟩ (fun k x r hk hI => by
    obtain ⟨i, rfl, hi⟩ := hI
    have hlt := lt_of_get hk
    obtain ⟨n, hn⟩ := some_of_lt (l := t.vars) (k := k) (by rw [← hs.1]; exact hlt)
    have hn1 := h.ok.vars k n hn
    obtain ⟨hx1, hx2⟩ := hs.2 k x n hk hn
    obtain ⟨x, rfl⟩ := Int.eq_ofNat_of_zero_le hx1
    obtain ⟨n, rfl⟩ := Int.eq_ofNat_of_zero_le (by omega : 0 ≤ n)
    have hget : (statesL (t.vars.take (k + 1)))[i * n + x]? = some (s.take (k + 1)) := by
      rw [statesL_step hn]
      show ((statesL (t.vars.take k)).flatMap (exts ((n : Int)).toNat))[i * n + x]? = _
      rw [show ((n : Int)).toNat = n from by omega, flat_get (by omega)]
      have e1 : (i * n + x) / n = i := by
        rw [Nat.mul_comm, Nat.mul_add_div (by omega), Nat.div_eq_of_lt (by omega)]; omega
      have e2 : (i * n + x) % n = x := by
        rw [Nat.mul_comm, Nat.mul_add_mod, Nat.mod_eq_of_lt (by omega)]
      rw [e1, e2, hi, List.take_add_one, hk]; rfl
    have hb := lt_of_get hget
    have hb2 := h.states (k + 1)
    have e3 : (i : Int) * (n : Int) = ((i * n : Nat) : Int) := by simp
    rw [hn, bnd_some, e3, chkI_eq (by unfold inI64; omega), bnd_some, chkI_eq (by unfold inI64; omega), bnd_some]
    exact ⟨_, rfl, i * n + x, by omega, hget⟩)
  rw [List.take_length, hs.1, List.take_length] at h2
  exact ⟨i, by rw [h1, bnd_some, fin_d], h2⟩
/-- A step from a state to another, both by rank. -/
def EdgeOk (t : Tsk) (e : Edg) : Prop := ∃ (i k j : Nat) (s : List Int) (o : Opr), e = ⟨i, k, j⟩ ∧ (statesL t.vars)[i]? = some s ∧ t.ops[k]? = some o ∧ holdsB o.pre s = true ∧ (statesL t.vars)[j]? = some (succ o s)
theorem edges_eq {t : Tsk} (h : SmallOk t) : ∃ es, m_base_Edges t = some es ∧ ∀ e, e ∈ es ↔ EdgeOk t e := by
  have hlen : (statesL t.vars).length ≤ 512 := by have := h.states t.vars.length; rwa [List.take_length] at this
  have hops := h.2.1
  have uniq : ∀ {i i' : Nat} {s : List Int}, (statesL t.vars)[i]? = some s → (statesL t.vars)[i']? = some s → i = i' := fun h1 h2 => states_uniq h.ok h1 h2
  unfold m_base_Edges
  rw [states_small h, bnd_some]
  obtain ⟨es, h1, h2, h3⟩ := rng_all (ρ := List Edg) (f := fun (k38 : Nat) (a39 : List Int) (s36 : (List Edg)) => bnd (rng (ρ := Ctl (List Edg) (List Edg)) (fun (k70 : Nat) (_ : Opr) (s68 : (List Edg)) => bnd (m_base_Apply t a39 (k70 : Int)) fun q85 => if q85.2 = true then (bnd (m_base_Rank t.vars q85.1) fun q99 => bnd (appI 24 s68 [(⟨(k38 : Int), (k70 : Int), q99⟩ : Edg)]) fun u107 => some (.next u107)) else (some (.next s68))) t.ops 0 s36) fun res66 => fin res66 fun (s123 : (List Edg)) => some (.next s123)) (xs := statesL t.vars) (s₀ := [])
    (fun n acc => acc.length ≤ n * 20 ∧ ∀ e, e ∈ acc ↔ EdgeOk t e ∧ e.src < (n : Int)) ⟨by simp, fun e => ⟨fun he => by simp at he, fun ⟨⟨i, _, _, _, _, hE, _⟩, hlt⟩ => by subst hE; simp only at hlt; omega⟩⟩ (fun n s acc hn hI => by
      obtain ⟨i1, i2⟩ := hI
      have hnlt := lt_of_get hn
      have hs : StateOk t.vars s := mem_statesL.1 (List.mem_of_getElem? hn)
      obtain ⟨es, g1, g2, g3⟩ := rng_all (ρ := Ctl (List Edg) (List Edg)) (f := fun (k70 : Nat) (_ : Opr) (s68 : (List Edg)) => bnd (m_base_Apply t s (k70 : Int)) fun q85 => if q85.2 = true then (bnd (m_base_Rank t.vars q85.1) fun q99 => bnd (appI 24 s68 [(⟨(n : Int), (k70 : Int), q99⟩ : Edg)]) fun u107 => some (.next u107)) else (some (.next s68))) (xs := t.ops) (s₀ := acc)
        (fun m acc' => acc'.length ≤ n * 20 + m ∧ ∀ e, e ∈ acc' ↔ EdgeOk t e ∧ (e.src < (n : Int) ∨ e.src = (n : Int) ∧ e.op < (m : Int))) ⟨by omega, fun e => by
          rw [i2]
          constructor
          · rintro ⟨a, b⟩; exact ⟨a, .inl b⟩
          · rintro ⟨a, b | ⟨b, c⟩⟩
            · exact ⟨a, b⟩
            · obtain ⟨i, k, j, s', o, rfl, _⟩ := a
              simp at c; omega⟩ (fun m o acc' hm hI => by
          obtain ⟨j1, j2⟩ := hI
          have hmlt := lt_of_get hm
          rw [apply_all h.ok hs hm, bnd_some]
          by_cases hp : holdsB o.pre s = true
          · obtain ⟨r, hr, hr2⟩ := rank_at h (succ_ok h.ok hs hm)
            rw [if_pos hp, if_t, hr, bnd_some, appI_eq (by simp; omega) (by simp; omega), bnd_some]
            refine ⟨_, rfl, by simp; omega, fun e => ?_⟩
            rw [List.mem_append, j2]
            constructor
            · rintro (⟨a, b⟩ | hmem)
              · refine ⟨a, ?_⟩
                rcases b with b | ⟨b, c⟩
                · exact .inl b
                · exact .inr ⟨b, by omega⟩
              · obtain rfl : e = ⟨(n : Int), (m : Int), (r : Int)⟩ := by simpa using hmem
                exact ⟨⟨n, m, r, s, o, rfl, hn, hm, hp, hr2⟩, .inr ⟨rfl, by simp; omega⟩⟩
            · rintro ⟨a, b⟩
              obtain ⟨i, k, j, s', o', rfl, a1, a2, a3, a4⟩ := a
              simp only at b
              by_cases hc : i = n ∧ k = m
              · obtain ⟨rfl, rfl⟩ := hc
                obtain rfl : s' = s := by rw [hn] at a1; exact (Option.some.inj a1).symm
                obtain rfl : o' = o := by rw [hm] at a2; exact (Option.some.inj a2).symm
                obtain rfl := uniq a4 hr2
                exact .inr (by simp)
              · exact .inl ⟨⟨i, k, j, s', o', rfl, a1, a2, a3, a4⟩, by simp only; omega⟩
          · rw [if_neg hp]
            refine ⟨_, if_neg (by simp), by omega, fun e => ?_⟩
            rw [j2]
            constructor
            · rintro ⟨a, b⟩
              refine ⟨a, ?_⟩
              rcases b with b | ⟨b, c⟩
              · exact .inl b
              · exact .inr ⟨b, by omega⟩
            · rintro ⟨a, b⟩
              obtain ⟨i, k, j, s', o', rfl, a1, a2, a3, a4⟩ := a
              simp only at b
              by_cases hc : i = n ∧ k = m
              · obtain ⟨rfl, rfl⟩ := hc
                obtain rfl : s' = s := by rw [hn] at a1; exact (Option.some.inj a1).symm
                obtain rfl : o' = o := by rw [hm] at a2; exact (Option.some.inj a2).symm
                exact absurd a3 hp
              · exact ⟨⟨i, k, j, s', o', rfl, a1, a2, a3, a4⟩, by simp only; omega⟩)
      rw [g1, bnd_some, fin_d]
      refine ⟨_, rfl, by omega, fun e => ?_⟩
      rw [g3]
      constructor
      · rintro ⟨a, b⟩
        exact ⟨a, by rcases b with b | ⟨b, _⟩ <;> omega⟩
      · rintro ⟨a, b⟩
        refine ⟨a, ?_⟩
        obtain ⟨i, k, j, s', o', rfl, a1, a2, a3, a4⟩ := a
        simp only at b ⊢
        have := lt_of_get a2
        omega)
  refine ⟨es, by rw [h1, bnd_some, fin_d], fun e => ?_⟩
  rw [h3]
  refine ⟨fun a => a.1, fun a => ⟨a, ?_⟩⟩
  obtain ⟨i, k, j, s', o', rfl, a1, a2, a3, a4⟩ := a
  have := lt_of_get a1
  simp only; omega
end
section
open Go Go.RowKit
/-- A way to the goal with its cost. -/
inductive Walk (t : Tsk) : List Int → Int → Prop
  | goal {s : List Int} : holdsB t.goal s = true → Walk t s 0
  | step {s : List Int} {k : Nat} {o : Opr} {c : Int} : t.ops[k]? = some o → holdsB o.pre s = true → Walk t (succ o s) c → Walk t s (c + o.cost)
def Inf : Int := 1125899906842624
theorem lop_wf {σ ρ : Type} {f : σ → Option (Ctl σ ρ)} (I : σ → Prop) (B : σ → Prop) (μ : σ → Nat) (h : ∀ s, I s → (∃ s', f s = some (.next s') ∧ I s' ∧ μ s' < μ s) ∨ (∃ s', f s = some (.brk s') ∧ B s')) : ∀ s, I s → ∃ s', lop f s = some (.done s') ∧ B s' := by
  have key : ∀ (n : Nat) s, I s → μ s < n → ∃ s', itr f n s = some (.done s') ∧ B s' := by
    intro n
    induction n with
    | zero => intro s _ h0; omega
    | succ n ih =>
      intro s hs hn
      rcases h s hs with ⟨s', h1, h2, h3⟩ | ⟨s', h1, h2⟩
      · obtain ⟨r, hr, hb⟩ := ih s' h2 (by omega)
        exact ⟨r, by simp only [itr, h1]; exact hr, hb⟩
      · exact ⟨s', by simp only [itr, h1], h2⟩
  intro s hs
  obtain ⟨r, hr, hb⟩ := key (μ s + 1) s hs (by omega)
  exact ⟨r, lop_some.2 ⟨_, hr⟩, hb⟩
def sumN : List Int → Nat
  | [] => 0
  | x :: l => x.toNat + sumN l
theorem sumN_set : ∀ (l : List Int) (i : Nat) (x y : Int), l[i]? = some x → 0 ≤ y → y < x → sumN (l.set i y) < sumN l
  | [], i, x, y, h, _, _ => by simp at h
  | a :: l, 0, x, y, h, h1, h2 => by
    obtain rfl : a = x := by simpa using h
    show y.toNat + sumN l < a.toNat + sumN l
    omega
  | a :: l, i + 1, x, y, h, h1, h2 => by
    have := sumN_set l i x y (by simpa using h) h1 h2
    show a.toNat + sumN (l.set i y) < a.toNat + sumN l
    omega
/-- What is true of distances at all times. -/
def DistI (t : Tsk) (d : List Int) : Prop := d.length = (statesL t.vars).length ∧ ∀ (i : Nat) s, (statesL t.vars)[i]? = some s → ∃ c, d[i]? = some c ∧ 0 ≤ c ∧ c ≤ Inf ∧ (c < Inf → Walk t s c) ∧ (holdsB t.goal s = true → c = 0)
/-- The distances are the least costs. -/
def DistP (t : Tsk) (d : List Int) : Prop := DistI t d ∧ ∀ (i : Nat) s c C, (statesL t.vars)[i]? = some s → d[i]? = some c → Walk t s C → c ≤ C
theorem take_mem {α : Type} {l : List α} {k : Nat} {x y : α} (h : l[k]? = some x) : y ∈ l.take (k + 1) ↔ y ∈ l.take k ∨ y = x := by
  rw [List.take_add_one, h, List.mem_append]; simp
theorem dist_eq {t : Tsk} (h : SmallOk t) : ∃ d, m_base_Distances t = some d ∧ DistP t d := by
  have hlen : (statesL t.vars).length ≤ 512 := by have := h.states t.vars.length; rwa [List.take_length] at this
  unfold m_base_Distances
  rw [states_small h, bnd_some, mkI_eq (by omega) (by omega), bnd_some]
  obtain ⟨d0, h1, h2, h3⟩ := rng_all (ρ := List Int) (f := fun (k53 : Nat) (a54 : List Int) (s51 : (List Int)) => bnd (s51[k53]?) fun _ => bnd (m_base_Holds t.goal a54) fun q91 => if q91 = true then bnd ((s51.set k53 1125899906842624)[k53]?) fun _ => some (.next ((s51.set k53 1125899906842624).set k53 0)) else some (.next (s51.set k53 1125899906842624))) (xs := statesL t.vars) (s₀ := List.replicate (statesL t.vars).length 0)
    (fun n d => d.length = (statesL t.vars).length ∧ ∀ (i : Nat) s, i < n → (statesL t.vars)[i]? = some s → d[i]? = some (if holdsB t.goal s = true then 0 else Inf)) ⟨by simp, fun i s hi => by omega⟩ (fun n s d hn hI => by
      obtain ⟨i1, i2⟩ := hI
      have hlt := lt_of_get hn
      obtain ⟨u, hu⟩ := some_of_lt (l := d) (k := n) (by omega)
      rw [hu, bnd_some, holds_eq, bnd_some]
      by_cases hg : holdsB t.goal s = true
      · rw [if_pos hg, List.getElem?_set_self (by omega), bnd_some]
        refine ⟨_, rfl, by simpa using i1, fun i s' hi hs' => ?_⟩
        by_cases e : i = n
        · subst e
          obtain rfl : s' = s := by rw [hn] at hs'; exact (Option.some.inj hs').symm
          rw [List.getElem?_set_self (by simp; omega), if_pos hg]
        · rw [List.getElem?_set_ne (by omega), List.getElem?_set_ne (by omega)]
          exact i2 i s' (by omega) hs'
      · rw [if_neg hg]
        refine ⟨_, rfl, by simpa using i1, fun i s' hi hs' => ?_⟩
        by_cases e : i = n
        · subst e
          obtain rfl : s' = s := by rw [hn] at hs'; exact (Option.some.inj hs').symm
          rw [List.getElem?_set_self (by omega), if_neg hg]; rfl
        · rw [List.getElem?_set_ne (by omega)]
          exact i2 i s' (by omega) hs')
  obtain ⟨es, he, hes⟩ := edges_eq h
  rw [h1, bnd_some, fin_d, he, bnd_some]
  have hd0 : DistI t d0 := ⟨h2, fun i s hi => by
    refine ⟨_, h3 i s (lt_of_get hi) hi, ?_⟩
    by_cases hg : holdsB t.goal s = true
    · rw [if_pos hg]; exact ⟨by omega, by unfold Inf; omega, fun _ => .goal hg, fun _ => rfl⟩
    · rw [if_neg hg]; exact ⟨by unfold Inf; omega, by omega, fun hh => absurd hh (by omega), fun hh => absurd hh hg⟩⟩
  -- one pass over the edges
  have pass : ∀ d, DistI t d → ∃ (d' : List Int) (b : Bool), rng (ρ := Ctl ((List Int) × Bool) (List Int)) (fun (_ : Nat) (a152 : Edg) (s149 : (List Int) × Bool) => bnd (atI t.ops a152.op) fun a183 => bnd (bnd (atI s149.1 a152.dst) fun a208 => if a208 < 1125899906842624 then (bnd (atI s149.1 a152.dst) fun a221 => bnd (chkI (a221 + a183.cost)) fun n233 => bnd (atI s149.1 a152.src) fun a236 => if n233 < a236 then (some true) else (some false)) else (some false) : Option Bool) fun y204 => if y204 = true then (bnd (atI s149.1 a152.dst) fun a254 => bnd (chkI (a254 + a183.cost)) fun n266 => bnd (atI s149.1 a152.src) fun _ => some (.next ((s149.1.set (a152.src).toNat n266), true))) else (some (.next (s149.1, s149.2)))) es 0 (d, false) = some (.done (d', b)) ∧ DistI t d' ∧ (b = true → sumN d' < sumN d) ∧ (b = false → d' = d ∧ ∀ e ∈ es, ∀ (i k j : Nat) o x y, e = ⟨i, k, j⟩ → t.ops[k]? = some o → d[i]? = some x → d[j]? = some y → y < Inf → x ≤ y + o.cost) := by
    intro d hd
    obtain ⟨⟨d', b⟩, g1, g2, g3, g4⟩ := rng_all (ρ := Ctl ((List Int) × Bool) (List Int)) (f := fun (_ : Nat) (a152 : Edg) (s149 : (List Int) × Bool) => bnd (atI t.ops a152.op) fun a183 => bnd (bnd (atI s149.1 a152.dst) fun a208 => if a208 < 1125899906842624 then (bnd (atI s149.1 a152.dst) fun a221 => bnd (chkI (a221 + a183.cost)) fun n233 => bnd (atI s149.1 a152.src) fun a236 => if n233 < a236 then (some true) else (some false)) else (some false) : Option Bool) fun y204 => if y204 = true then (bnd (atI s149.1 a152.dst) fun a254 => bnd (chkI (a254 + a183.cost)) fun n266 => bnd (atI s149.1 a152.src) fun _ => some (.next ((s149.1.set (a152.src).toNat n266), true))) else (some (.next (s149.1, s149.2)))) (xs := es) (s₀ := (d, false))
      (fun m r => DistI t r.1 ∧ (r.2 = true → sumN r.1 < sumN d) ∧ (r.2 = false → r.1 = d ∧ ∀ e ∈ es.take m, ∀ (i k j : Nat) o x y, e = ⟨i, k, j⟩ → t.ops[k]? = some o → d[i]? = some x → d[j]? = some y → y < Inf → x ≤ y + o.cost)) ⟨hd, fun hh => by simp at hh, fun _ => ⟨rfl, fun e he => by simp at he⟩⟩ (fun m e r hm hI => by
        obtain ⟨i1, i2, i3⟩ := hI
        obtain ⟨r1, r2⟩ := r
        simp only at i1 i2 i3
        obtain ⟨i, k, j, s, o, rfl, a1, a2, a3, a4⟩ := (hes e).1 (List.mem_of_getElem? hm)
        obtain ⟨x, x1, x2, x3, x4, x5⟩ := i1.2 i s a1
        obtain ⟨y, y1, y2, y3, y4, y5⟩ := i1.2 j _ a4
        have hco := h.ok.2.2.2.2.2 k o a2
        have hc1 := hco.1
        have hc2 := hco.2.1
        simp only
        rw [atI_eq, a2, bnd_some, atI_eq, y1, bnd_some, atI_eq, x1]
        have keep : ∀ (hx : y < Inf → x ≤ y + o.cost), DistI t r1 ∧ (r2 = true → sumN r1 < sumN d) ∧ (r2 = false → r1 = d ∧ ∀ e ∈ es.take (m + 1), ∀ (i k j : Nat) o x y, e = ⟨i, k, j⟩ → t.ops[k]? = some o → d[i]? = some x → d[j]? = some y → y < Inf → x ≤ y + o.cost) := fun hx => by
          refine ⟨i1, i2, fun hf => ⟨(i3 hf).1, fun e' he' => ?_⟩⟩
          obtain ⟨e1, e2⟩ := i3 hf
          rcases (take_mem hm).1 he' with hh | rfl
          · exact e2 e' hh
          · intro i' k' j' o' x' y' hE ho' hx' hy' hlt
            injection hE with h1 h2 h3
            obtain rfl : i = i' := by omega
            obtain rfl : k = k' := by omega
            obtain rfl : j = j' := by omega
            obtain rfl : o = o' := by rw [a2] at ho'; exact Option.some.inj ho'
            rw [← e1, x1] at hx'
            rw [← e1, y1] at hy'
            obtain rfl := Option.some.inj hx'
            obtain rfl := Option.some.inj hy'
            exact hx hlt
        by_cases hy : y < 1125899906842624
        · rw [if_pos hy, bnd_some, chkI_eq (by unfold inI64; unfold Inf at *; omega), bnd_some, bnd_some]
          by_cases hx : y + o.cost < x
          · rw [if_pos hx, bnd_some, if_t, bnd_some, chkI_eq (by unfold inI64; unfold Inf at *; omega), bnd_some, bnd_some]
            refine ⟨_, rfl, ⟨by simpa using i1.1, fun i' s' hs' => ?_⟩, fun _ => ?_, fun hh => by simp at hh⟩
            · show ∃ c, (r1.set ((i : Int)).toNat (y + o.cost))[i']? = some c ∧ _
              rw [show ((i : Int)).toNat = i from by omega]
              by_cases e : i = i'
              · subst e
                obtain rfl : s = s' := by rw [a1] at hs'; exact Option.some.inj hs'
                refine ⟨_, by rw [List.getElem?_set_self (lt_of_get x1)], by omega, by omega, fun _ => .step a2 a3 (y4 hy), fun hg => ?_⟩
                have := x5 hg; omega
              · rw [List.getElem?_set_ne e]; exact i1.2 i' s' hs'
            · show sumN (r1.set ((i : Int)).toNat (y + o.cost)) < _
              rw [show ((i : Int)).toNat = i from by omega]
              have hlt := sumN_set r1 i x (y + o.cost) x1 (by omega) hx
              cases hr : r2 with
              | true => have := i2 hr; omega
              | false => rw [(i3 hr).1] at hlt; rwa [(i3 hr).1]
          · rw [if_neg hx, bnd_some, if_f]
            exact ⟨_, rfl, keep fun _ => by omega⟩
        · rw [if_neg hy, bnd_some, if_f]
          exact ⟨_, rfl, keep fun hh => absurd hh hy⟩)
    refine ⟨d', b, g1, g2, g3, fun hb => ?_⟩
    obtain ⟨e1, e2⟩ := g4 hb
    rw [List.take_length] at e2
    exact ⟨e1, e2⟩
  obtain ⟨⟨d, b⟩, l1, l2, l3⟩ := lop_wf (ρ := List Int) (f := fun (s127 : (List Int) × Bool) => if s127.2 = true then (bnd (rng (ρ := Ctl ((List Int) × Bool) (List Int)) (fun (_ : Nat) (a152 : Edg) (s149 : (List Int) × Bool) => bnd (atI t.ops a152.op) fun a183 => bnd (bnd (atI s149.1 a152.dst) fun a208 => if a208 < 1125899906842624 then (bnd (atI s149.1 a152.dst) fun a221 => bnd (chkI (a221 + a183.cost)) fun n233 => bnd (atI s149.1 a152.src) fun a236 => if n233 < a236 then (some true) else (some false)) else (some false) : Option Bool) fun y204 => if y204 = true then (bnd (atI s149.1 a152.dst) fun a254 => bnd (chkI (a254 + a183.cost)) fun n266 => bnd (atI s149.1 a152.src) fun _ => some (.next ((s149.1.set (a152.src).toNat n266), true))) else (some (.next (s149.1, s149.2)))) es 0 (s127.1, false)) fun res147 => fin res147 fun (s287 : (List Int) × Bool) => some (.next (s287.1, s287.2))) else (some (.brk (s127.1, s127.2))))
    (fun r => DistI t r.1 ∧ (r.2 = false → ∀ e ∈ es, ∀ (i k j : Nat) o x y, e = ⟨i, k, j⟩ → t.ops[k]? = some o → r.1[i]? = some x → r.1[j]? = some y → y < Inf → x ≤ y + o.cost)) (fun r => DistI t r.1 ∧ ∀ e ∈ es, ∀ (i k j : Nat) o x y, e = ⟨i, k, j⟩ → t.ops[k]? = some o → r.1[i]? = some x → r.1[j]? = some y → y < Inf → x ≤ y + o.cost) (fun r => 2 * sumN r.1 + if r.2 = true then 1 else 0) (fun r hr => by
      obtain ⟨r1, r2⟩ := r
      obtain ⟨i1, i2⟩ := hr
      cases r2 with
      | true =>
        obtain ⟨d', b, p1, p2, p3, p4⟩ := pass r1 i1
        refine .inl ⟨(d', b), ?_, ⟨p2, fun hb => ?_⟩, ?_⟩
        · simp only [if_true]
          rw [p1, bnd_some, fin_d]
        · obtain ⟨e1, e2⟩ := p4 hb
          show ∀ e ∈ es, _
          intro e he i k j o x y hE ho hx hy
          simp only at hx hy
          rw [e1] at hx hy
          exact e2 e he i k j o x y hE ho hx hy
        · cases b with
          | true => have := p3 rfl; simp; omega
          | false => rw [(p4 rfl).1]; simp
      | false => exact .inr ⟨(r1, false), by simp, i1, i2 rfl⟩) (d0, true) ⟨hd0, fun hh => by simp at hh⟩
  refine ⟨d, by rw [l1, bnd_some, fin_d], l2, fun i s c C hi hc hw => ?_⟩
  induction hw generalizing i c with
  | goal hg =>
    obtain ⟨c', q1, _, _, _, q5⟩ := l2.2 i _ hi
    rw [hc] at q1
    obtain rfl := Option.some.inj q1
    have := q5 hg; omega
  | @step s k o C' ho hp hw ih =>
    have hs : StateOk t.vars s := mem_statesL.1 (List.mem_of_getElem? hi)
    obtain ⟨j, _, hj⟩ := rank_at h (succ_ok h.ok hs ho)
    obtain ⟨y, y1, y2, y3, y4, y5⟩ := l2.2 j _ hj
    have h5 := ih j y hj y1
    obtain ⟨x, x1, x2, x3, x4, x5⟩ := l2.2 i s hi
    rw [x1] at hc
    obtain rfl := Option.some.inj hc
    have hco := (h.ok.2.2.2.2.2 k o ho).1
    by_cases hy : y < Inf
    · have := l3 ⟨i, k, j⟩ ((hes _).2 ⟨i, k, j, s, o, rfl, hi, ho, hp, hj⟩) i k j o x y rfl ho x1 y1 hy
      omega
    · omega
end
section
open Go Go.RowKit
structure QEn where
  key : Int
  tie : Int
  item : Int
  number : Int
theorem take_get' {α : Type} {l : List α} {m i : Nat} {x : α} (h : (l.take m)[i]? = some x) : l[i]? = some x := by
  by_cases hi : i < m
  · rwa [List.getElem?_take_of_lt hi] at h
  · rw [List.getElem?_take_eq_none (by omega)] at h; cases h
/-- Comes first: by key, tie, number. -/
def bfr (x y : QEn) : Prop := x.key < y.key ∨ (x.key = y.key ∧ (x.tie < y.tie ∨ (x.tie = y.tie ∧ x.number < y.number)))
instance (x y : QEn) : Decidable (bfr x y) := by unfold bfr; infer_instance
/-- Does not come first. -/
def nb (x y : QEn) : Prop := ¬ bfr x y
theorem nb_trans {x y z : QEn} (h1 : nb x y) (h2 : nb y z) : nb x z := by unfold nb bfr at *; omega
theorem nb_of {x y : QEn} (h : bfr x y) : nb y x := by unfold nb bfr at *; omega
theorem nb_rfl (x : QEn) : nb x x := by unfold nb bfr; omega
theorem nb_key {x y : QEn} (h : nb x y) : y.key ≤ x.key := by unfold nb bfr at h; omega
def HeapOk (l : List QEn) : Prop := ∀ (j : Nat) x y, 0 < j → l[j]? = some x → l[(j - 1) / 2]? = some y → nb x y
def Over (l : List QEn) (i : Nat) : Prop := ∀ (j : Nat) x y, 0 < i → 0 < j → (j - 1) / 2 = i → l[j]? = some x → l[(i - 1) / 2]? = some y → nb x y
def UpI (l : List QEn) (i : Nat) : Prop := (∀ (j : Nat) x y, 0 < j → j ≠ i → l[j]? = some x → l[(j - 1) / 2]? = some y → nb x y) ∧ Over l i
def DownI (l : List QEn) (i : Nat) : Prop := (∀ (j : Nat) x y, 0 < j → (j - 1) / 2 ≠ i → l[j]? = some x → l[(j - 1) / 2]? = some y → nb x y) ∧ Over l i
theorem swp_get {l : List QEn} {i j : Nat} {a b : QEn} (hi : l[i]? = some a) (hj : l[j]? = some b) (hne : i ≠ j) (k : Nat) : ((l.set i b).set j a)[k]? = if k = j then some a else if k = i then some b else l[k]? := by
  by_cases h1 : k = j
  · subst h1; rw [if_pos rfl, List.getElem?_set_self (by simpa using lt_of_get hj)]
  · rw [if_neg h1, List.getElem?_set_ne (by omega)]
    by_cases h2 : k = i
    · subst h2; rw [if_pos rfl, List.getElem?_set_self (lt_of_get hi)]
    · rw [if_neg h2, List.getElem?_set_ne (by omega)]
theorem swp_perm {l : List QEn} {i j : Nat} {a b : QEn} (hi : l[i]? = some a) (hj : l[j]? = some b) : ((l.set i b).set j a).Perm l := by
  have h1 := lt_of_get hi
  have h2 := lt_of_get hj
  have e1 : l[i] = a := by rw [List.getElem?_eq_getElem h1] at hi; exact Option.some.inj hi
  have e2 : l[j] = b := by rw [List.getElem?_eq_getElem h2] at hj; exact Option.some.inj hj
  rw [← e1, ← e2]
  exact List.set_set_perm h1 h2
theorem UpI.step {l : List QEn} {i : Nat} {a b : QEn} (h : UpI l i) (h0 : 0 < i) (hi : l[i]? = some a) (hj : l[(i - 1) / 2]? = some b) (hb : bfr a b) : UpI ((l.set i b).set ((i - 1) / 2) a) ((i - 1) / 2) := by
  have hne : i ≠ (i - 1) / 2 := by omega
  constructor
  · intro j x y hj0 hjp hx hy
    rw [swp_get hi hj hne, if_neg hjp] at hx
    rw [swp_get hi hj hne] at hy
    by_cases e1 : j = i
    · subst e1
      rw [if_pos rfl] at hx hy
      obtain rfl := Option.some.inj hx
      obtain rfl := Option.some.inj hy
      exact nb_of hb
    · rw [if_neg e1] at hx
      by_cases e2 : (j - 1) / 2 = (i - 1) / 2
      · rw [if_pos e2] at hy
        obtain rfl := Option.some.inj hy
        have := h.1 j x b hj0 e1 hx (by rw [e2]; exact hj)
        exact nb_trans this (nb_of hb)
      · rw [if_neg e2] at hy
        by_cases e3 : (j - 1) / 2 = i
        · rw [if_pos e3] at hy
          obtain rfl := Option.some.inj hy
          exact h.2 j x b h0 hj0 e3 hx hj
        · rw [if_neg e3] at hy
          exact h.1 j x y hj0 e1 hx hy
  · intro j x y hp0 hj0 hjp hx hy
    rw [swp_get hi hj hne] at hx hy
    have n1 : ((i - 1) / 2 - 1) / 2 ≠ (i - 1) / 2 := by omega
    have n2 : ((i - 1) / 2 - 1) / 2 ≠ i := by omega
    rw [if_neg n1, if_neg n2] at hy
    have hpp := h.1 ((i - 1) / 2) b y hp0 (by omega) hj hy
    rw [if_neg (by omega)] at hx
    by_cases e1 : j = i
    · subst e1
      rw [if_pos rfl] at hx
      obtain rfl := Option.some.inj hx
      exact hpp
    · rw [if_neg e1] at hx
      exact nb_trans (h.1 j x b hj0 e1 hx (by rw [hjp]; exact hj)) hpp
theorem UpI.heap {l : List QEn} {i : Nat} (h : UpI l i) (hi : i = 0 ∨ ∀ x y, l[i]? = some x → l[(i - 1) / 2]? = some y → nb x y) : HeapOk l := fun j x y hj hx hy => by
  by_cases e : j = i
  · subst e
    rcases hi with h0 | h1
    · omega
    · exact h1 x y hx hy
  · exact h.1 j x y hj e hx hy
theorem DownI.step {l : List QEn} {i c : Nat} {a b : QEn} (h : DownI l i) (hc : c = 2 * i + 1 ∨ c = 2 * i + 2) (hi : l[i]? = some a) (hj : l[c]? = some b) (hb : bfr b a) (hs : ∀ (j : Nat) x, 0 < j → (j - 1) / 2 = i → l[j]? = some x → nb x b) : DownI ((l.set i b).set c a) c := by
  have hne : i ≠ c := by omega
  have hcp : (c - 1) / 2 = i := by omega
  constructor
  · intro j x y hj0 hjp hx hy
    rw [swp_get hi hj hne] at hx hy
    rw [if_neg hjp] at hy
    by_cases e1 : j = c
    · subst e1
      rw [if_pos rfl] at hx
      rw [if_pos hcp] at hy
      obtain rfl := Option.some.inj hx
      obtain rfl := Option.some.inj hy
      exact nb_of hb
    · rw [if_neg e1] at hx
      by_cases e2 : j = i
      · subst e2
        rw [if_pos rfl] at hx
        rw [if_neg (by omega)] at hy
        obtain rfl := Option.some.inj hx
        exact h.2 c _ y hj0 (by omega) hcp hj hy
      · rw [if_neg e2] at hx
        by_cases e3 : (j - 1) / 2 = i
        · rw [if_pos e3] at hy
          obtain rfl := Option.some.inj hy
          exact hs j x hj0 e3 hx
        · rw [if_neg e3] at hy
          exact h.1 j x y hj0 e3 hx hy
  · intro j x y hc0 hj0 hjc hx hy
    rw [swp_get hi hj hne] at hx hy
    rw [if_neg (by omega), if_neg (by omega)] at hx
    rw [if_neg (by omega), if_pos hcp] at hy
    obtain rfl := Option.some.inj hy
    exact h.1 j x _ hj0 (by omega) hx (by rw [hjc]; exact hj)
theorem DownI.heap {l : List QEn} {i : Nat} (h : DownI l i) (hi : ∀ (j : Nat) x y, 0 < j → (j - 1) / 2 = i → l[j]? = some x → l[i]? = some y → nb x y) : HeapOk l := fun j x y hj hx hy => by
  by_cases e : (j - 1) / 2 = i
  · exact hi j x y hj e hx (by rw [← e]; exact hy)
  · exact h.1 j x y hj e hx hy
theorem heap_root {l : List QEn} (h : HeapOk l) {e : QEn} (he : l[0]? = some e) : ∀ x ∈ l, nb x e := by
  have key : ∀ (n j : Nat) x, j ≤ n → l[j]? = some x → nb x e := by
    intro n
    induction n with
    | zero =>
      intro j x hj hx
      have hj0 : j = 0 := by omega
      rw [hj0, he] at hx
      rw [← Option.some.inj hx]
      exact nb_rfl _
    | succ n ih =>
      intro j x hj hx
      by_cases h0 : j = 0
      · exact ih j x (by omega) hx
      · obtain ⟨y, hy⟩ := some_of_lt (l := l) (k := (j - 1) / 2) (by have := lt_of_get hx; omega)
        exact nb_trans (h j x y (by omega) hx hy) (ih ((j - 1) / 2) y (by omega) hy)
  intro x hx
  obtain ⟨j, hj⟩ := List.getElem?_of_mem hx
  exact key j j x (by omega) hj
end
section
open Go Go.RowKit
abbrev BQ := BxR 98 96 Itm
abbrev AI := An 96 Itm
def toQ (x : Itm) : QEn := ⟨x.cost, 0, x.id, x.order⟩
def qs (l : List Itm) : List QEn := l.map toQ
theorem qs_len (l : List Itm) : (qs l).length = l.length := by simp [qs]
theorem qs_get {l : List Itm} {i : Nat} {x : Itm} (h : l[i]? = some x) : (qs l)[i]? = some (toQ x) := by unfold qs; rw [List.getElem?_map, h]; rfl
theorem qs_set (l : List Itm) (i : Nat) (x : Itm) : qs (l.set i x) = (qs l).set i (toQ x) := by unfold qs; rw [List.map_set]
theorem qs_take (l : List Itm) (n : Nat) : qs (l.take n) = (qs l).take n := by unfold qs; rw [List.map_take]
theorem bLess_eq {l : List Itm} {i j : Nat} {a b : Itm} (ha : l[i]? = some a) (hb : l[j]? = some b) : m_breadth_queue_Less l (i : Int) (j : Int) = some (decide (bfr (toQ a) (toQ b))) := by
  unfold m_breadth_queue_Less
  rw [atI_eq, ha, bnd_some, atI_eq, hb, bnd_some, bnd_some, bnd_some, bnd_some, bnd_some]
  unfold bfr toQ
  by_cases h1 : a.cost < b.cost
  · rw [if_pos h1, bnd_some]; simp [h1]
  · rw [if_neg h1]
    by_cases h2 : a.cost = b.cost
    · rw [if_pos h2]
      by_cases h3 : a.order < b.order
      · rw [if_pos h3, bnd_some]; simp [h2, h3]
      · rw [if_neg h3, bnd_some]; simp [h2, h3]
    · rw [if_neg h2, bnd_some]; simp [h1, h2]
theorem bSwap_eq {l : List Itm} {i j : Nat} {a b : Itm} (ha : l[i]? = some a) (hb : l[j]? = some b) : m_breadth_queue_Swap l (i : Int) (j : Int) = some ((l.set i b).set j a) := by
  have hil := lt_of_get ha
  have hjl := lt_of_get hb
  obtain ⟨c, hc⟩ := some_of_lt (l := l.set i b) (k := j) (by simp; exact hjl)
  unfold m_breadth_queue_Swap
  rw [atI_eq, hb, bnd_some, atI_eq, ha, bnd_some, bnd_some, Int.toNat_natCast, atI_eq, hc, bnd_some, Int.toNat_natCast]
theorem hup_eq {q : BQ} {i : Nat} (hi : i < q.l.length) (hl : q.l.length ≤ 1000000) (h : UpI (qs q.l) i) : ∃ r, m_container_heap_up q (i : Int) = some r ∧ HeapOk (qs r.l) ∧ (qs r.l).Perm (qs q.l) := by
  unfold m_container_heap_up
  refine lop_ex (fun s => ∃ i : Nat, s.1 = (i : Int) ∧ i < s.2.l.length ∧ UpI (qs s.2.l) i ∧ (qs s.2.l).Perm (qs q.l)) (fun s => HeapOk (qs s.2.l) ∧ (qs s.2.l).Perm (qs q.l)) (fun _ => False) (fun s => s.1.toNat) ⟨i, rfl, hi, h, List.Perm.refl _⟩ ?_ (fun s hs => ⟨_, rfl, hs⟩) (fun s hs => hs.elim)
  rintro ⟨c, s⟩ ⟨i, hc, hi, hu, hp⟩
  dsimp only at hc hi hu hp ⊢
  subst hc
  have hlen := hp.length_eq
  rw [qs_len, qs_len] at hlen
  rw [chkI_eq (by unfold inI64; omega), bnd_some]
  by_cases h0 : 0 < (i : Int)
  · have hq : quoT ((i : Int) - 1) 2 = some (((i - 1) / 2 : Nat) : Int) := by
      unfold quoT; rw [if_pos (by omega), if_pos (by omega)]; congr 1; omega
    obtain ⟨a, ha⟩ := some_of_lt (l := s.l) (k := i) hi
    obtain ⟨b, hb⟩ := some_of_lt (l := s.l) (k := (i - 1) / 2) (by omega)
    rw [hq, bnd_some, if_neg (by omega), bLess_eq ha hb, bnd_some]
    by_cases hab : bfr (toQ a) (toQ b)
    · rw [decide_eq_true hab, if_t, bnd_some, if_f, bSwap_eq hb ha, bnd_some]
      have e1 : qs ((s.l.set ((i - 1) / 2) a).set i b) = ((qs s.l).set i (toQ b)).set ((i - 1) / 2) (toQ a) := by
        rw [qs_set, qs_set, List.set_comm _ _ (by omega)]
      refine .inl ⟨_, rfl, ⟨(i - 1) / 2, rfl, by simp; omega, ?_, ?_⟩, ?_⟩
      · dsimp only; rw [e1]; exact hu.step (by omega) (qs_get ha) (qs_get hb) hab
      · dsimp only; rw [e1]; exact (swp_perm (qs_get ha) (qs_get hb)).trans hp
      · dsimp only; omega
    · rw [decide_eq_false hab, if_f, bnd_some, if_t]
      refine .inr (.inl ⟨_, rfl, hu.heap (.inr fun x y hx hy => ?_), hp⟩)
      rw [qs_get ha] at hx
      rw [qs_get hb] at hy
      obtain rfl := Option.some.inj hx
      obtain rfl := Option.some.inj hy
      exact hab
  · have h00 : i = 0 := by omega
    subst h00
    have hq : quoT (((0 : Nat) : Int) - 1) 2 = some 0 := rfl
    rw [hq, bnd_some, if_pos (show (0 : Int) = ((0 : Nat) : Int) from rfl), bnd_some, if_t]
    exact .inr (.inl ⟨_, rfl, hu.heap (.inl rfl), hp⟩)
theorem hpush_eq {q : BQ} (h : HeapOk (qs q.l)) (hl : q.l.length ≤ 900000) (x : Itm) : ∃ r, m_container_heap_Push q ⟨x⟩ = some r ∧ HeapOk (qs r.l) ∧ (qs r.l).Perm (toQ x :: qs q.l) := by
  unfold m_container_heap_Push m_breadth_queue_Push m_breadth_queue_Len
  rw [appI_eq (by simp; omega) (by simp; omega), bnd_some, bnd_some, bnd_some, chkI_eq (by unfold inI64; simp; omega), bnd_some]
  have hlen : (((q.l ++ [x]).length : Int) - 1) = ((q.l.length : Nat) : Int) := by simp
  rw [hlen]
  have eq1 : qs (q.l ++ [x]) = qs q.l ++ [toQ x] := by simp [qs]
  obtain ⟨r, r1, r2, r3⟩ := hup_eq (q := ⟨q.l ++ [x]⟩) (i := q.l.length) (by simp) (by simp; omega) ⟨fun j y z hj hji hx hy => by
    dsimp only at hx hy
    rw [eq1] at hx hy
    have hjl : j < (qs q.l).length := by have := lt_of_get hx; simp at this; rw [qs_len] at this ⊢; omega
    rw [List.getElem?_append_left hjl] at hx
    rw [List.getElem?_append_left (by omega)] at hy
    exact h j y z hj hx hy, fun j y z h1 h2 h3 hx hy => by
    dsimp only at hx
    have := lt_of_get hx
    rw [qs_len] at this
    simp at this
    omega⟩
  rw [r1, bnd_some]
  refine ⟨_, rfl, r2, r3.trans ?_⟩
  dsimp only
  rw [eq1]
  exact List.perm_append_comm (l₁ := qs q.l) (l₂ := [_])
theorem hdown_eq {q : BQ} {n : Nat} (hn : n ≤ q.l.length) (hl : q.l.length ≤ 1000000) (h : DownI (qs (q.l.take n)) 0) : ∃ r, m_container_heap_down q 0 (n : Int) = some r ∧ HeapOk (qs (r.2.l.take n)) ∧ (qs (r.2.l.take n)).Perm (qs (q.l.take n)) ∧ r.2.l.drop n = q.l.drop n ∧ r.2.l.length = q.l.length := by
  unfold m_container_heap_down
  refine lop_ex (fun s => ∃ i : Nat, s.1 = (i : Int) ∧ DownI (qs (s.2.l.take n)) i ∧ i ≤ n ∧ (qs (s.2.l.take n)).Perm (qs (q.l.take n)) ∧ s.2.l.drop n = q.l.drop n ∧ s.2.l.length = q.l.length) (fun s => HeapOk (qs (s.2.l.take n)) ∧ (qs (s.2.l.take n)).Perm (qs (q.l.take n)) ∧ s.2.l.drop n = q.l.drop n ∧ s.2.l.length = q.l.length) (fun _ => False) (fun s => n - s.1.toNat) ⟨0, rfl, h, by omega, List.Perm.refl _, rfl, rfl⟩ ?_ ?_ (fun s hs => hs.elim)
  · rintro ⟨c, s⟩ ⟨i, hc, hd, hi, hp, hdr, hsl⟩
    dsimp only at hc hd hi hp hdr hsl ⊢
    subst hc
    rw [chkI_eq (by unfold inI64; omega), bnd_some, chkI_eq (by unfold inI64; omega), bnd_some]
    by_cases h1 : (n : Int) ≤ 2 * (i : Int) + 1
    · rw [if_pos h1, bnd_some, if_t]
      refine .inr (.inl ⟨_, rfl, hd.heap fun j x y hj hji hx _ => ?_, hp, hdr, hsl⟩)
      have := lt_of_get hx
      rw [qs_len, List.length_take] at this
      omega
    rw [if_neg h1, if_neg (by omega), bnd_some, if_f]
    obtain ⟨a, ha⟩ := some_of_lt (l := s.l) (k := i) (by omega)
    obtain ⟨b, hb⟩ := some_of_lt (l := s.l) (k := 2 * i + 1) (by omega)
    have tk : ∀ {k : Nat} {x : Itm}, k < n → s.l[k]? = some x → (qs (s.l.take n))[k]? = some (toQ x) := fun {k x} hk hx => qs_get (by rw [List.getElem?_take_of_lt hk]; exact hx)
    have cast1 : 2 * (i : Int) + 1 = ((2 * i + 1 : Nat) : Int) := by omega
    have cast2 : 2 * (i : Int) + 1 + 1 = ((2 * i + 2 : Nat) : Int) := by omega
    have rest : ∀ (c : Nat) (d : Itm), (c = 2 * i + 1 ∨ c = 2 * i + 2) → c < n → s.l[c]? = some d → (∀ (j : Nat) x, 0 < j → (j - 1) / 2 = i → (qs (s.l.take n))[j]? = some x → nb x (toQ d)) → (∃ s', (bnd (m_breadth_queue_Less s.l (c : Int) (i : Int)) fun q97 => if q97 = true then bnd (m_breadth_queue_Swap s.l (i : Int) (c : Int)) fun q109 => some (Ctl.next (ρ := Bool × BQ) ((c : Int), (⟨q109⟩ : BQ))) else some (.brk ((i : Int), s))) = some (.next s') ∧ (∃ i : Nat, s'.1 = (i : Int) ∧ DownI (qs (s'.2.l.take n)) i ∧ i ≤ n ∧ (qs (s'.2.l.take n)).Perm (qs (q.l.take n)) ∧ s'.2.l.drop n = q.l.drop n ∧ s'.2.l.length = q.l.length) ∧ n - s'.1.toNat < n - ((i : Int)).toNat) ∨ (∃ s', (bnd (m_breadth_queue_Less s.l (c : Int) (i : Int)) fun q97 => if q97 = true then bnd (m_breadth_queue_Swap s.l (i : Int) (c : Int)) fun q109 => some (Ctl.next (ρ := Bool × BQ) ((c : Int), (⟨q109⟩ : BQ))) else some (.brk ((i : Int), s))) = some (.brk s') ∧ HeapOk (qs (s'.2.l.take n)) ∧ (qs (s'.2.l.take n)).Perm (qs (q.l.take n)) ∧ s'.2.l.drop n = q.l.drop n ∧ s'.2.l.length = q.l.length) ∨ ∃ r, (bnd (m_breadth_queue_Less s.l (c : Int) (i : Int)) fun q97 => if q97 = true then bnd (m_breadth_queue_Swap s.l (i : Int) (c : Int)) fun q109 => some (Ctl.next (ρ := Bool × BQ) ((c : Int), (⟨q109⟩ : BQ))) else some (.brk ((i : Int), s))) = some (.ret r) ∧ False := by
      intro c d hc hcn hd' hs
      rw [bLess_eq hd' ha, bnd_some]
      have e1 : qs (((s.l.set i d).set c a).take n) = ((qs (s.l.take n)).set i (toQ d)).set c (toQ a) := by
        rw [List.take_set, List.take_set, qs_set, qs_set]
      by_cases hda : bfr (toQ d) (toQ a)
      · rw [decide_eq_true hda, if_t, bSwap_eq ha hd', bnd_some]
        refine .inl ⟨_, rfl, ⟨c, rfl, ?_, by omega, ?_, ?_, by simp; exact hsl⟩, ?_⟩
        · dsimp only; rw [e1]; exact hd.step hc (tk (by omega) ha) (tk hcn hd') hda hs
        · dsimp only; rw [e1]; exact (swp_perm (tk (by omega) ha) (tk hcn hd')).trans hp
        · dsimp only
          rw [← hdr]
          apply List.ext_getElem?
          intro k
          rw [List.getElem?_drop, List.getElem?_drop, List.getElem?_set_ne (by omega), List.getElem?_set_ne (by omega)]
        · dsimp only; omega
      · rw [decide_eq_false hda, if_f]
        refine .inr (.inl ⟨_, rfl, hd.heap fun j x y hj hji hx hy => ?_, hp, hdr, hsl⟩)
        rw [tk (by omega) ha] at hy
        obtain rfl := Option.some.inj hy
        exact nb_trans (hs j x hj hji hx) hda
    rw [chkI_eq (by unfold inI64; omega), bnd_some]
    by_cases h2 : 2 * (i : Int) + 1 + 1 < (n : Int)
    · obtain ⟨d, hd'⟩ := some_of_lt (l := s.l) (k := 2 * i + 2) (by omega)
      rw [if_pos h2, cast2, cast1, bLess_eq hd' hb, bnd_some]
      by_cases hdb : bfr (toQ d) (toQ b)
      · rw [decide_eq_true hdb, if_t, bnd_some, if_t, bnd_some]
        refine rest (2 * i + 2) d (.inr rfl) (by omega) hd' fun j x hj hji hx => ?_
        have : j = 2 * i + 1 ∨ j = 2 * i + 2 := by omega
        rcases this with rfl | rfl
        · rw [tk (by omega) hb] at hx; obtain rfl := Option.some.inj hx; exact nb_of hdb
        · rw [tk (by omega) hd'] at hx; obtain rfl := Option.some.inj hx; exact nb_rfl _
      · rw [decide_eq_false hdb, if_f, bnd_some, if_f, bnd_some]
        refine rest (2 * i + 1) b (.inl rfl) (by omega) hb fun j x hj hji hx => ?_
        have : j = 2 * i + 1 ∨ j = 2 * i + 2 := by omega
        rcases this with rfl | rfl
        · rw [tk (by omega) hb] at hx; obtain rfl := Option.some.inj hx; exact nb_rfl _
        · rw [tk (by omega) hd'] at hx; obtain rfl := Option.some.inj hx; exact hdb
    · rw [if_neg h2, bnd_some, if_f, bnd_some, cast1]
      refine rest (2 * i + 1) b (.inl rfl) (by omega) hb fun j x hj hji hx => ?_
      have : j = 2 * i + 1 := by have := lt_of_get hx; rw [qs_len, List.length_take] at this; omega
      subst this
      rw [tk (by omega) hb] at hx; obtain rfl := Option.some.inj hx; exact nb_rfl _
  · intro s hs
    by_cases hz : 0 < s.1
    · rw [fin_d, if_pos hz, bnd_some]; exact ⟨_, rfl, hs⟩
    · rw [fin_d, if_neg hz, bnd_some]; exact ⟨_, rfl, hs⟩
theorem hpop_eq {q : BQ} (h : HeapOk (qs q.l)) (h0 : 0 < q.l.length) (hl : q.l.length ≤ 900000) : ∃ r, m_container_heap_Pop q = some r ∧ ∃ (e : Itm) (q' : BQ), r = ((⟨e⟩ : AI), q') ∧ HeapOk (qs q'.l) ∧ (qs q.l).Perm (toQ e :: qs q'.l) ∧ ∀ x ∈ qs q.l, nb x (toQ e) := by
  obtain ⟨e, he⟩ := some_of_lt (l := q.l) (k := 0) h0
  obtain ⟨z, hz⟩ := some_of_lt (l := q.l) (k := q.l.length - 1) (by omega)
  have cz : ((q.l.length : Int) - 1) = ((q.l.length - 1 : Nat) : Int) := by omega
  have sw : m_breadth_queue_Swap q.l 0 ((q.l.length - 1 : Nat) : Int) = some ((q.l.set 0 z).set (q.l.length - 1) e) := bSwap_eq (i := 0) he hz
  unfold m_container_heap_Pop m_breadth_queue_Len
  rw [bnd_some, chkI_eq (by unfold inI64; omega), bnd_some, cz, sw, bnd_some]
  have tk : ((q.l.set 0 z).set (q.l.length - 1) e).take (q.l.length - 1) = (q.l.set 0 z).take (q.l.length - 1) := by
    rw [List.take_set]
    exact List.set_eq_of_length_le (by simp)
  have hperm : (qs q.l).Perm (toQ e :: qs ((q.l.set 0 z).take (q.l.length - 1))) := by
    have : q.l.Perm (e :: (q.l.set 0 z).take (q.l.length - 1)) := by
      cases hq : q.l with
      | nil => rw [hq] at h0; simp at h0
      | cons a tl =>
        rw [hq] at he hz
        simp at he
        subst he
        cases htl : tl.reverse with
        | nil =>
          have : tl = [] := by simpa using htl
          subst this
          simp
        | cons w r =>
          have htl' : tl = r.reverse ++ [w] := by have := congrArg List.reverse htl; simpa using this
          subst htl'
          simp at hz
          subst hz
          simp
    exact this.map toQ
  obtain ⟨r, r1, r2, r3, r4, r5⟩ := hdown_eq (q := ⟨(q.l.set 0 z).set (q.l.length - 1) e⟩) (n := q.l.length - 1) (by simp) (by simp; omega) (by
    dsimp only
    rw [tk]
    refine ⟨fun j x y hj hjp hx hy => ?_, fun j x y h1 => by omega⟩
    rw [qs_take, qs_set] at hx hy
    have hx' := take_get' hx
    have hy' := take_get' hy
    rw [List.getElem?_set_ne (by omega)] at hx' hy'
    exact h j x y hj hx' hy')
  dsimp only at r3 r4 r5
  rw [tk] at r3
  simp only [List.length_set] at r5
  rw [r1, bnd_some]
  unfold m_breadth_queue_Pop
  have hlast : r.2.l[q.l.length - 1]? = some e := by
    have : (r.2.l.drop (q.l.length - 1))[0]? = some e := by
      rw [r4, List.getElem?_drop, Nat.add_zero, List.getElem?_set_self (by simp; omega)]
    rwa [List.getElem?_drop, Nat.add_zero] at this
  have hcut : cutI r.2.l 0 ((q.l.length - 1 : Nat) : Int) = some (r.2.l.take (q.l.length - 1)) := by
    unfold cutI
    rw [if_pos (by simp; omega)]
    simp
  rw [r5, cz, chkI_eq (by unfold inI64; omega), bnd_some, atI_eq, hlast, bnd_some, hcut, bnd_some, bnd_some]
  exact ⟨_, rfl, e, ⟨r.2.l.take (q.l.length - 1)⟩, rfl, r2, hperm.trans (List.Perm.cons _ r3.symm), heap_root h (qs_get he)⟩
end
section
open Go Go.RowKit
attribute [local irreducible] ewp owp hwp hwq hws Ev Evg Fn retPost loud loudS Res1
structure Rsl where
  verdict : Int
  plan : List Int
  cost : Int
  expanded : Int
instance : Rp Rsl where
  isAgg := true
  size := 4
  R w F cs x := ∃ v0, cs = [.int .i64 x.verdict, v0, .int .i64 x.cost, .int .i64 x.expanded] ∧ Vb w F v0 x.plan ∧ inI64 x.verdict ∧ inI64 x.cost ∧ inI64 x.expanded
  len := by rintro w F cs x ⟨v0, rfl, h0, h1, h2, h3⟩; rfl
  one := by rintro w F cs x ⟨v0, rfl, h0, h1, h2, h3⟩ u hu; simp at hu; rcases hu with rfl | rfl | rfl | rfl <;> first | rfl | exact Vb.one rfl (by assumption)
  agree := by rintro w w' F cs x ⟨v0, rfl, h0, h1, h2, h3⟩ ha; exact ⟨v0, rfl, h0.agree ha, h1, h2, h3⟩
  mono := by rintro w F G cs x ⟨v0, rfl, h0, h1, h2, h3⟩ ha; exact ⟨v0, rfl, h0.mono ha, h1, h2, h3⟩
end
section
open Go Go.RowKit
/-- A plan leads from a state to another at a cost. -/
inductive PlanR (t : Tsk) : List Int → List Int → List Int → Int → Prop
  | nil {s : List Int} : PlanR t s [] s 0
  | cons {s rest s' : List Int} {k : Nat} {o : Opr} {C : Int} : t.ops[k]? = some o → holdsB o.pre s = true → PlanR t (succ o s) rest s' C → PlanR t s ((k : Int) :: rest) s' (o.cost + C)
theorem tholds_eq (f : List Fct) (s : List Int) : m_task_Holds f s = some (holdsB f s) := rfl
theorem cost_loop {t : Tsk} (h : TaskOk t) {s plan s' : List Int} {C : Int} (hr : PlanR t s plan s' C) : ∀ (j : Nat) (c : Int), StateOk t.vars s → 0 ≤ c → c + plan.length * 1048576 ≤ 1000000000000000 →
    rng (ρ := Int × Bool) (fun (_ : Nat) (a34 : Int) (s31 : (List Int) × Int) => bnd (m_base_Apply t s31.1 a34) fun q56 => if (!q56.2) = true then (some (.ret (0, false))) else (bnd (atI t.ops a34) fun a70 => bnd (chkI (s31.2 + a70.cost)) fun n91 => some (.next (q56.1, n91)))) plan j (s, c) = some (.done (s', c + C)) := by
  induction hr with
  | nil => intro j c _ _ _; simp [rng]
  | @cons s rest s' k o C ho hp hr ih =>
    intro j c hs hc hb
    simp only [List.length_cons] at hb
    have hoo := h.2.2.2.2.2 k o ho
    have h1 := hoo.1
    have h2 := hoo.2.1
    have e2 : (bnd (m_base_Apply t s (k : Int)) fun q56 => if (!q56.2) = true then (some (.ret (0, false))) else (bnd (atI t.ops (k : Int)) fun a70 => bnd (chkI (c + a70.cost)) fun n91 => some (.next (q56.1, n91))) : Option (Ctl (List Int × Int) (Int × Bool))) = some (.next (succ o s, c + o.cost)) := by
      rw [apply_all h hs ho, if_pos hp, bnd_some, if_neg (by simp), atI_eq, ho, bnd_some, chkI_eq (by unfold inI64; omega), bnd_some]
    simp only [rng, e2]
    rw [ih (j + 1) (c + o.cost) (succ_ok h hs ho) (by omega) (by omega), Int.add_assoc]
theorem cost_eq {t : Tsk} (h : TaskOk t) {s plan s' : List Int} {C : Int} (hs : StateOk t.vars s) (hr : PlanR t s plan s' C) (hl : plan.length ≤ 1000) : m_base_Cost t s plan = some (C, holdsB t.goal s') := by
  unfold m_base_Cost
  rw [cost_loop h hr 0 0 hs (by omega) (by omega), bnd_some, fin_d, holds_eq, bnd_some, Int.zero_add]
  cases holdsB t.goal s' <;> rfl
end
section
open Go Go.RowKit
theorem ex_next {σ ρ : Type} {x : Option (Ctl σ ρ)} {I : σ → Prop} (h : ∃ r, x = some r ∧ ∃ s', r = Ctl.next s' ∧ I s') : ∃ s', x = some (.next s') ∧ I s' := by
  obtain ⟨_, h1, s', rfl, h2⟩ := h
  exact ⟨s', h1, h2⟩
def FldOk (W : Nat) (f : PFd) (n : Int) : Prop := ∃ k b w : Nat, f = ⟨k, b, w, n⟩ ∧ k < W ∧ b + w ≤ 64 ∧ w ≤ 6 ∧ n ≤ 2 ^ w
/-- Fields that lie behind one another, one for each variable. -/
def PkOk (vars : List Int) (p : Pkr) : Prop := p.fields.length = vars.length ∧ (∃ W : Nat, p.words = (W : Int) ∧ 1 ≤ W ∧ W ≤ vars.length + 1 ∧ ∀ (i : Nat) f n, p.fields[i]? = some f → vars[i]? = some n → FldOk W f n) ∧
  ∀ (i j : Nat) f g, i < j → p.fields[i]? = some f → p.fields[j]? = some g → f.word < g.word ∨ (f.word = g.word ∧ f.bit + f.width ≤ g.bit)
theorem shl_one : ∀ {w : Nat}, w ≤ 6 → shlI 1 (w : Int) = some ((2 ^ w : Nat) : Int) := by
  intro w h
  have : w = 0 ∨ w = 1 ∨ w = 2 ∨ w = 3 ∨ w = 4 ∨ w = 5 ∨ w = 6 := by omega
  rcases this with rfl | rfl | rfl | rfl | rfl | rfl | rfl <;> rfl
theorem pow_le6 {w : Nat} {n : Int} (hw : w ≤ 6) (h : ((2 ^ w : Nat) : Int) < n) (hn : n ≤ 64) : w < 6 := by
  rcases Nat.lt_or_ge w 6 with hh | hh
  · exact hh
  · obtain rfl : w = 6 := by omega
    simp at h; omega
/-- All fields lie before a place. -/
def PkI (vars : List Int) (B W : Nat) (fs : List PFd) : Prop := (∀ (i : Nat) f n, fs[i]? = some f → vars[i]? = some n → FldOk W f n) ∧
  (∀ (i j : Nat) f g, i < j → fs[i]? = some f → fs[j]? = some g → f.word < g.word ∨ (f.word = g.word ∧ f.bit + f.width ≤ g.bit)) ∧ ∀ (i : Nat) f, fs[i]? = some f → f.word + 1 < (W : Int) ∨ (f.word + 1 = (W : Int) ∧ f.bit + f.width ≤ (B : Int))
theorem PkI.over {vars : List Int} {B W : Nat} {fs : List PFd} (h : PkI vars B W fs) : PkI vars 0 (W + 1) fs :=
  ⟨fun i f n hf hn => by obtain ⟨k, b, w, e, e1, e2⟩ := h.1 i f n hf hn; exact ⟨k, b, w, e, by omega, e2⟩, h.2.1, fun i f hf => by have := h.2.2 i f hf; omega⟩
theorem app_get {α : Type} {l : List α} {x y : α} {i : Nat} (h : (l ++ [x])[i]? = some y) : l[i]? = some y ∨ (i = l.length ∧ y = x) := by
  rcases Nat.lt_trichotomy i l.length with hi | hi | hi
  · rw [List.getElem?_append_left hi] at h; exact .inl h
  · subst hi; simp at h; exact .inr ⟨rfl, h.symm⟩
  · rw [List.getElem?_append_right (by omega)] at h
    rw [List.getElem?_eq_none (by simp; omega)] at h
    cases h
theorem PkI.add {vars : List Int} {B W w : Nat} {fs : List PFd} {n : Int} (h : PkI vars B W fs) (hW : 1 ≤ W) (hn : vars[fs.length]? = some n) (hB : B + w ≤ 64) (hw : w ≤ 6) (hnw : n ≤ 2 ^ w) : PkI vars (B + w) W (fs ++ [⟨(W : Int) - 1, (B : Int), (w : Int), n⟩]) := by
  refine ⟨fun i f n' hf hn' => ?_, fun i j f g hij hf hg => ?_, fun i f hf => ?_⟩
  · rcases app_get hf with hh | ⟨rfl, rfl⟩
    · exact h.1 i f n' hh hn'
    · rw [hn] at hn'
      obtain rfl := Option.some.inj hn'
      exact ⟨W - 1, B, w, by congr 1; omega, by omega, hB, hw, hnw⟩
  · rcases app_get hg with hh | ⟨rfl, rfl⟩
    · rcases app_get hf with hk | ⟨rfl, rfl⟩
      · exact h.2.1 i j f g hij hk hh
      · have := lt_of_get hh; omega
    · rcases app_get hf with hk | ⟨rfl, rfl⟩
      · have := h.2.2 i f hk
        dsimp only
        omega
      · omega
  · rcases app_get hf with hh | ⟨rfl, rfl⟩
    · have := h.2.2 i f hh; omega
    · dsimp only; omega
/-- The packer of proper variables. -/
theorem packNew_eq {vars : List Int} (hl : vars.length ≤ 64) (hv : ∀ (i : Nat) n, vars[i]? = some n → 1 ≤ n ∧ n ≤ 64) : ∃ r, m_pack_New vars = some r ∧ ∃ p, r = (some p, ⟨0⟩) ∧ PkOk vars p := by
  unfold m_pack_New
  rw [if_neg (by omega)]
  refine rng_ex (fun m s => ∃ B W : Nat, s.1 = (B : Int) ∧ B ≤ 64 ∧ s.2.words = (W : Int) ∧ 1 ≤ W ∧ W ≤ m + 1 ∧ s.2.fields.length = m ∧ PkI vars B W s.2.fields) (fun _ => False)
    ⟨0, 1, rfl, by omega, rfl, by omega, by omega, rfl, fun i f n h => by simp at h, fun i j f g _ h => by simp at h, fun i f h => by simp at h⟩ ?_ ?_ (fun q hq => hq.elim)
  · rintro m n ⟨s1, s2⟩ hm ⟨B, W, hs1, hB, hW, hW1, hWm, hlen, hI⟩
    dsimp only at hs1 hW hlen hI
    subst hs1
    obtain ⟨hn1, hn2⟩ := hv m n hm
    have hml := lt_of_get hm
    refine .inl (ex_next ?_)
    rw [if_neg (by omega), if_neg (by omega), bnd_some, if_f]
    refine lop_ex (fun c => ∃ w : Nat, c = (w : Int) ∧ w ≤ 6) (fun c => ∃ w : Nat, c = (w : Int) ∧ w ≤ 6 ∧ n ≤ 2 ^ w) (fun _ => False) (fun c => 7 - c.toNat) ⟨0, rfl, by omega⟩ ?_ ?_ (fun q hq => hq.elim)
    · rintro c ⟨w, rfl, hw⟩
      rw [shl_one hw, bnd_some]
      by_cases hlt : ((2 ^ w : Nat) : Int) < n
      · have := pow_le6 hw hlt hn2
        rw [if_pos hlt, chkI_eq (by unfold inI64; omega), bnd_some]
        exact .inl ⟨_, rfl, ⟨w + 1, by omega, by omega⟩, by omega⟩
      · rw [if_neg hlt]
        refine .inr (.inl ⟨_, rfl, w, rfl, hw, ?_⟩)
        have : ((2 ^ w : Nat) : Int) = (2 : Int) ^ w := by simp
        omega
    · rintro c ⟨w, rfl, hw, hnw⟩
      rw [fin_d, chkI_eq (by unfold inI64; omega), bnd_some]
      have fin' : ∀ (B' W' : Nat) (q : Pkr), B' + w ≤ 64 → 1 ≤ W' → W' ≤ m + 2 → q.words = (W' : Int) → q.fields = s2.fields → PkI vars B' W' s2.fields → ∃ r, (bnd (chkI (q.words - 1)) fun n133 => bnd (appI 32 q.fields [(⟨n133, (B' : Int), (w : Int), n⟩ : PFd)]) fun u142 => bnd (chkI ((B' : Int) + (w : Int))) fun n155 => some (Ctl.next (ρ := (Option Pkr) × Err) (n155, (⟨u142, q.words⟩ : Pkr)))) = some r ∧ ∃ s', r = Ctl.next s' ∧ ∃ B W : Nat, s'.1 = (B : Int) ∧ B ≤ 64 ∧ s'.2.words = (W : Int) ∧ 1 ≤ W ∧ W ≤ m + 1 + 1 ∧ s'.2.fields.length = m + 1 ∧ PkI vars B W s'.2.fields := by
        intro B' W' q hB' hW' hWm' hq1 hq2 hI'
        rw [hq1, hq2, chkI_eq (by unfold inI64; omega), bnd_some, appI_eq (by simp; omega) (by simp; omega), bnd_some, chkI_eq (by unfold inI64; omega), bnd_some]
        exact ⟨_, rfl, _, rfl, B' + w, W', by simp, hB', rfl, hW', by omega, by simp [hlen], hI'.add hW' (by rw [hlen]; exact hm) hB' hw hnw⟩
      by_cases hover : 64 < (B : Int) + (w : Int)
      · rw [if_pos hover]
        dsimp only
        rw [hW, chkI_eq (by unfold inI64; omega), bnd_some, bnd_some]
        exact fin' 0 (W + 1) ⟨s2.fields, (W : Int) + 1⟩ (by omega) (by omega) (by omega) (by simp) rfl hI.over
      · rw [if_neg hover, bnd_some]
        exact fin' B W s2 (by omega) hW1 (by omega) hW rfl hI
  · rintro ⟨s1, s2⟩ ⟨B, W, hs1, hB, hW, hW1, hWm, hlen, hI⟩
    exact ⟨_, rfl, s2, rfl, hlen, ⟨W, hW, hW1, hWm, hI.1⟩, hI.2.1⟩
/-- A bit that a field's value sets. -/
def InF (f : PFd) (x : Int) (k c : Nat) : Prop := f.word = (k : Int) ∧ f.bit ≤ (c : Int) ∧ (c : Int) < f.bit + f.width ∧ x.toNat.testBit (c - f.bit.toNat) = true
def Bits (fs : List PFd) (s : List Int) (p : Nat → Prop) (ws : List U64) : Prop := ∀ (k c : Nat) a, ws[k]? = some a → c < 64 → (a.getLsbD c = true ↔ ∃ (i : Nat) (f : PFd) (x : Int), p i ∧ fs[i]? = some f ∧ s[i]? = some x ∧ InF f x k c)
theorem ones {w : Nat} (h : w ≤ 6) : ((1 : U64) <<< w) - (1 : U64) = BitVec.ofNat 64 (2 ^ w - 1) := by
  have : w = 0 ∨ w = 1 ∨ w = 2 ∨ w = 3 ∨ w = 4 ∨ w = 5 ∨ w = 6 := by omega
  rcases this with rfl | rfl | rfl | rfl | rfl | rfl | rfl <;> rfl
theorem mask_bit {w b c : Nat} (hw : w ≤ 6) (hc : c < 64) : ((((1 : U64) <<< w) - (1 : U64)) <<< b).getLsbD c = (decide (b ≤ c) && decide (c < b + w)) := by
  rw [ones hw, BitVec.getLsbD_shiftLeft, BitVec.getLsbD_ofNat, Nat.testBit_two_pow_sub_one]
  by_cases h1 : b ≤ c <;> by_cases h2 : c < b + w <;> simp [h1, h2, hc] <;> omega
theorem val_bit {x : Int} {w j : Nat} (h0 : 0 ≤ x) (h1 : x < 2 ^ w) (ht : x.toNat.testBit j = true) : j < w := by
  rcases Nat.lt_or_ge j w with h | h
  · exact h
  · have h2 : x.toNat < 2 ^ w := by
      have : ((2 ^ w : Nat) : Int) = (2 : Int) ^ w := by simp
      omega
    rw [Nat.testBit_lt_two_pow (Nat.lt_of_lt_of_le h2 (Nat.pow_le_pow_right (by omega) h))] at ht
    cases ht
theorem PkOk.field {vars : List Int} {p : Pkr} (h : PkOk vars p) {s : List Int} (hs : StateOk vars s) {i : Nat} {f : PFd} (hf : p.fields[i]? = some f) : ∃ (k b w : Nat) (n x : Int), f = ⟨k, b, w, n⟩ ∧ (k : Int) < p.words ∧ b + w ≤ 64 ∧ w ≤ 6 ∧ s[i]? = some x ∧ 0 ≤ x ∧ x < n ∧ x < 2 ^ w := by
  obtain ⟨h1, ⟨W, hW, _, _, h2⟩, h3⟩ := h
  have hi := lt_of_get hf
  obtain ⟨n, hn⟩ := some_of_lt (l := vars) (k := i) (by omega)
  obtain ⟨x, hx⟩ := some_of_lt (l := s) (k := i) (by have := hs.1; omega)
  obtain ⟨k, b, w, e, e1, e2, e3, e4⟩ := h2 i f n hf hn
  have := hs.2 i x n hx hn
  exact ⟨k, b, w, n, x, e, by omega, e2, e3, hx, this.1, this.2, by omega⟩
theorem PkOk.same {vars : List Int} {p : Pkr} (h : PkOk vars p) {i j : Nat} {f g : PFd} {k c : Nat} (hf : p.fields[i]? = some f) (hg : p.fields[j]? = some g) (h1 : f.word = (k : Int) ∧ f.bit ≤ (c : Int) ∧ (c : Int) < f.bit + f.width) (h2 : g.word = (k : Int) ∧ g.bit ≤ (c : Int) ∧ (c : Int) < g.bit + g.width) : i = j := by
  rcases Nat.lt_trichotomy i j with hh | hh | hh
  · have := h.2.2 i j f g hh hf hg; omega
  · exact hh
  · have := h.2.2 j i g f hh hg hf; omega
theorem pack_eq {vars : List Int} {p : Pkr} (h : PkOk vars p) (hl : vars.length ≤ 64) {s : List Int} (hs : StateOk vars s) : ∃ r, m_pack_Packer_Pack p s = some r ∧ r.2 = ⟨0⟩ ∧ (r.1.length : Int) = p.words ∧ Bits p.fields s (fun _ => True) r.1 := by
  obtain ⟨W, hW, hW1, hW2, _⟩ := h.2.1
  unfold m_pack_Packer_Pack
  rw [if_neg (by have := h.1; have := hs.1; omega), hW, mkI_eq (by omega) (by omega), bnd_some]
  refine rng_ex (fun m ws => (ws.length : Int) = (W : Int) ∧ Bits p.fields s (fun i => i < m) ws) (fun _ => False) ⟨by simp, ?_⟩ ?_ ?_ (fun q hq => hq.elim)
  · intro k c a ha _
    have := List.eq_of_mem_replicate (List.mem_of_getElem? ha)
    subst this
    constructor
    · intro hh; simp at hh
    · rintro ⟨i, _, _, hi, _⟩; omega
  · rintro m f ws hm ⟨hwl, hb⟩
    refine .inl (ex_next ?_)
    obtain ⟨k, b, w, n, x, rfl, hk, hbw, hw, hx, hx0, hxn, hxw⟩ := h.field hs hm
    dsimp only
    obtain ⟨a, ha⟩ := some_of_lt (l := ws) (k := k) (by omega)
    rw [hx, bnd_some, if_neg (by omega), bnd_some, if_neg (by omega), bnd_some, if_f, atI_eq, ha, bnd_some, bnd_some]
    unfold shlU
    rw [if_pos (by omega), bnd_some, bnd_some]
    refine ⟨_, rfl, _, rfl, by simpa using hwl, ?_⟩
    simp only [Int.toNat_natCast]
    have hxb : ∀ c : Nat, c < 64 → ((a ||| (BitVec.ofInt 64 x <<< b)).getLsbD c = true ↔ a.getLsbD c = true ∨ (b ≤ c ∧ x.toNat.testBit (c - b) = true)) := by
      intro c hc
      have hofi : BitVec.ofInt 64 x = BitVec.ofNat 64 x.toNat := by
        rw [← BitVec.ofInt_natCast, Int.toNat_of_nonneg hx0]
      rw [BitVec.getLsbD_or, BitVec.getLsbD_shiftLeft, hofi, BitVec.getLsbD_ofNat]
      by_cases h1 : b ≤ c
      · have : c - b < 64 := by omega
        simp [hc, h1, this, Nat.not_lt.2 h1]
      · simp [hc, h1, Nat.lt_of_not_le h1]
    intro k' c a' ha' hc
    by_cases e : k = k'
    · subst e
      rw [List.getElem?_set_self (lt_of_get ha)] at ha'
      obtain rfl := Option.some.inj ha'
      rw [hxb c hc, hb k c a ha hc]
      constructor
      · rintro (⟨i, f, y, hi, hr⟩ | ⟨h1, h2⟩)
        · exact ⟨i, f, y, by omega, hr⟩
        · have := val_bit hx0 hxw h2
          exact ⟨m, _, x, by omega, hm, hx, rfl, by dsimp only; omega, by dsimp only; omega, by simpa using h2⟩
      · rintro ⟨i, f, y, hi, hf, hy, hin⟩
        by_cases he : i = m
        · subst he
          rw [hm] at hf
          obtain rfl := Option.some.inj hf
          rw [hx] at hy
          obtain rfl := Option.some.inj hy
          obtain ⟨_, i2, i3, i4⟩ := hin
          dsimp only at i2 i3 i4
          exact .inr ⟨by omega, by simpa using i4⟩
        · exact .inl ⟨i, f, y, by omega, hf, hy, hin⟩
    · rw [List.getElem?_set_ne e] at ha'
      rw [hb k' c a' ha' hc]
      constructor
      · rintro ⟨i, f, y, hi, hr⟩; exact ⟨i, f, y, by omega, hr⟩
      · rintro ⟨i, f, y, hi, hf, hy, hin⟩
        by_cases he : i = m
        · subst he
          rw [hm] at hf
          obtain rfl := Option.some.inj hf
          have := hin.1
          dsimp only at this
          omega
        · exact ⟨i, f, y, by omega, hf, hy, hin⟩
  · rintro ws ⟨hwl, hb⟩
    refine ⟨_, rfl, rfl, hwl, fun k c a ha hc => ?_⟩
    rw [hb k c a ha hc]
    constructor
    · rintro ⟨i, f, x, _, hr⟩; exact ⟨i, f, x, trivial, hr⟩
    · rintro ⟨i, f, x, _, hf, hr⟩; exact ⟨i, f, x, lt_of_get hf, hf, hr⟩
theorem mask_eq {k b w : Nat} {n : Int} : m_pack_field_mask ⟨k, b, w, n⟩ = some ((((1 : U64) <<< w) - (1 : U64)) <<< b) := by
  unfold m_pack_field_mask shlU
  dsimp only
  rw [if_pos (by omega), bnd_some, if_pos (by omega), bnd_some]
  simp
theorem get_eq {vars : List Int} {p : Pkr} (h : PkOk vars p) {s : List Int} (hs : StateOk vars s) {ws : List U64} (hwl : (ws.length : Int) = p.words) (hb : Bits p.fields s (fun _ => True) ws) {i : Nat} {f : PFd} {x : Int} (hf : p.fields[i]? = some f) (hx : s[i]? = some x) : m_pack_field_get f ws = some x := by
  obtain ⟨k, b, w, n, x', rfl, hk, hbw, hw, hx', hx0, hxn, hxw⟩ := h.field hs hf
  rw [hx] at hx'
  obtain rfl := Option.some.inj hx'
  obtain ⟨a, ha⟩ := some_of_lt (l := ws) (k := k) (by omega)
  unfold m_pack_field_get
  dsimp only
  rw [atI_eq, ha, bnd_some, mask_eq, bnd_some]
  unfold shrU
  rw [if_pos (by omega), bnd_some]
  have hval : (a &&& ((((1 : U64) <<< w) - (1 : U64)) <<< b)) >>> b = BitVec.ofNat 64 x.toNat := by
    apply BitVec.eq_of_getLsbD_eq
    intro j hj
    rw [BitVec.getLsbD_ushiftRight, BitVec.getLsbD_and, BitVec.getLsbD_ofNat]
    by_cases hjb : b + j < 64
    · rw [mask_bit hw hjb]
      by_cases hjw : j < w
      · have h1 := hb k (b + j) a ha hjb
        have h2 : a.getLsbD (b + j) = x.toNat.testBit j := by
          cases ht : x.toNat.testBit j with
          | true => exact h1.2 ⟨i, _, x, trivial, hf, hx, rfl, by dsimp only; omega, by dsimp only; omega, by simpa using ht⟩
          | false =>
            cases hg : a.getLsbD (b + j) with
            | false => rfl
            | true =>
              obtain ⟨i', f', x', _, hf', hx', hin⟩ := h1.1 hg
              have hii := h.same (k := k) (c := b + j) hf hf' ⟨rfl, by dsimp only; omega, by dsimp only; omega⟩ ⟨hin.1, hin.2.1, hin.2.2.1⟩
              subst hii
              rw [hf] at hf'
              obtain rfl := Option.some.inj hf'
              rw [hx] at hx'
              obtain rfl := Option.some.inj hx'
              have := hin.2.2.2
              simp at this
              rw [this] at ht
              cases ht
        rw [h2]
        simp [hj, hjw]
      · have hf0 : x.toNat.testBit j = false := by
          cases ht : x.toNat.testBit j with
          | false => rfl
          | true => exact absurd (val_bit hx0 hxw ht) hjw
        simp [hf0, hjw]
    · have hf0 : x.toNat.testBit j = false := by
        cases ht : x.toNat.testBit j with
        | false => rfl
        | true => have := val_bit hx0 hxw ht; omega
      rw [BitVec.getLsbD_of_ge _ _ (by omega)]
      simp [hf0]
  have h64 : (2 : Int) ^ w ≤ 64 := by
    have : w = 0 ∨ w = 1 ∨ w = 2 ∨ w = 3 ∨ w = 4 ∨ w = 5 ∨ w = 6 := by omega
    rcases this with rfl | rfl | rfl | rfl | rfl | rfl | rfl <;> decide
  simp only [Int.toNat_natCast]
  rw [hval]
  congr 1
  rw [BitVec.toInt_eq_toNat_of_lt (by rw [BitVec.toNat_ofNat]; omega), BitVec.toNat_ofNat]
  omega
theorem unpack_eq {vars : List Int} {p : Pkr} (h : PkOk vars p) (hl : vars.length ≤ 64) {s : List Int} (hs : StateOk vars s) {ws : List U64} (hwl : (ws.length : Int) = p.words) (hb : Bits p.fields s (fun _ => True) ws) : m_pack_Packer_Unpack p ws = some (s, ⟨0⟩) := by
  obtain ⟨W, hW, hW1, hW2, _⟩ := h.2.1
  have hsl := hs.1
  have hfl := h.1
  unfold m_pack_Packer_Unpack
  rw [if_neg (by omega), mkI_eq (by omega) (by omega), bnd_some]
  unfold m_slices_Clone_Luint64_uint64
  rw [if_pos (by omega), bnd_some]
  refine rng_bnd (fun m st => st.1.length = s.length ∧ (∀ (i : Nat) x, i < m → s[i]? = some x → st.1[i]? = some x) ∧ st.2.length = ws.length ∧ Bits p.fields s (fun i => m ≤ i) st.2) ⟨by simp; omega, fun i x hi => by omega, rfl, ?_⟩ ?_ ?_
  · intro k c a ha hc
    rw [hb k c a ha hc]
    constructor
    · rintro ⟨i, f, x, _, hr⟩; exact ⟨i, f, x, by omega, hr⟩
    · rintro ⟨i, f, x, _, hr⟩; exact ⟨i, f, x, trivial, hr⟩
  · rintro m f ⟨out, rest⟩ hm ⟨i1, i2, i3, i4⟩
    dsimp only at i1 i2 i3 i4 ⊢
    obtain ⟨k, b, w, n, x, rfl, hk, hbw, hw, hx, hx0, hxn, hxw⟩ := h.field hs hm
    have hml := lt_of_get hx
    obtain ⟨u, hu⟩ := some_of_lt (l := out) (k := m) (by omega)
    obtain ⟨a, ha⟩ := some_of_lt (l := rest) (k := k) (by omega)
    rw [get_eq h hs hwl hb hm hx, bnd_some, hu, bnd_some, List.getElem?_set_self (by omega), bnd_some]
    dsimp only
    rw [if_neg (by omega), atI_eq, ha, bnd_some, mask_eq, bnd_some, bnd_some]
    refine ⟨_, rfl, by simpa using i1, fun i y hi hy => ?_, by simpa using i3, ?_⟩
    · by_cases e : i = m
      · subst e
        rw [hx] at hy
        obtain rfl := Option.some.inj hy
        exact List.getElem?_set_self (by omega)
      · show (out.set m x)[i]? = _
        rw [List.getElem?_set_ne (by omega)]
        exact i2 i y (by omega) hy
    · show Bits p.fields s _ (rest.set ((k : Int)).toNat _)
      simp only [Int.toNat_natCast]
      intro k' c a' ha' hc
      by_cases e : k = k'
      · subst e
        rw [List.getElem?_set_self (lt_of_get ha)] at ha'
        obtain rfl := Option.some.inj ha'
        rw [BitVec.getLsbD_and, BitVec.getLsbD_not, mask_bit hw hc]
        have h1 := i4 k c a ha hc
        constructor
        · intro hh
          simp only [Bool.and_eq_true, Bool.not_eq_true', decide_eq_true_eq] at hh
          obtain ⟨i, f, y, hi, hf, hy, hin⟩ := h1.1 hh.1
          refine ⟨i, f, y, ?_, hf, hy, hin⟩
          rcases Nat.lt_or_ge m i with hlt | hge
          · exact hlt
          · exfalso
            obtain rfl : i = m := by omega
            rw [hm] at hf
            obtain rfl := Option.some.inj hf
            obtain ⟨_, j2, j3, _⟩ := hin
            dsimp only at j2 j3
            have h2 := hh.2.2
            rw [show decide (b ≤ c) = true from by simp; omega, show decide (c < b + w) = true from by simp; omega] at h2
            cases h2
        · rintro ⟨i, f, y, hi, hf, hy, hin⟩
          have hg := h1.2 ⟨i, f, y, by omega, hf, hy, hin⟩
          have hno : ¬ (b ≤ c ∧ c < b + w) := fun hh => by
            have := h.same (k := k) (c := c) hm hf ⟨rfl, by dsimp only; omega, by dsimp only; omega⟩ ⟨hin.1, hin.2.1, hin.2.2.1⟩
            omega
          rw [hg]
          by_cases q1 : b ≤ c
          · have q2 : ¬ c < b + w := fun hh => hno ⟨q1, hh⟩
            simp [hc, q1, q2]
          · simp [hc, q1]
      · rw [List.getElem?_set_ne e] at ha'
        rw [i4 k' c a' ha' hc]
        constructor
        · rintro ⟨i, f, y, hi, hf, hy, hin⟩
          refine ⟨i, f, y, ?_, hf, hy, hin⟩
          rcases Nat.lt_or_ge m i with hlt | hge
          · exact hlt
          · exfalso
            obtain rfl : i = m := by omega
            rw [hm] at hf
            obtain rfl := Option.some.inj hf
            have := hin.1
            dsimp only at this
            omega
        · rintro ⟨i, f, y, hi, hr⟩; exact ⟨i, f, y, by omega, hr⟩
  · rintro ⟨out, rest⟩ ⟨i1, i2, i3, i4⟩
    dsimp only at i1 i2 i3 i4
    rw [fin_d]
    dsimp only
    have hout : out = s := by
      apply List.ext_getElem?
      intro i
      rcases Nat.lt_or_ge i s.length with hi | hi
      · obtain ⟨x, hx⟩ := some_of_lt (l := s) (k := i) hi
        rw [hx]; exact i2 i x (by omega) hx
      · rw [List.getElem?_eq_none hi, List.getElem?_eq_none (by omega)]
    subst hout
    refine rng_bnd (fun _ _ => True) trivial (fun k a _ hk _ => ⟨(), ?_, trivial⟩) (fun _ _ => rfl)
    obtain ⟨a', ha'⟩ := some_of_lt (l := rest) (k := k) (by have := lt_of_get hk; omega)
    rw [ha', bnd_some]
    have hz : a' = 0 := by
      apply BitVec.eq_of_getLsbD_eq
      intro c hc
      cases hg : a'.getLsbD c with
      | false => simp
      | true =>
        obtain ⟨i, f, x, hi, hf, _⟩ := (i4 k c a' ha' hc).1 hg
        have := lt_of_get hf
        omega
    subst hz
    rw [if_neg (by simp)]
theorem pack_inj {vars : List Int} {p : Pkr} (h : PkOk vars p) (hl : vars.length ≤ 64) {s s' : List Int} (hs : StateOk vars s) (hs' : StateOk vars s') {ws : List U64} (h1 : m_pack_Packer_Pack p s = some (ws, ⟨0⟩)) (h2 : m_pack_Packer_Pack p s' = some (ws, ⟨0⟩)) : s = s' := by
  obtain ⟨r, r1, r2, r3, r4⟩ := pack_eq h hl hs
  obtain ⟨q, q1, q2, q3, q4⟩ := pack_eq h hl hs'
  rw [h1] at r1
  rw [h2] at q1
  obtain rfl := Option.some.inj r1
  obtain rfl := Option.some.inj q1
  have e1 := unpack_eq h hl hs r3 r4
  have e2 := unpack_eq h hl hs' q3 q4
  rw [e1] at e2
  have := Option.some.inj e2
  exact congrArg Prod.fst this
end
section
open Go Go.RowKit
theorem mget_mput {K V : Type} [MKey K] (z : V) (k k' : K) (v : V) : ∀ l : List (K × V), mget z (mput l k v) k' = if k = k' then v else mget z l k'
  | [] => by simp only [mput, mget]
  | p :: r => by
    have ih := mget_mput z k k' v r
    simp only [mput]
    by_cases h1 : p.1 = k
    · rw [if_pos h1]
      simp only [mget]
      by_cases h2 : k = k'
      · rw [if_pos h2, if_pos h2]
      · rw [if_neg h2, if_neg h2, if_neg (by rw [h1]; exact h2)]
    · rw [if_neg h1]
      simp only [mget, ih]
      by_cases h2 : k = k'
      · rw [if_pos h2, if_pos h2, if_neg (by rw [← h2]; exact h1)]
      · rw [if_neg h2, if_neg h2]
theorem hash_some (p : Pkr) (ws : List U64) : ∃ h, m_pack_Packer_Hash p ws = some h := by
  have : ∃ r, m_pack_Packer_Hash p ws = some r ∧ True := by
    unfold m_pack_Packer_Hash
    refine rng_ex (fun _ _ => True) (fun _ => False) trivial (fun i x s _ _ => .inl ?_) (fun s _ => ?_) (fun q hq => hq.elim)
    · exact ⟨_, rfl, trivial⟩
    · exact ⟨_, rfl, trivial⟩
  obtain ⟨h, h1, _⟩ := this
  exact ⟨h, h1⟩
theorem eqU_eq (a b : List U64) : m_slices_Equal_Luint64_uint64 a b = some (decide (a = b)) := by
  unfold m_slices_Equal_Luint64_uint64
  by_cases hl : (a.length : Int) = (b.length : Int)
  · rw [if_neg (by omega)]
    have : ∃ r, (bnd (rng (ρ := Bool) (fun (k18 : Nat) (a19 : U64) (_ : Unit) => bnd (b[k18]?) fun a36 => if (a19.toNat : Int) ≠ (a36.toNat : Int) then (some (.ret false)) else (some (.next ()))) a 0 ()) fun res14 => fin res14 fun (_ : Unit) => some true) = some r ∧ r = decide (a = b) := by
      refine rng_ex (fun m _ => ∀ (i : Nat), i < m → a[i]? = b[i]?) (fun r => r = false ∧ a ≠ b) (fun i hi => by omega) ?_ ?_ ?_
      · intro i x _ hx hI
        obtain ⟨y, hy⟩ := some_of_lt (l := b) (k := i) (by have := lt_of_get hx; omega)
        rw [hy, bnd_some]
        by_cases he : x = y
        · subst he
          rw [if_neg (by simp)]
          refine .inl ⟨(), rfl, fun j hj => ?_⟩
          by_cases e : j = i
          · subst e; rw [hx, hy]
          · exact hI j (by omega)
        · rw [if_pos (fun h => he (BitVec.eq_of_toNat_eq (by omega)))]
          refine .inr ⟨_, rfl, rfl, fun h => he ?_⟩
          rw [h, hy] at hx
          exact (Option.some.inj hx).symm
      · intro _ hI
        refine ⟨_, rfl, ?_⟩
        symm
        rw [decide_eq_true_eq]
        apply List.ext_getElem?
        intro i
        rcases Nat.lt_or_ge i a.length with h | h
        · exact hI i h
        · rw [List.getElem?_eq_none h, List.getElem?_eq_none (by omega)]
      · rintro q ⟨rfl, hne⟩
        exact ⟨_, rfl, by simp [hne]⟩
    obtain ⟨r, h1, h2⟩ := this
    rw [h1, h2]
  · rw [if_pos hl]
    congr 1
    symm
    rw [decide_eq_false_iff_not]
    exact fun h => hl (by rw [h])
/-- A registry that holds these states. -/
structure RegI (vars : List Int) (r : Reg) (L : List (List Int)) : Prop where
  pk : PkOk vars r.packer
  len : r.entries.length = L.length
  st : ∀ (i : Nat) s, L[i]? = some s → StateOk vars s
  words : ∀ (i : Nat) s e, L[i]? = some s → r.entries[i]? = some e → m_pack_Packer_Pack r.packer s = some (e.words, ⟨0⟩)
  nodup : ∀ (i j : Nat) s, L[i]? = some s → L[j]? = some s → i = j
  tab : ∀ (i : Nat) e, r.entries[i]? = some e → ∃ h, m_pack_Packer_Hash r.packer e.words = some h ∧ (i : Int) ∈ mget ([] : List Int) r.table.l h
  val : ∀ h a, a ∈ mget ([] : List Int) r.table.l h → ∃ i : Nat, a = (i : Int) ∧ i < L.length
  few : ∀ h, (mget ([] : List Int) r.table.l h).length ≤ L.length
def links (r : Reg) : List RLk := r.entries.map (·.link)
theorem regNew_eq {vars : List Int} (hl : vars.length ≤ 64) (hv : ∀ (i : Nat) n, vars[i]? = some n → 1 ≤ n ∧ n ≤ 64) : ∃ r, m_registry_New vars = some r ∧ ∃ q, r = (some q, ⟨0⟩) ∧ RegI vars q [] ∧ links q = [] := by
  obtain ⟨r, h1, p, rfl, hp⟩ := packNew_eq hl hv
  unfold m_registry_New
  rw [h1, bnd_some, if_neg (by simp), bnd_some]
  exact ⟨_, rfl, _, rfl, ⟨hp, rfl, fun i s h => by simp at h, fun i s e h => by simp at h, fun i j s h => by simp at h, fun i e h => by simp at h, fun h a ha => by simp [mget] at ha, fun h => by simp [mget]⟩, rfl⟩
theorem regFind_eq {vars : List Int} (hl : vars.length ≤ 64) {r : Reg} {L : List (List Int)} (h : RegI vars r L) {s : List Int} (hs : StateOk vars s) : ∃ (ws : List U64) (hh : Int), m_pack_Packer_Pack r.packer s = some (ws, ⟨0⟩) ∧ m_pack_Packer_Hash r.packer ws = some hh ∧
    ((∃ i : Nat, L[i]? = some s ∧ m_registry_Registry_find r s = some (ws, hh, (i : Int), ⟨0⟩)) ∨ ((∀ i : Nat, L[i]? ≠ some s) ∧ m_registry_Registry_find r s = some (ws, hh, -1, ⟨0⟩))) := by
  obtain ⟨⟨ws, er⟩, p1, p2, p3, p4⟩ := pack_eq h.pk hl hs
  dsimp only at p2 p3 p4
  subst p2
  obtain ⟨hh, hhe⟩ := hash_some r.packer ws
  refine ⟨ws, hh, p1, hhe, ?_⟩
  have key : ∃ res, m_registry_Registry_find r s = some res ∧ ((∃ i : Nat, L[i]? = some s ∧ res = (ws, hh, (i : Int), ⟨0⟩)) ∨ ((∀ i : Nat, L[i]? ≠ some s) ∧ res = (ws, hh, -1, ⟨0⟩))) := by
    unfold m_registry_Registry_find
    rw [p1, bnd_some, if_neg (by simp), hhe, bnd_some]
    refine rng_ex (fun m _ => ∀ (j : Nat) (i : Nat), j < m → (mget ([] : List Int) r.table.l hh)[j]? = some (i : Int) → L[i]? ≠ some s) (fun res => ∃ i : Nat, L[i]? = some s ∧ res = (ws, hh, (i : Int), ⟨0⟩)) (fun j i hj => by omega) ?_ ?_ ?_
    · intro m a _ hm hI
      obtain ⟨i, rfl, hi⟩ := h.val hh a (List.mem_of_getElem? hm)
      obtain ⟨e, he⟩ := some_of_lt (l := r.entries) (k := i) (by rw [h.len]; exact hi)
      obtain ⟨s', hs'⟩ := some_of_lt (l := L) (k := i) hi
      have hw := h.words i s' e hs' he
      rw [atI_eq, he, bnd_some, eqU_eq, bnd_some]
      by_cases hew : e.words = ws
      · rw [decide_eq_true hew, if_t]
        rw [hew] at hw
        have := pack_inj h.pk hl (h.st i s' hs') hs hw p1
        subst this
        exact .inr ⟨_, rfl, i, hs', rfl⟩
      · rw [decide_eq_false hew, if_f]
        refine .inl ⟨(), rfl, fun j i' hj hi' => ?_⟩
        by_cases e1 : j = m
        · subst e1
          rw [hm] at hi'
          have e2 : i = i' := by have := Option.some.inj hi'; omega
          subst e2
          intro hL
          rw [hL] at hs'
          obtain rfl := Option.some.inj hs'
          rw [p1] at hw
          exact hew (congrArg Prod.fst (Option.some.inj hw)).symm
        · exact hI j i' (by omega) hi'
    · intro _ hI
      refine ⟨_, rfl, .inr ⟨fun i hL => ?_, rfl⟩⟩
      obtain ⟨e, he⟩ := some_of_lt (l := r.entries) (k := i) (by rw [h.len]; exact lt_of_get hL)
      have hw := h.words i s e hL he
      rw [p1] at hw
      have hwe : ws = e.words := congrArg Prod.fst (Option.some.inj hw)
      obtain ⟨h', t1, t2⟩ := h.tab i e he
      rw [← hwe, hhe] at t1
      obtain rfl := Option.some.inj t1
      obtain ⟨j, hj⟩ := List.getElem?_of_mem t2
      exact hI j i (lt_of_get hj) hj hL
    · rintro q ⟨i, hi, rfl⟩
      exact ⟨_, rfl, .inl ⟨i, hi, rfl⟩⟩
  obtain ⟨res, k1, k2⟩ := key
  rcases k2 with ⟨i, hi, rfl⟩ | ⟨hn, rfl⟩
  · exact .inl ⟨i, hi, k1⟩
  · exact .inr ⟨hn, k1⟩
theorem regAdd_eq {vars : List Int} (hl : vars.length ≤ 64) {r : Reg} {L : List (List Int)} (h : RegI vars r L) {s : List Int} (hs : StateOk vars s) (hL : L.length < 65536) :
    (∃ i : Nat, L[i]? = some s ∧ m_registry_Registry_Add r s = some ((i : Int), false, ⟨0⟩, r)) ∨ ((∀ i : Nat, L[i]? ≠ some s) ∧ ∃ r', m_registry_Registry_Add r s = some ((L.length : Int), true, ⟨0⟩, r') ∧ RegI vars r' (L ++ [s]) ∧ links r' = links r ++ [⟨-1, -1, 0⟩]) := by
  obtain ⟨ws, hh, p1, p2, hf⟩ := regFind_eq hl h hs
  unfold m_registry_Registry_Add
  have hlen := h.len
  rcases hf with ⟨i, hi, hf⟩ | ⟨hno, hf⟩
  · refine .inl ⟨i, hi, ?_⟩
    rw [hf, bnd_some, if_neg (by simp), if_pos (by dsimp only; omega)]
  · refine .inr ⟨hno, ?_⟩
    have hfew := h.few hh
    rw [hf, bnd_some, if_neg (by simp), if_neg (by dsimp only; omega), if_neg (by omega)]
    dsimp only
    rw [appI_eq (by simp; omega) (by simp; omega), bnd_some, appI_eq (by simp; omega) (by simp; omega), bnd_some, hlen]
    have hget : ∀ k, mget ([] : List Int) (mput r.table.l hh (mget ([] : List Int) r.table.l hh ++ [(L.length : Int)])) k = if hh = k then mget ([] : List Int) r.table.l hh ++ [(L.length : Int)] else mget ([] : List Int) r.table.l k := fun k => mget_mput _ _ _ _ _
    refine ⟨_, rfl, ⟨h.pk, by simp [hlen], ?_, ?_, ?_, ?_, ?_, ?_⟩, by simp [links]⟩
    · intro i s' hi
      rcases app_get hi with hi | ⟨_, rfl⟩
      · exact h.st i s' hi
      · exact hs
    · intro i s' e hi he
      rcases app_get hi with hi | ⟨hi, rfl⟩
      · rcases app_get he with he | ⟨he, _⟩
        · exact h.words i s' e hi he
        · have := lt_of_get hi; omega
      · rcases app_get he with he | ⟨he, rfl⟩
        · have := lt_of_get he; omega
        · exact p1
    · intro i j s' hi hj
      rcases app_get hi with hi2 | ⟨hi2, hs2⟩
      · rcases app_get hj with hj2 | ⟨hj2, hs2⟩
        · exact h.nodup i j s' hi2 hj2
        · exact absurd (hs2 ▸ hi2) (hno i)
      · rcases app_get hj with hj2 | ⟨hj2, _⟩
        · exact absurd (hs2 ▸ hj2) (hno j)
        · omega
    · intro i e he
      rcases app_get he with he | ⟨hi, rfl⟩
      · obtain ⟨k, k1, k2⟩ := h.tab i e he
        refine ⟨k, k1, ?_⟩
        dsimp only
        rw [hget]
        by_cases e1 : hh = k
        · subst e1; rw [if_pos rfl]; exact List.mem_append_left _ k2
        · rw [if_neg e1]; exact k2
      · refine ⟨hh, p2, ?_⟩
        dsimp only
        rw [hget, if_pos rfl, hi, hlen]
        simp
    · intro k a ha
      dsimp only at ha
      rw [hget] at ha
      simp only [List.length_append, List.length_singleton]
      by_cases e1 : hh = k
      · rw [if_pos e1] at ha
        rcases List.mem_append.1 ha with ha | ha
        · obtain ⟨i, h1, h2⟩ := h.val hh a ha; exact ⟨i, h1, by omega⟩
        · exact ⟨L.length, by simpa using ha, by omega⟩
      · rw [if_neg e1] at ha
        obtain ⟨i, h1, h2⟩ := h.val k a ha; exact ⟨i, h1, by omega⟩
    · intro k
      dsimp only
      rw [hget]
      have := h.few k
      simp only [List.length_append, List.length_singleton]
      by_cases e1 : hh = k
      · rw [if_pos e1]; simp; omega
      · rw [if_neg e1]; omega
theorem regHas_eq {vars : List Int} {r : Reg} {L : List (List Int)} (h : RegI vars r L) {i : Nat} (hi : i < L.length) : m_registry_Registry_has r (i : Int) = some true := by
  unfold m_registry_Registry_has
  rw [if_pos (by omega), if_pos (by rw [h.len]; omega)]
  rfl
theorem regState_eq {vars : List Int} (hl : vars.length ≤ 64) {r : Reg} {L : List (List Int)} (h : RegI vars r L) {i : Nat} {s : List Int} (hi : L[i]? = some s) : m_registry_Registry_State r (i : Int) = some (s, ⟨0⟩) := by
  obtain ⟨e, he⟩ := some_of_lt (l := r.entries) (k := i) (by rw [h.len]; exact lt_of_get hi)
  have hs := h.st i s hi
  obtain ⟨⟨ws, er⟩, p1, p2, p3, p4⟩ := pack_eq h.pk hl hs
  have hw := h.words i s e hi he
  rw [p1] at hw
  have hwe : ws = e.words := congrArg Prod.fst (Option.some.inj hw)
  dsimp only at p3 p4
  rw [hwe] at p3 p4
  unfold m_registry_Registry_State
  rw [regHas_eq h (lt_of_get hi), bnd_some, if_t, atI_eq, he, bnd_some, unpack_eq h.pk hl hs p3 p4, bnd_some]
theorem setLink_eq {vars : List Int} {r : Reg} {L : List (List Int)} (h : RegI vars r L) {i : Nat} (hi : i < L.length) {p o c : Int} (hp : p = -1 ∨ ∃ j : Nat, p = (j : Int) ∧ j < L.length) : ∃ r', m_registry_Registry_SetLink r (i : Int) p o c = some (⟨0⟩, r') ∧ RegI vars r' L ∧ links r' = (links r).set i ⟨p, o, c⟩ := by
  obtain ⟨e, he⟩ := some_of_lt (l := r.entries) (k := i) (by rw [h.len]; exact hi)
  unfold m_registry_Registry_SetLink
  have hcond : (bnd (m_registry_Registry_has r (i : Int)) fun q10 => if q10 = true then if p ≠ (-1) then (bnd (m_registry_Registry_has r p) fun q20 => if q20 = true then some false else some true) else (some false) else some true : Option Bool) = some false := by
    rw [regHas_eq h hi, bnd_some, if_t]
    rcases hp with rfl | ⟨j, rfl, hj⟩
    · rfl
    · rw [if_pos (by omega), regHas_eq h hj]; rfl
  rw [hcond, bnd_some, if_f, atI_eq, he, bnd_some]
  have hge : ∀ (j : Nat) x, (r.entries.set ((i : Int)).toNat ({ e with link := (⟨p, o, c⟩ : RLk) } : REn))[j]? = some x → ∃ y, r.entries[j]? = some y ∧ x.words = y.words := by
    intro j x hx
    rw [Int.toNat_natCast] at hx
    by_cases e1 : i = j
    · subst e1
      rw [List.getElem?_set_self (lt_of_get he)] at hx
      obtain rfl := Option.some.inj hx
      exact ⟨e, he, rfl⟩
    · rw [List.getElem?_set_ne e1] at hx
      exact ⟨x, hx, rfl⟩
  refine ⟨_, rfl, ⟨h.pk, by simp [h.len], h.st, ?_, h.nodup, ?_, h.val, h.few⟩, ?_⟩
  · intro j s x hj hx
    obtain ⟨y, hy, hxy⟩ := hge j x hx
    rw [hxy]; exact h.words j s y hj hy
  · intro j x hx
    obtain ⟨y, hy, hxy⟩ := hge j x hx
    rw [hxy]; exact h.tab j y hy
  · simp [links, List.map_set]
theorem rev_eq {xs : List Int} (hl : xs.length ≤ 1000000) : m_slices_Reverse_Lint_int xs = some xs.reverse := by
  unfold m_slices_Reverse_Lint_int
  rw [chkI_eq (by unfold inI64; omega), bnd_some]
  refine lop_bnd (fun s => ∃ i : Nat, s.2.1 = (i : Int) ∧ s.2.1 + s.2.2 = (xs.length : Int) - 1 ∧ i ≤ xs.length ∧ s.1.length = xs.length ∧ ∀ k : Nat, k < xs.length → s.1[k]? = if k < i ∨ xs.length - 1 - k < i then xs[xs.length - 1 - k]? else xs[k]?) (fun s => s.1 = xs.reverse) (fun s => (s.2.2 - s.2.1 + 1).toNat) ⟨0, rfl, by dsimp only; omega, by omega, rfl, fun k hk => by rw [if_neg (by omega)]⟩ ?_ (fun s hs => by rw [fin_d, hs])
  rintro ⟨ys, i', j⟩ ⟨i, hi, hij, hil, hlen, hg⟩
  dsimp only at hi hij hlen hg ⊢
  subst hi
  by_cases hlt : (i : Int) < j
  · obtain ⟨jn, rfl⟩ : ∃ jn : Nat, j = (jn : Int) := ⟨j.toNat, by omega⟩
    obtain ⟨a, ha⟩ := some_of_lt (l := ys) (k := jn) (by omega)
    obtain ⟨b, hb⟩ := some_of_lt (l := ys) (k := i) (by omega)
    rw [if_pos hlt, atI_eq, ha, bnd_some, atI_eq, hb, bnd_some, bnd_some, Int.toNat_natCast, Int.toNat_natCast, atI_eq, List.getElem?_set_ne (by omega), ha, bnd_some, chkI_eq (by unfold inI64; omega), bnd_some, chkI_eq (by unfold inI64; omega), bnd_some]
    refine .inl ⟨_, rfl, ⟨i + 1, by dsimp only; omega, by dsimp only; omega, by omega, by simp [hlen], fun k hk => ?_⟩, by dsimp only; omega⟩
    dsimp only
    have hga := hg jn (by omega)
    rw [ha, if_neg (by omega)] at hga
    have hgb := hg i (by omega)
    rw [hb, if_neg (by omega)] at hgb
    by_cases e1 : k = jn
    · subst e1
      rw [List.getElem?_set_self (by simp; omega), if_pos (by omega), hgb]
      congr 1; omega
    · rw [List.getElem?_set_ne (by omega)]
      by_cases e2 : k = i
      · subst e2
        rw [List.getElem?_set_self (by omega), if_pos (by omega), hga]
        congr 1; omega
      · rw [List.getElem?_set_ne (by omega), hg k hk]
        by_cases e3 : k < i ∨ xs.length - 1 - k < i
        · rw [if_pos e3, if_pos (by omega)]
        · rw [if_neg e3, if_neg (by omega)]
  · rw [if_neg hlt]
    refine .inr ⟨_, rfl, ?_⟩
    dsimp only
    apply List.ext_getElem?
    intro k
    rcases Nat.lt_or_ge k xs.length with hk | hk
    · rw [List.getElem?_reverse hk, hg k hk]
      by_cases e3 : k < i ∨ xs.length - 1 - k < i
      · rw [if_pos e3]
      · rw [if_neg e3]; congr 1; omega
    · rw [List.getElem?_eq_none (by omega), List.getElem?_eq_none (by simp; omega)]
/-- The operators on the way from the root. -/
inductive PathL (lk : List RLk) : Nat → List Int → Prop
  | root {i : Nat} {k : RLk} : lk[i]? = some k → k.parent < 0 → PathL lk i []
  | step {i j : Nat} {k : RLk} {p : List Int} : lk[i]? = some k → k.parent = (j : Int) → PathL lk j p → PathL lk i (p ++ [k.op])
theorem path_eq {vars : List Int} {r : Reg} {L : List (List Int)} (h : RegI vars r L) (hL : L.length ≤ 65536) {i : Nat} {p : List Int} (hp : PathL (links r) i p) (hl : p.length ≤ L.length) : m_registry_Registry_Path r (i : Int) = some (p, ⟨0⟩) := by
  have hget : ∀ {i : Nat} {k : RLk}, (links r)[i]? = some k → ∃ e : REn, r.entries[i]? = some e ∧ e.link = k := by
    intro i k hk
    unfold links at hk
    rw [List.getElem?_map] at hk
    cases he : r.entries[i]? with
    | none => rw [he] at hk; cases hk
    | some e => rw [he] at hk; exact ⟨e, rfl, by simpa using hk⟩
  have hil : i < L.length := by
    have : ∃ k, (links r)[i]? = some k := by cases hp with | root h1 _ => exact ⟨_, h1⟩ | step h1 _ _ => exact ⟨_, h1⟩
    obtain ⟨k, hk⟩ := this
    obtain ⟨e, he, _⟩ := hget hk
    rw [← h.len]; exact lt_of_get he
  unfold m_registry_Registry_Path
  rw [regHas_eq h hil, bnd_some, if_t]
  have key : ∀ {i p}, PathL (links r) i p → ∀ acc : List Int, acc.length + p.length ≤ L.length → lop (ρ := (List Int) × Err) (fun (s14 : Int × (List Int)) => bnd (atI r.entries s14.1) fun a48 => if a48.link.parent < 0 then (bnd (m_slices_Reverse_Lint_int s14.2) fun q74 => some (.ret (q74, (⟨0⟩ : Err)))) else (bnd (appI 8 s14.2 [a48.link.op]) fun u89 => if (r.entries.length : Int) < (u89.length : Int) then (some (.ret (([] : List Int), (⟨21⟩ : Err)))) else (some (.next (a48.link.parent, u89))))) ((i : Int), acc) = some (.ret (p ++ acc.reverse, ⟨0⟩)) := by
    intro i p hp
    induction hp with
    | root h1 h2 =>
      intro acc ha
      obtain ⟨e, he, rfl⟩ := hget h1
      rw [lop_eq]
      dsimp only
      rw [atI_eq, he, bnd_some, if_pos h2, rev_eq (by omega), bnd_some]
      rfl
    | @step i j k p h1 h2 _ ih =>
      intro acc ha
      obtain ⟨e, he, rfl⟩ := hget h1
      simp at ha
      rw [lop_eq]
      dsimp only
      rw [atI_eq, he, bnd_some, if_neg (by omega), appI_eq (by simp; omega) (by simp; omega), bnd_some, if_neg (by rw [h.len]; simp; omega), h2]
      dsimp only
      rw [ih (acc ++ [e.link.op]) (by simp; omega)]
      simp
  rw [key hp [] (by simpa using hl), bnd_some]
  simp [fin]
end
section
open Go Go.RowKit
/-- States that can be reached. -/
inductive Rch (t : Tsk) : List Int → Prop
  | init : Rch t t.init
  | step {s : List Int} {k : Nat} {o : Opr} : Rch t s → t.ops[k]? = some o → holdsB o.pre s = true → Rch t (succ o s)
theorem Rch.ok {t : Tsk} (h : TaskOk t) {s : List Int} (hr : Rch t s) : StateOk t.vars s := by
  induction hr with
  | init => exact h.2.2.2.1
  | step _ ho _ ih => exact succ_ok h ih ho
theorem PlanR.snoc {t : Tsk} {s p s' : List Int} {C : Int} (h : PlanR t s p s' C) {k : Nat} {o : Opr} (ho : t.ops[k]? = some o) (hp : holdsB o.pre s' = true) : PlanR t s (p ++ [(k : Int)]) (succ o s') (C + o.cost) := by
  induction h with
  | nil => have := PlanR.cons ho hp (PlanR.nil (t := t) (s := succ o _)); simpa [Int.add_comm] using this
  | cons ho' hp' _ ih => have := PlanR.cons ho' hp' (ih hp); rw [Int.add_assoc]; exact this
theorem PlanR.walk {t : Tsk} {s p s' : List Int} {C : Int} (h : PlanR t s p s' C) (hg : holdsB t.goal s' = true) : Walk t s C := by
  induction h with
  | nil => exact .goal hg
  | cons ho hp _ ih => have := Walk.step ho hp (ih hg); rwa [Int.add_comm] at this
/-- Plans out of chosen operators. -/
inductive WalkS (t : Tsk) (sel : List Int → List Int) : List Int → Int → Prop
  | goal {s : List Int} : holdsB t.goal s = true → WalkS t sel s 0
  | step {s : List Int} {k : Nat} {o : Opr} {C : Int} : t.ops[k]? = some o → (k : Int) ∈ sel s → WalkS t sel (succ o s) C → WalkS t sel s (C + o.cost)
theorem walkS_pos {t : Tsk} (h : TaskOk t) {sel : List Int → List Int} {s : List Int} {C : Int} (hw : WalkS t sel s C) : 0 ≤ C := by
  induction hw with
  | goal _ => omega
  | @step s k o C ho _ _ ih => have := (h.2.2.2.2.2 k o ho).1; omega
/-- A list is another but for one place. -/
def UpL {α : Type} (i : Nat) (x : α) (l l' : List α) : Prop := l'[i]? = some x ∧ ∀ j, j ≠ i → l'[j]? = l[j]?
theorem upl_set {α : Type} {i : Nat} {x : α} {l : List α} (h : i < l.length) : UpL i x l (l.set i x) := ⟨List.getElem?_set_self h, fun j hj => List.getElem?_set_ne (by omega)⟩
theorem upl_same {α : Type} {i : Nat} {x : α} {l : List α} (h : l[i]? = some x) : UpL i x l l := ⟨h, fun _ _ => rfl⟩
theorem upl_app {α : Type} {x : α} {l : List α} : UpL l.length x l (l ++ [x]) := ⟨by simp, fun j hj => by
  rcases Nat.lt_or_ge j l.length with h | h
  · exact List.getElem?_append_left h
  · rw [List.getElem?_append_right h, List.getElem?_eq_none (l := l) h, List.getElem?_eq_none (by simp; omega)]⟩
def cnt (l : List Bool) : Nat := (l.filter id).length
theorem cnt_le (l : List Bool) : cnt l ≤ l.length := List.length_filter_le _ _
theorem cnt_app (l : List Bool) : cnt (l ++ [false]) = cnt l := by simp [cnt]
theorem cnt_set : ∀ {l : List Bool} {i : Nat}, l[i]? = some false → cnt (l.set i true) = cnt l + 1
  | [], i, h => by simp at h
  | b :: l, 0, h => by simp at h; subst h; simp [cnt]
  | b :: l, i + 1, h => by
    have := cnt_set (l := l) (i := i) (by simpa using h)
    simp only [cnt] at this ⊢
    cases b <;> simp [this]
theorem cnt_pos : ∀ {l : List Bool} {i : Nat}, l[i]? = some true → 0 < cnt l
  | [], i, h => by simp at h
  | b :: l, 0, h => by simp at h; subst h; simp [cnt]
  | b :: l, i + 1, h => by
    have := cnt_pos (l := l) (i := i) (by simpa using h)
    unfold cnt at this ⊢
    rw [List.filter_cons]
    split
    · simp
    · exact this
structure SrI (t : Tsk) (sel : List Int → List Int) (D : Nat → Int → Prop) (L : List (List Int)) (lk : List RLk) (g : List Int) (fn : List Bool) (hp : List QEn) (ord : Nat → Nat) (E : Nat) : Prop where
  root : L[0]? = some t.init
  root0 : g[0]? = some 0
  lenk : lk.length = L.length
  leng : g.length = L.length
  lenf : fn.length = L.length
  link : ∀ (i : Nat) s k c, L[i]? = some s → lk[i]? = some k → g[i]? = some c → (i = 0 ∧ k.parent = -1 ∧ c = 0) ∨ ∃ (p q : Nat) (o : Opr) (s' : List Int) (c' : Int), k.parent = (p : Int) ∧ k.op = (q : Int) ∧ t.ops[q]? = some o ∧ L[p]? = some s' ∧ fn[p]? = some true ∧ holdsB o.pre s' = true ∧ succ o s' = s ∧ g[p]? = some c' ∧ c = c' + o.cost ∧ (fn[i]? = some true → ord p < ord i)
  ordl : ∀ i : Nat, fn[i]? = some true → ord i < E
  lower : ∀ (j : Nat) c, fn[j]? = some true → g[j]? = some c → ∀ e ∈ hp, c ≤ e.key
  ent : ∀ e ∈ hp, ∃ i : Nat, e.item = (i : Int) ∧ i < L.length ∧ ∀ c, g[i]? = some c → c ≤ e.key
  opn : ∀ (i : Nat) c, fn[i]? = some false → g[i]? = some c → ∃ e ∈ hp, e.key = c ∧ e.item = (i : Int)
  bound : ∀ (i : Nat) c, g[i]? = some c → 0 ≤ c ∧ c ≤ (E : Int) * 1048576
  nogoal : ∀ (j : Nat) s, fn[j]? = some true → L[j]? = some s → holdsB t.goal s = false
  rel : ∀ (j : Nat) s q, fn[j]? = some true → L[j]? = some s → q ∈ sel s → D j q → ∃ (k : Nat) (o : Opr) (i : Nat) (c c' : Int), q = (k : Int) ∧ t.ops[k]? = some o ∧ L[i]? = some (succ o s) ∧ g[j]? = some c ∧ g[i]? = some c' ∧ c' ≤ c + o.cost
  num : cnt fn = E
  rch : ∀ (i : Nat) s, L[i]? = some s → Rch t s
  first : 0 < E → fn[0]? = some true
section
variable {t : Tsk} {sel : List Int → List Int} {D : Nat → Int → Prop} {L L' : List (List Int)} {lk lk' : List RLk} {g g' : List Int} {fn fn' : List Bool} {hp hp' : List QEn} {ord : Nat → Nat} {E : Nat}
theorem SrI.upd (h : SrI t sel D L lk g fn hp ord E) (hok : TaskOk t) {i p q : Nat} {o : Opr} {s sp : List Int} {x cp lc : Int} {e : QEn} (hL : UpL i s L L') (hk : UpL i ⟨(p : Int), (q : Int), lc⟩ lk lk') (hg : UpL i x g g') (hf : UpL i false fn fn') (hh : hp'.Perm (e :: hp)) (ek : e.key = x) (ei : e.item = (i : Int))
    (l1 : lk'.length = L'.length) (l2 : g'.length = L'.length) (l3 : fn'.length = L'.length) (l4 : L.length ≤ L'.length) (hc : cnt fn' = cnt fn) (hi : L[i]? = none ∨ (L[i]? = some s ∧ fn[i]? = some false ∧ ∀ c, g[i]? = some c → x < c))
    (ho : t.ops[q]? = some o) (hsp : L[p]? = some sp) (hfp : fn[p]? = some true) (hpre : holdsB o.pre sp = true) (hs : succ o sp = s) (hgp : g[p]? = some cp) (hx : x = cp + o.cost) (hmax : ∀ (j : Nat) c, fn[j]? = some true → g[j]? = some c → c ≤ cp) (hxE : x ≤ (E : Int) * 1048576) :
    SrI t sel D L' lk' g' fn' hp' ord E := by
  have hoc := (hok.2.2.2.2.2 q o ho).1
  have hcp := (h.bound p cp hgp).1
  have hfin : ∀ j : Nat, fn[j]? = some true → j ≠ i := fun j hj e => by
    subst e
    rcases hi with hn | ⟨_, hn, _⟩
    · have := lt_of_get hj
      rw [h.lenf] at this
      rw [List.getElem?_eq_none_iff] at hn
      omega
    · rw [hj] at hn; cases hn
  have hfin' : ∀ j : Nat, fn'[j]? = some true → j ≠ i ∧ fn[j]? = some true := fun j hj => by
    have hne : j ≠ i := fun e => by subst e; rw [hf.1] at hj; cases hj
    exact ⟨hne, by rw [← hf.2 j hne]; exact hj⟩
  have h0 : (0 : Nat) ≠ i := fun e => by
    subst e
    rcases hi with hn | ⟨_, _, hn⟩
    · rw [h.root] at hn; cases hn
    · have := hn 0 h.root0; omega
  have hpi := hfin p hfp
  have hiL : i < L'.length := lt_of_get hL.1
  refine ⟨by rw [hL.2 0 h0]; exact h.root, by rw [hg.2 0 h0]; exact h.root0, l1, l2, l3, ?_, ?_, ?_, ?_, ?_, ?_, ?_, ?_, by rw [hc]; exact h.num, ?_, ?_⟩
  · intro j s' k c hs' hk' hc'
    by_cases e1 : j = i
    · subst e1
      rw [hL.1] at hs'
      rw [hk.1] at hk'
      rw [hg.1] at hc'
      obtain rfl := Option.some.inj hs'
      obtain rfl := Option.some.inj hk'
      obtain rfl := Option.some.inj hc'
      exact .inr ⟨p, q, o, sp, cp, rfl, rfl, ho, by rw [hL.2 p hpi]; exact hsp, by rw [hf.2 p hpi]; exact hfp, hpre, hs, by rw [hg.2 p hpi]; exact hgp, hx, fun hh => by rw [hf.1] at hh; cases hh⟩
    · rw [hL.2 j e1] at hs'
      rw [hk.2 j e1] at hk'
      rw [hg.2 j e1] at hc'
      rcases h.link j s' k c hs' hk' hc' with hh | ⟨p', q', o', sp', c', a1, a2, a3, a4, a5, a6, a7, a8, a9, a10⟩
      · exact .inl hh
      · have hne := hfin p' a5
        exact .inr ⟨p', q', o', sp', c', a1, a2, a3, by rw [hL.2 p' hne]; exact a4, by rw [hf.2 p' hne]; exact a5, a6, a7, by rw [hg.2 p' hne]; exact a8, a9, fun hh => a10 (hfin' j hh).2⟩
  · exact fun j hj => h.ordl j (hfin' j hj).2
  · intro j c hj hcj e' he'
    obtain ⟨hne, hj⟩ := hfin' j hj
    rw [hg.2 j hne] at hcj
    rcases List.mem_cons.1 (hh.mem_iff.1 he') with rfl | hm
    · have := hmax j c hj hcj; omega
    · exact h.lower j c hj hcj e' hm
  · intro e' he'
    rcases List.mem_cons.1 (hh.mem_iff.1 he') with rfl | hm
    · exact ⟨i, ei, hiL, fun c hc => by rw [hg.1] at hc; have := Option.some.inj hc; omega⟩
    · obtain ⟨j, j1, j2, j3⟩ := h.ent e' hm
      refine ⟨j, j1, by omega, fun c hc => ?_⟩
      by_cases e1 : j = i
      · subst e1
        rw [hg.1] at hc
        obtain rfl := Option.some.inj hc
        rcases hi with hn | ⟨_, _, hn⟩
        · rw [List.getElem?_eq_none_iff] at hn; omega
        · obtain ⟨c0, hc0⟩ := some_of_lt (l := g) (k := j) (by rw [h.leng]; exact j2)
          have := j3 c0 hc0
          have := hn c0 hc0
          omega
      · rw [hg.2 j e1] at hc; exact j3 c hc
  · intro j c hj hcj
    by_cases e1 : j = i
    · subst e1
      rw [hg.1] at hcj
      obtain rfl := Option.some.inj hcj
      exact ⟨e, hh.mem_iff.2 List.mem_cons_self, ek, ei⟩
    · rw [hf.2 j e1] at hj
      rw [hg.2 j e1] at hcj
      obtain ⟨e', m, r⟩ := h.opn j c hj hcj
      exact ⟨e', hh.mem_iff.2 (List.mem_cons_of_mem _ m), r⟩
  · intro j c hcj
    by_cases e1 : j = i
    · subst e1
      rw [hg.1] at hcj
      obtain rfl := Option.some.inj hcj
      omega
    · rw [hg.2 j e1] at hcj; exact h.bound j c hcj
  · intro j s' hj hs'
    obtain ⟨hne, hj⟩ := hfin' j hj
    rw [hL.2 j hne] at hs'
    exact h.nogoal j s' hj hs'
  · intro j s' q' hj hs' hq hD
    obtain ⟨hne, hj⟩ := hfin' j hj
    rw [hL.2 j hne] at hs'
    obtain ⟨k, o', i', c, c', a1, a2, a3, a4, a5, a6⟩ := h.rel j s' q' hj hs' hq hD
    by_cases e1 : i' = i
    · subst e1
      rcases hi with hn | ⟨hn1, _, hn⟩
      · rw [hn] at a3; cases a3
      · rw [hn1] at a3
        have := hn c' a5
        exact ⟨k, o', i', c, x, a1, a2, by rw [hL.1]; exact a3, by rw [hg.2 j hne]; exact a4, hg.1, by omega⟩
    · exact ⟨k, o', i', c, c', a1, a2, by rw [hL.2 i' e1]; exact a3, by rw [hg.2 j hne]; exact a4, by rw [hg.2 i' e1]; exact a5, a6⟩
  · intro j s' hs'
    by_cases e1 : j = i
    · subst e1
      rw [hL.1] at hs'
      obtain rfl := Option.some.inj hs'
      rw [← hs]
      exact (h.rch p sp hsp).step ho hpre
    · rw [hL.2 j e1] at hs'; exact h.rch j s' hs'
  · intro hE
    rw [hf.2 0 h0]; exact h.first hE
/-- An entry that is out of date is thrown away. -/
theorem SrI.drop (h : SrI t sel D L lk g fn hp ord E) {e : QEn} (hh : hp.Perm (e :: hp')) {i : Nat} (hi : e.item = (i : Int)) (hd : fn[i]? = some true ∨ g[i]? ≠ some e.key) : SrI t sel D L lk g fn hp' ord E :=
  { h with
    lower := fun j c hj hc e' he' => h.lower j c hj hc e' (hh.mem_iff.2 (List.mem_cons_of_mem _ he'))
    ent := fun e' he' => h.ent e' (hh.mem_iff.2 (List.mem_cons_of_mem _ he'))
    opn := fun j c hj hc => by
      obtain ⟨e', m, k1, k2⟩ := h.opn j c hj hc
      rcases List.mem_cons.1 (hh.mem_iff.1 m) with rfl | hm
      · exfalso
        have e1 : i = j := by omega
        subst e1
        rcases hd with hd | hd
        · rw [hj] at hd; cases hd
        · exact hd (by rw [k1]; exact hc)
      · exact ⟨e', hm, k1, k2⟩ }
/-- A state begins to be expanded. -/
theorem SrI.mark (h : SrI t sel (fun _ _ => True) L lk g fn hp ord E) {e : QEn} (hh : hp.Perm (e :: hp')) (hmin : ∀ x ∈ hp, nb x e) {i : Nat} {s : List Int} (hi : e.item = (i : Int)) (hf : fn[i]? = some false) (hc : g[i]? = some e.key) (hs : L[i]? = some s) (hg : holdsB t.goal s = false) :
    SrI t sel (fun j _ => j ≠ i) L lk g (fn.set i true) hp' (fun j => if j = i then E else ord j) (E + 1) := by
  have hil := lt_of_get hf
  have hset : ∀ j : Nat, (fn.set i true)[j]? = some true → j = i ∨ (j ≠ i ∧ fn[j]? = some true) := fun j hj => by
    by_cases e1 : j = i
    · exact .inl e1
    · rw [List.getElem?_set_ne (by omega)] at hj; exact .inr ⟨e1, hj⟩
  have hkeep : ∀ j : Nat, fn[j]? = some true → j ≠ i ∧ (fn.set i true)[j]? = some true := fun j hj => by
    have hne : j ≠ i := fun e1 => by subst e1; rw [hf] at hj; cases hj
    exact ⟨hne, by rw [List.getElem?_set_ne (by omega)]; exact hj⟩
  refine ⟨h.root, h.root0, h.lenk, h.leng, by simp [h.lenf], ?_, ?_, ?_, ?_, ?_, ?_, ?_, ?_, by rw [cnt_set hf, h.num], h.rch, ?_⟩
  · intro j s' k c hs' hk' hc'
    rcases h.link j s' k c hs' hk' hc' with hh | ⟨p', q', o', sp', c', a1, a2, a3, a4, a5, a6, a7, a8, a9, a10⟩
    · exact .inl hh
    · obtain ⟨hne, hp2⟩ := hkeep p' a5
      refine .inr ⟨p', q', o', sp', c', a1, a2, a3, a4, hp2, a6, a7, a8, a9, fun hj => ?_⟩
      rw [if_neg hne]
      rcases hset j hj with rfl | ⟨hne2, hj2⟩
      · rw [if_pos rfl]; exact h.ordl p' a5
      · rw [if_neg hne2]; exact a10 hj2
  · intro j hj
    rcases hset j hj with rfl | ⟨hne2, hj2⟩
    · rw [if_pos rfl]; omega
    · rw [if_neg hne2]; have := h.ordl j hj2; omega
  · intro j c hj hcj e' he'
    have hm : e' ∈ hp := hh.mem_iff.2 (List.mem_cons_of_mem _ he')
    rcases hset j hj with rfl | ⟨_, hj2⟩
    · rw [hc] at hcj
      obtain rfl := Option.some.inj hcj
      exact nb_key (hmin e' hm)
    · exact h.lower j c hj2 hcj e' hm
  · exact fun e' he' => h.ent e' (hh.mem_iff.2 (List.mem_cons_of_mem _ he'))
  · intro j c hj hcj
    have hne : j ≠ i := fun e1 => by subst e1; rw [List.getElem?_set_self hil] at hj; cases hj
    rw [List.getElem?_set_ne (by omega)] at hj
    obtain ⟨e', m, k1, k2⟩ := h.opn j c hj hcj
    rcases List.mem_cons.1 (hh.mem_iff.1 m) with rfl | hm
    · omega
    · exact ⟨e', hm, k1, k2⟩
  · intro j c hcj
    have := h.bound j c hcj
    omega
  · intro j s' hj hs'
    rcases hset j hj with rfl | ⟨_, hj2⟩
    · rw [hs] at hs'; obtain rfl := Option.some.inj hs'; exact hg
    · exact h.nogoal j s' hj2 hs'
  · intro j s' q hj hs' hq hD
    rcases hset j hj with rfl | ⟨_, hj2⟩
    · exact absurd rfl hD
    · exact h.rel j s' q hj2 hs' hq trivial
  · intro _
    by_cases h0 : i = 0
    · subst h0; exact List.getElem?_set_self hil
    · have hE : 0 < E := by
        obtain ⟨k, hk⟩ := some_of_lt (l := lk) (k := i) (by rw [h.lenk, ← h.lenf]; exact hil)
        rcases h.link i s k _ hs hk hc with ⟨hh, _⟩ | ⟨p', _, _, _, _, _, _, _, _, a5, _⟩
        · exact absurd hh h0
        · rw [← h.num]; exact cnt_pos a5
      exact (hkeep 0 (h.first hE)).2
/-- On the way to a goal there is a state in the queue. -/
theorem SrI.front (h : SrI t sel (fun _ _ => True) L lk g fn hp ord E) (hok : TaskOk t) {s : List Int} {C : Int} (hw : WalkS t sel s C) : ∀ (i : Nat) c, L[i]? = some s → g[i]? = some c → ∃ e ∈ hp, e.key ≤ c + C := by
  induction hw with
  | @goal s hg =>
    intro i c hi hc
    obtain ⟨b, hb⟩ := some_of_lt (l := fn) (k := i) (by rw [h.lenf]; exact lt_of_get hi)
    cases b with
    | false => obtain ⟨e, m, k1, _⟩ := h.opn i c hb hc; exact ⟨e, m, by omega⟩
    | true => have := h.nogoal i s hb hi; rw [hg] at this; cases this
  | @step s k o C ho hk hw ih =>
    intro i c hi hc
    have h1 := walkS_pos hok hw
    have h2 := (hok.2.2.2.2.2 k o ho).1
    obtain ⟨b, hb⟩ := some_of_lt (l := fn) (k := i) (by rw [h.lenf]; exact lt_of_get hi)
    cases b with
    | false => obtain ⟨e, m, k1, _⟩ := h.opn i c hb hc; exact ⟨e, m, by omega⟩
    | true =>
      obtain ⟨k', o', i', c0, c', a1, a2, a3, a4, a5, a6⟩ := h.rel i s _ hb hi hk trivial
      have e1 : k = k' := by omega
      subst e1
      rw [ho] at a2
      obtain rfl := Option.some.inj a2
      rw [hc] at a4
      obtain rfl := Option.some.inj a4
      obtain ⟨e, m, k1⟩ := ih i' c' a3 a5
      exact ⟨e, m, by omega⟩
/-- The links lead to the root. -/
theorem SrI.pathF (h : SrI t sel D L lk g fn hp ord E) : ∀ (n i : Nat) s c, ord i < n → fn[i]? = some true → L[i]? = some s → g[i]? = some c → ∃ p, PathL lk i p ∧ PlanR t t.init p s c ∧ p.length ≤ ord i := by
  intro n
  induction n with
  | zero => intro i s c hn; omega
  | succ n ih =>
    intro i s c hn hf hi hc
    obtain ⟨k, hk⟩ := some_of_lt (l := lk) (k := i) (by rw [h.lenk]; exact lt_of_get hi)
    rcases h.link i s k c hi hk hc with ⟨rfl, h1, rfl⟩ | ⟨p', q', o', sp', c', a1, a2, a3, a4, a5, a6, a7, a8, a9, a10⟩
    · rw [h.root] at hi
      obtain rfl := Option.some.inj hi
      exact ⟨[], .root hk (by omega), .nil, by simp⟩
    · have ho := a10 hf
      obtain ⟨p, b1, b2, b3⟩ := ih p' sp' c' (by omega) a5 a4 a8
      refine ⟨p ++ [k.op], .step hk a1 b1, ?_, by simp; omega⟩
      rw [a2, a9, ← a7]
      exact b2.snoc a3 a6
theorem SrI.path (h : SrI t sel D L lk g fn hp ord E) {i : Nat} {s : List Int} {c : Int} (hi : L[i]? = some s) (hc : g[i]? = some c) : ∃ p, PathL lk i p ∧ PlanR t t.init p s c ∧ p.length ≤ E := by
  obtain ⟨k, hk⟩ := some_of_lt (l := lk) (k := i) (by rw [h.lenk]; exact lt_of_get hi)
  rcases h.link i s k c hi hk hc with ⟨rfl, h1, rfl⟩ | ⟨p', q', o', sp', c', a1, a2, a3, a4, a5, a6, a7, a8, a9, a10⟩
  · rw [h.root] at hi
    obtain rfl := Option.some.inj hi
    exact ⟨[], .root hk (by omega), .nil, by simp⟩
  · have ho := h.ordl p' a5
    obtain ⟨p, b1, b2, b3⟩ := h.pathF (ord p' + 1) p' sp' c' (by omega) a5 a4 a8
    refine ⟨p ++ [k.op], .step hk a1 b1, ?_, by simp; omega⟩
    rw [a2, a9, ← a7]
    exact b2.snoc a3 a6
/-- One more operator of a state has been looked at. -/
theorem SrI.more (h : SrI t sel D L lk g fn hp ord E) {D' : Nat → Int → Prop} {j₀ : Nat} {q₀ : Int} (hD : ∀ j q, D' j q → D j q ∨ (j = j₀ ∧ q = q₀)) {s : List Int} (hs : L[j₀]? = some s) {k : Nat} {o : Opr} {i : Nat} {c c' : Int} (h1 : q₀ = (k : Int)) (h2 : t.ops[k]? = some o) (h3 : L[i]? = some (succ o s)) (h4 : g[j₀]? = some c) (h5 : g[i]? = some c') (h6 : c' ≤ c + o.cost) : SrI t sel D' L lk g fn hp ord E :=
  { h with
    rel := fun j s' q hj hs' hq hd => by
      rcases hD j q hd with hd | ⟨rfl, rfl⟩
      · exact h.rel j s' q hj hs' hq hd
      · rw [hs] at hs'
        obtain rfl := Option.some.inj hs'
        exact ⟨k, o, i, c, c', h1, h2, h3, h4, h5, h6⟩ }
end
end
section
open Go Go.RowKit
attribute [local irreducible] ewp owp hwp hwq hws Ev Evg Fn retPost loud loudS Res1
noncomputable def m_base_Best (x0 : Tsk) : Option Int :=
  bnd (m_base_Distances x0) fun q24 => bnd (m_base_Rank x0.vars x0.init) fun q33 => bnd (atI q24 q33) fun a41 => some a41
theorem c_base_Best {w : World} {A : Nat → Prop} (hA : ∀ k, A k → k < w.heap.size) {vx0 : Value} {x0 : Tsk} (hx0 : Vb w A vx0 x0) {r : Int} (hm : m_base_Best x0 = some r) :
    Fn Try.prog 22 [vx0] w fun v w' => Ext w w' ∧ Vb w' (upA A w w') v r := by
 obtain ⟨O, hB, hA0⟩ := enter hA
 replace hx0 := hx0.mono hA0
 obtain ⟨cs2, rfl, v3, v4, v5, v6, rfl, h7, h10, h13, h16⟩ := hx0
 obtain ⟨A8, c9, rfl⟩ := h7.form
 obtain ⟨A11, c12, rfl⟩ := h10.form
 obtain ⟨A14, c15, rfl⟩ := h13.form
 obtain ⟨A17, c18, rfl⟩ := h16.form
 refine fn_enter Try.func22 rfl Try.ntmps22 rfl ?_
 unfold m_base_Best at hm
 refine ewp_seq (ewp_region (l_box 2 O rfl rfl fun g19 w20 O21 S22 h23 => ?_))
 replace h23 : Lc 2 w20 O21 g19 26 [(.slice A8 x0.vars.length c9), (.slice A11 x0.init.length c12), (.slice A14 x0.goal.length c15), (.slice A17 x0.ops.length c18)] := h23
 refine o_as rfl rfl (o_z ?_)
 refine ewp_seq (ewp_drawX [(1, []), (6, [])] O21 ?_)
 refine x_pre (fuel := 5) [] [(0, true), (2, true), (3, true), (4, true), (5, true)] (by kernel_rfl) rfl ?_
 refine h_laB (hl := rfl) (hb := fun w' ⟨O', hq⟩ => ((h23.st hq (by decide)).1).cellsAt) rfl rfl rfl ?_
 refine h_fa rfl rfl rfl (h_ldC (hc := fun w' ⟨O', hq⟩ => Blk.cell (i := 0) ((h23.st hq (by decide)).1) rfl) rfl rfl rfl ?_)
 refine h_fa rfl rfl rfl (h_ldC (hc := fun w' ⟨O', hq⟩ => Blk.cell (i := 1) ((h23.st hq (by decide)).1) rfl) rfl rfl rfl ?_)
 refine hwp_nilT ?_
 refine x_one (i := 1) (by kernel_rfl) rfl ?_
 obtain ⟨q24, e25, hm⟩ := bs hm
 replace h7 := h7.st S22
 replace h10 := h10.st S22
 replace h13 := h13.st S22
 replace h16 := h16.st S22
 refine l_call (O := O21) (R := fun w' F v => Vb w' F v q24) (c_base_Distances Fr.lt (Vb.ofAgg (cs := [(.slice A8 x0.vars.length c9), (.slice A11 x0.init.length c12), (.slice A14 x0.goal.length c15), (.slice A17 x0.ops.length c18)]) (x := x0) rfl ⟨_, _, _, _, rfl, h7, h10, h13, h16⟩) e25) rfl rfl fun v30 w26 O27 S28 h29 => ?_
 obtain ⟨A31, c32, rfl⟩ := h29.form
 have hZ := S28.lst [] (fun _ h => h.elim)
 refine x_go [(6, [])] hZ (by kernel_rfl) ?_
 refine x_one (i := 6) (by kernel_rfl) rfl ?_
 obtain ⟨q33, e34, hm⟩ := bs hm
 replace h7 := h7.st S28
 replace h10 := h10.st S28
 refine l_callA (O := O27) (A := All w26) (R := fun w' F v => Vb w' F v q33) (c_base_Rank (fun _ h => h) (Vb.mono (F := Fr 0 w26 O27) h7 Fr.lt) (Vb.mono (F := Fr 0 w26 O27) h10 Fr.lt) e34) rfl rfl fun v39 w35 O36 S37 h38 => ?_
 obtain ⟨rfl, r40⟩ := h38.int
 have hZ := S37.lst [] (fun _ h => h.elim)
 refine x_go [] hZ (by kernel_rfl) ?_
 refine x_pre (fuel := 0) [] [(7, true), (8, true), (9, true)] (by kernel_rfl) rfl ?_
 obtain ⟨a41, e42, hm⟩ := bs hm
 obtain ⟨p44, x43⟩ := atI_some' e42
 replace h29 := h29.st S37
 obtain ⟨b45, o46, ce47, hA48, hF51, hl49, hd50, rfl, r52⟩ := h29.elem x43
 refine h_iaE (hA := hA48) (hj := (Int.toNat_of_nonneg p44).symm) (hlt := hl49) rfl rfl rfl rfl ?_
 refine h_ldC (hc := fun w' ⟨O', hq⟩ => cat0 (cellsAt_agree (hq.agree (i := 0) (by decide)) hF51 hd50)) rfl rfl rfl ?_
 refine h_as rfl rfl rfl (hwp_nilT ?_)
 refine x_nil (by kernel_rfl) ?_
 refine ewp_ret ?_
 obtain rfl := sm hm
 replace hB := ((hB.st S22).st S28).st S37
 exact ret1v rfl (res_tmp rfl) ⟨hB.ext, (vInt r52)⟩
noncomputable def m_base_Result (x0 : Tsk) (x1 : Rsl) (x2 : Int) : Option Bool :=
  if 1125899906842624 ≤ x2 then (bnd (if x1.verdict = 2 then (if (x1.plan.length : Int) = 0 then (if x1.cost = 0 then (some true) else (some false)) else (some false)) else (some false) : Option Bool) fun y40 => some y40) else (bnd (m_base_Cost x0 x0.init x1.plan) fun q53 => bnd (if x1.verdict = 1 then (if q53.2 = true then (if q53.1 = x2 then (if x1.cost = x2 then (some true) else (some false)) else (some false)) else (some false)) else (some false) : Option Bool) fun y65 => some y65)
theorem c_base_Result {w : World} {A : Nat → Prop} (hA : ∀ k, A k → k < w.heap.size) {vx0 : Value} {x0 : Tsk} (hx0 : Vb w A vx0 x0) {vx1 : Value} {x1 : Rsl} (hx1 : Vb w A vx1 x1) {x2 : Int} (rx2 : inI64 x2) {r : Bool} (hm : m_base_Result x0 x1 x2 = some r) :
    Fn Try.prog 21 [vx0, vx1, (.int .i64 x2)] w fun v w' => Ext w w' ∧ Vb w' (upA A w w') v r := by
 obtain ⟨O, hB, hA0⟩ := enter hA
 replace hx0 := hx0.mono hA0
 obtain ⟨cs4, rfl, v5, v6, v7, v8, rfl, h9, h12, h15, h18⟩ := hx0
 obtain ⟨A10, c11, rfl⟩ := h9.form
 obtain ⟨A13, c14, rfl⟩ := h12.form
 obtain ⟨A16, c17, rfl⟩ := h15.form
 obtain ⟨A19, c20, rfl⟩ := h18.form
 replace hx1 := hx1.mono hA0
 obtain ⟨cs21, rfl, v22, rfl, h23, r26, r27, r28⟩ := hx1
 obtain ⟨A24, c25, rfl⟩ := h23.form
 refine fn_enter Try.func21 rfl Try.ntmps21 rfl ?_
 unfold m_base_Result at hm
 refine ewp_seq (ewp_region (l_box 2 O rfl rfl fun g29 w30 O31 S32 h33 => ?_))
 replace h33 : Lc 2 w30 O31 g29 26 [(.slice A10 x0.vars.length c11), (.slice A13 x0.init.length c14), (.slice A16 x0.goal.length c17), (.slice A19 x0.ops.length c20)] := h33
 refine l_box 3 O31 rfl rfl fun g34 w35 O36 S37 h38 => ?_
 replace h38 : Lc 3 w35 O36 g34 30 [(.int .i64 x1.verdict), (.slice A24 x1.plan.length c25), (.int .i64 x1.cost), (.int .i64 x1.expanded)] := h38
 refine o_as rfl rfl (o_z ?_)
 refine ewp_seq (ewp_seq (ewp_region (o_mv rfl rfl (o_geS rfl rfl rfl (fun c39 => ?_) fun c39 => ?_))))
 ·
  replace hm := ip hm c39
  refine o_z ?_
  refine ewp_true rfl (ewp_seq ?_)
  obtain ⟨y40, hy41, hm⟩ := bs hm
  refine ewp_join (fun l' w' => ∃ (x43 : Unit) (O' : Lab), subs l' [(6, (.bool y40))] ∧ Bs w A w' O') ?_ ?_
  ·
   refine ewp_region (o_fa rfl rfl (o_ld (hc := Blk.cell (i := 0) (h38.1) rfl) rfl rfl ?_))
   refine o_eeS rfl rfl rfl (fun c44 => ?_) fun c44 => ?_
   ·
    replace hy41 := ip hy41 c44
    refine o_mv rfl rfl (owp_yes rfl rfl (o_fa rfl rfl (owp_yes rfl rfl (o_ld (hc := Blk.cell (i := 1) (h38.1) rfl) rfl rfl ?_))))
    refine owp_yes rfl rfl (o_ln rfl rfl ?_)
    replace h23 := (h23.st S32).st S37
    have l46 : x1.plan.length ≤ 9223372036854775807 := Nat.le_trans h23.len.2.1 h23.len.2.2
    have r45 : inI64 (x1.plan.length : Int) := rngNat l46
    refine owp_yes rfl rfl (o_eeS rfl rfl rfl (fun c47 => ?_) fun c47 => ?_)
    ·
     replace hy41 := ip hy41 c47
     refine o_pt rfl rfl rfl (o_mv rfl rfl (owp_yes rfl rfl (o_fa rfl rfl (owp_yes rfl rfl (o_ld (hc := Blk.cell (i := 2) (h38.1) rfl) rfl rfl ?_)))))
     refine owp_yes rfl rfl (o_eeS rfl rfl rfl (fun c48 => ?_) fun c48 => ?_)
     ·
      replace hy41 := ip hy41 c48
      refine o_pt rfl rfl rfl (o_as rfl rfl (o_z ?_))
      obtain rfl := sm hy41
      replace hB := (hB.st S32).st S37
      exact ⟨(), _, ⟨rfl, trivial⟩, hB⟩
     ·
      replace hy41 := im hy41 c48
      refine o_pt rfl rfl rfl (o_as rfl rfl (o_z ?_))
      obtain rfl := sm hy41
      replace hB := (hB.st S32).st S37
      exact ⟨(), _, ⟨rfl, trivial⟩, hB⟩
    ·
     replace hy41 := im hy41 c47
     refine o_pt rfl rfl rfl (o_mv rfl rfl (owp_no rfl rfl rfl rfl (owp_no rfl rfl rfl rfl (owp_no rfl rfl rfl rfl (o_pf rfl rfl rfl (o_as rfl rfl (o_z ?_)))))))
     obtain rfl := sm hy41
     replace hB := (hB.st S32).st S37
     exact ⟨(), _, ⟨rfl, trivial⟩, hB⟩
   ·
    replace hy41 := im hy41 c44
    refine o_mv rfl rfl (owp_no rfl rfl rfl rfl (owp_no rfl rfl rfl rfl (owp_no rfl rfl rfl rfl (owp_no rfl rfl rfl rfl (o_pf rfl rfl rfl (o_mv rfl rfl (owp_no rfl rfl rfl rfl (owp_no rfl rfl rfl rfl (owp_no rfl rfl rfl rfl (o_pf rfl rfl rfl (o_as rfl rfl (o_z ?_))))))))))))
    obtain rfl := sm hy41
    replace hB := (hB.st S32).st S37
    exact ⟨(), _, ⟨rfl, trivial⟩, hB⟩
  replace hB := (hB.st S32).st S37
  rintro l49 w50 ⟨x43, O51, hs52, hB⟩
  refine ewp_sub _ hs52 ?_
  refine ewp_ret ?_
  obtain rfl := sm hm
  exact ret1v rfl (res_tmp rfl) ⟨hB.ext, vBool⟩
 ·
  replace hm := im hm c39
  refine o_z ?_
  refine ewp_false rfl (ewp_skip (ewp_seq (ewp_region ?_)))
  replace h33 := h33.st S37
  refine o_la (hl := rfl) (hc := (h33.1).cellsAt) rfl rfl ?_
  refine o_fa rfl rfl (o_ld (hc := Blk.cell (i := 1) (h33.1) rfl) rfl rfl ?_)
  refine o_fa rfl rfl (o_ld (hc := Blk.cell (i := 1) (h38.1) rfl) rfl rfl ?_)
  obtain ⟨q53, e54, hm⟩ := bs hm
  replace h9 := (h9.st S32).st S37
  replace h12 := (h12.st S32).st S37
  replace h15 := (h15.st S32).st S37
  replace h18 := (h18.st S32).st S37
  replace h23 := (h23.st S32).st S37
  refine l_callA (O := O36) (A := All w35) (R := fun w' F v => T2 w' F v q53) (c_base_Cost (fun _ h => h) (Vb.mono (F := Fr 0 w35 O36) (Vb.ofAgg (cs := [(.slice A10 x0.vars.length c11), (.slice A13 x0.init.length c14), (.slice A16 x0.goal.length c17), (.slice A19 x0.ops.length c20)]) (x := x0) rfl ⟨_, _, _, _, rfl, h9, h12, h15, h18⟩) Fr.lt) (Vb.mono (F := Fr 0 w35 O36) h12 Fr.lt) (Vb.mono (F := Fr 0 w35 O36) h23 Fr.lt) e54) rfl rfl fun v59 w55 O56 S57 h58 => ?_
  obtain ⟨v60, v61, rfl, h62, h63⟩ := h58
  obtain ⟨rfl, r64⟩ := h62.int
  obtain rfl := h63.bool
  refine o_mv rfl rfl (o_ex rfl rfl rfl (o_ex rfl rfl rfl (o_as rfl rfl (o_as rfl rfl (o_z ?_)))))
  refine ewp_seq ?_
  obtain ⟨y65, hy66, hm⟩ := bs hm
  refine ewp_join (fun l' w' => ∃ (x68 : Unit) (O' : Lab), subs l' [(6, (.bool y65))] ∧ Bs w A w' O') ?_ ?_
  ·
   refine ewp_region (o_fa rfl rfl ?_)
   replace h38 := h38.st S57
   refine o_ld (hc := Blk.cell (i := 0) (h38.1) rfl) rfl rfl ?_
   refine o_eeS rfl rfl rfl (fun c69 => ?_) fun c69 => ?_
   ·
    replace hy66 := ip hy66 c69
    refine o_mv rfl rfl (owp_yes rfl rfl (o_mv rfl rfl (o_pt rfl rfl rfl (o_mv rfl rfl ?_))))
    rcases Bool.eq_false_or_eq_true q53.2 with c70 | c70
    ·
     try simp only [c70]
     replace hy66 := ip hy66 c70
     refine owp_yes rfl rfl (o_mv rfl rfl (owp_yes rfl rfl (o_mv rfl rfl (owp_yes rfl rfl (o_eeS rfl rfl rfl (fun c71 => ?_) fun c71 => ?_)))))
     ·
      replace hy66 := ip hy66 c71
      refine o_pt rfl rfl rfl (o_mv rfl rfl (owp_yes rfl rfl (o_fa rfl rfl (owp_yes rfl rfl (o_ld (hc := Blk.cell (i := 2) (h38.1) rfl) rfl rfl ?_)))))
      refine owp_yes rfl rfl (o_mv rfl rfl (owp_yes rfl rfl (o_eeS rfl rfl rfl (fun c72 => ?_) fun c72 => ?_)))
      ·
       replace hy66 := ip hy66 c72
       refine o_pt rfl rfl rfl (o_as rfl rfl (o_z ?_))
       obtain rfl := sm hy66
       replace hB := ((hB.st S32).st S37).st S57
       exact ⟨(), _, ⟨rfl, trivial⟩, hB⟩
      ·
       replace hy66 := im hy66 c72
       refine o_pt rfl rfl rfl (o_as rfl rfl (o_z ?_))
       obtain rfl := sm hy66
       replace hB := ((hB.st S32).st S37).st S57
       exact ⟨(), _, ⟨rfl, trivial⟩, hB⟩
     ·
      replace hy66 := im hy66 c71
      refine o_pt rfl rfl rfl (o_mv rfl rfl (owp_no rfl rfl rfl rfl (owp_no rfl rfl rfl rfl (owp_no rfl rfl rfl rfl (owp_no rfl rfl rfl rfl (o_pf rfl rfl rfl (o_as rfl rfl (o_z ?_))))))))
      obtain rfl := sm hy66
      replace hB := ((hB.st S32).st S37).st S57
      exact ⟨(), _, ⟨rfl, trivial⟩, hB⟩
    ·
     try simp only [c70]
     replace hy66 := im' hy66 c70
     refine owp_no rfl rfl rfl rfl (owp_no rfl rfl rfl rfl (owp_no rfl rfl rfl rfl (o_pf rfl rfl rfl (o_mv rfl rfl (owp_no rfl rfl rfl rfl (owp_no rfl rfl rfl rfl (owp_no rfl rfl rfl rfl (owp_no rfl rfl rfl rfl (o_pf rfl rfl rfl (o_as rfl rfl (o_z ?_)))))))))))
     obtain rfl := sm hy66
     replace hB := ((hB.st S32).st S37).st S57
     exact ⟨(), _, ⟨rfl, trivial⟩, hB⟩
   ·
    replace hy66 := im hy66 c69
    refine o_mv rfl rfl (owp_no rfl rfl rfl rfl (o_pf rfl rfl rfl (o_mv rfl rfl (owp_no rfl rfl rfl rfl (owp_no rfl rfl rfl rfl (owp_no rfl rfl rfl rfl (o_pf rfl rfl rfl (o_mv rfl rfl (owp_no rfl rfl rfl rfl (owp_no rfl rfl rfl rfl (owp_no rfl rfl rfl rfl (owp_no rfl rfl rfl rfl (o_pf rfl rfl rfl (o_as rfl rfl ?_))))))))))))))
    refine o_z ?_
    obtain rfl := sm hy66
    replace hB := ((hB.st S32).st S37).st S57
    exact ⟨(), _, ⟨rfl, trivial⟩, hB⟩
  replace hB := ((hB.st S32).st S37).st S57
  rintro l73 w74 ⟨x68, O75, hs76, hB⟩
  refine ewp_sub _ hs76 ?_
  refine ewp_ret ?_
  obtain rfl := sm hm
  exact ret1v rfl (res_tmp rfl) ⟨hB.ext, vBool⟩
end
section
open Go Go.RowKit
theorem best_eq {t : Tsk} (h : SmallOk t) : ∃ b, m_base_Best t = some b ∧ 0 ≤ b ∧ b ≤ Inf ∧ (b < Inf → Walk t t.init b) ∧ ∀ C, Walk t t.init C → b ≤ C := by
  obtain ⟨d, hd, hdP⟩ := dist_eq h
  obtain ⟨i0, hi0, hi0'⟩ := rank_at h h.ok.2.2.2.1
  obtain ⟨c, c1, c2, c3, c4, _⟩ := hdP.1.2 i0 _ hi0'
  refine ⟨c, ?_, c2, c3, c4, fun C hw => hdP.2 i0 _ c C hi0' c1 hw⟩
  unfold m_base_Best
  rw [hd, bnd_some, hi0, bnd_some, atI_eq, c1, bnd_some]
theorem PlanR.bound {t : Tsk} (h : TaskOk t) {s p s' : List Int} {C : Int} (hr : PlanR t s p s' C) : 0 ≤ C ∧ C ≤ (p.length : Int) * 1048576 := by
  induction hr with
  | nil => simp
  | @cons s rest s' k o C ho _ _ ih =>
    have h1 := (h.2.2.2.2.2 k o ho).1
    have h2 := (h.2.2.2.2.2 k o ho).2.1
    simp only [List.length_cons]
    omega
/-- A right result, asked by the base. -/
theorem result_1 {t : Tsk} (h : SmallOk t) {r : Rsl} {b : Int} (hbw : b < Inf → Walk t t.init b) (hbl : ∀ C, Walk t t.init C → b ≤ C) (hv : r.verdict = 1) (hl : r.plan.length ≤ 1000) {s' : List Int} (hp : PlanR t t.init r.plan s' r.cost) (hg : holdsB t.goal s' = true) (hm : ∀ C, Walk t t.init C → r.cost ≤ C) : m_base_Result t r b = some true := by
  have h1 := hp.bound h.ok
  have h2 := hbl _ (hp.walk hg)
  have hlt : b < Inf := by unfold Inf; omega
  have h3 := hm _ (hbw hlt)
  have he : r.cost = b := by omega
  unfold m_base_Result
  unfold Inf at hlt
  rw [if_neg (by omega), cost_eq h.ok h.ok.2.2.2.1 hp hl, bnd_some, if_pos hv, hg, if_t, he, if_pos rfl, if_pos rfl]
  rfl
theorem result_2 {t : Tsk} {r : Rsl} {b : Int} (hbw : b < Inf → Walk t t.init b) (hv : r.verdict = 2) (hp : r.plan = []) (hc : r.cost = 0) (hn : ∀ C, ¬ Walk t t.init C) : m_base_Result t r b = some true := by
  have hlt : ¬ b < Inf := fun hh => hn _ (hbw hh)
  unfold m_base_Result
  unfold Inf at hlt
  rw [if_pos (by omega), if_pos hv, hp, if_pos (by simp), if_pos hc]
  rfl
theorem nodup_len {α : Type} [DecidableEq α] : ∀ {a b : List α}, a.Nodup → (∀ x ∈ a, x ∈ b) → a.length ≤ b.length
  | [], _, _, _ => Nat.zero_le _
  | x :: a, b, hn, hs => by
    have hx := hs x List.mem_cons_self
    have h1 := nodup_len (a := a) (b := b.erase x) (List.nodup_cons.1 hn).2 fun y hy => (List.mem_erase_of_ne (fun e => (List.nodup_cons.1 hn).1 (by rw [← e]; exact hy))).2 (hs y (List.mem_cons_of_mem _ hy))
    have h2 := List.length_erase_of_mem hx
    have h3 := List.length_pos_of_mem hx
    simp only [List.length_cons]
    omega
/-- Few states: no more than those that are marked. -/
def marked : List (List Int) → List Bool → List (List Int)
  | s :: l, b :: bs => if b = true then s :: marked l bs else marked l bs
  | _, _ => []
theorem marked_len : ∀ (l : List (List Int)) (bs : List Bool), bs.length = l.length → (marked l bs).length = cnt bs
  | [], bs, h => by have : bs = [] := List.length_eq_zero_iff.1 h; subst this; rfl
  | s :: l, [], h => by simp at h
  | s :: l, b :: bs, h => by
    have := marked_len l bs (by simpa using h)
    simp only [marked, cnt] at this ⊢
    cases b <;> simp [this]
theorem mem_marked : ∀ {l : List (List Int)} {bs : List Bool} {i : Nat} {s : List Int}, l[i]? = some s → bs[i]? = some true → s ∈ marked l bs
  | [], bs, i, s, h, _ => by simp at h
  | s :: l, [], i, s', _, h => by simp at h
  | s :: l, b :: bs, 0, s', h1, h2 => by simp at h1 h2; subst h1 h2; simp [marked]
  | s :: l, b :: bs, i + 1, s', h1, h2 => by
    have := mem_marked (l := l) (bs := bs) (i := i) (by simpa using h1) (by simpa using h2)
    simp only [marked]
    split
    · exact List.mem_cons_of_mem _ this
    · exact this
theorem nodup_of {L : List (List Int)} (h : ∀ (i j : Nat) s, L[i]? = some s → L[j]? = some s → i = j) : L.Nodup := by
  rw [List.nodup_iff_pairwise_ne, List.pairwise_iff_getElem]
  intro i j hi hj hij he
  have := h i j L[i] (List.getElem?_eq_getElem hi) (by rw [he]; exact List.getElem?_eq_getElem hj)
  omega
end
section
open Go Go.RowKit
attribute [local irreducible] ewp owp hwp hwq hws Ev Evg Fn retPost loud loudS Res1
theorem cloneInts {w : World} {sv : Value} {xs : List Int} (hs : V w sv xs) (hl : xs.length * 8 ≤ 140737488355328) :
    Fn Try.prog 65 [sv] w fun v w' => Own w' w.heap.size (All w) 3 v xs ∧ Ext w w' := by
  obtain ⟨A, c, rfl⟩ := hs.form
  refine fn_enter Try.func65 rfl Try.ntmps65 rfl ?_
  cases A with
  | none =>
    have hx : xs = [] := by
      cases xs with
      | nil => rfl
      | cons x xs => obtain ⟨_, _, _, h, _⟩ := hs.elem (k := 0) (x := x) rfl; cases h
    subst hx
    ((repeat (first | refine ewp_seq ?_ | refine ewp_block ?_ | refine ewp_region ?_ | refine ewp_skip ?_ | refine ewp_exit ?_ | refine ewp_ret ?_ | refine ewp_true rfl ?_ | refine ewp_false rfl ?_)) <;> (refine o_as rfl rfl ?_ <;> (first | refine owp_nilT ?_ | refine owp_nilB ?_ | refine owp_nilBB ?_ | refine owp_nil ?_)) <;> (repeat (first | refine ewp_seq ?_ | refine ewp_block ?_ | refine ewp_region ?_ | refine ewp_skip ?_ | refine ewp_exit ?_ | refine ewp_ret ?_ | refine ewp_true rfl ?_ | refine ewp_false rfl ?_)) <;> (refine o_mv rfl rfl ?_ <;> refine o_sn rfl rfl ?_ <;> (first | refine owp_nilT ?_ | refine owp_nilB ?_ | refine owp_nilBB ?_ | refine owp_nil ?_)) <;> (repeat (first | refine ewp_seq ?_ | refine ewp_block ?_ | refine ewp_region ?_ | refine ewp_skip ?_ | refine ewp_exit ?_ | refine ewp_ret ?_ | refine ewp_true rfl ?_ | refine ewp_false rfl ?_)) <;> (refine o_as rfl rfl ?_ <;> (first | refine owp_nilT ?_ | refine owp_nilB ?_ | refine owp_nilBB ?_ | refine owp_nil ?_)) <;> (repeat (first | refine ewp_seq ?_ | refine ewp_block ?_ | refine ewp_region ?_ | refine ewp_skip ?_ | refine ewp_exit ?_ | refine ewp_ret ?_ | refine ewp_true rfl ?_ | refine ewp_false rfl ?_)))
    exact ret1 rfl rfl ⟨Own.nil _ _ _ _, Below.refl _ _⟩
  | some ad =>
    ((repeat (first | refine ewp_seq ?_ | refine ewp_block ?_ | refine ewp_region ?_ | refine ewp_skip ?_ | refine ewp_exit ?_ | refine ewp_ret ?_ | refine ewp_true rfl ?_ | refine ewp_false rfl ?_)) <;> (refine o_as rfl rfl ?_ <;> (first | refine owp_nilT ?_ | refine owp_nilB ?_ | refine owp_nilBB ?_ | refine owp_nil ?_)) <;> (repeat (first | refine ewp_seq ?_ | refine ewp_block ?_ | refine ewp_region ?_ | refine ewp_skip ?_ | refine ewp_exit ?_ | refine ewp_ret ?_ | refine ewp_true rfl ?_ | refine ewp_false rfl ?_)) <;> (refine o_mv rfl rfl ?_ <;> refine o_sn rfl rfl ?_ <;> (first | refine owp_nilT ?_ | refine owp_nilB ?_ | refine owp_nilBB ?_ | refine owp_nil ?_)) <;> (repeat (first | refine ewp_seq ?_ | refine ewp_block ?_ | refine ewp_region ?_ | refine ewp_skip ?_ | refine ewp_exit ?_ | refine ewp_ret ?_ | refine ewp_true rfl ?_ | refine ewp_false rfl ?_)))
    refine owp_slice rfl rfl rfl (by simp) (by decide) rfl fun w1 hN => ?_
    have hE := hN.ext
    have hown : Own w1 w.heap.size (All w) 3 (.slice (some ⟨w.heap.size, 0, none⟩) 0 0) ([] : List Int) := Own.made hN rfl rfl (Nat.lt_irrefl _) (by decide)
    (refine o_mv rfl rfl ?_)
    refine owp_appendS rfl rfl rfl hown (fun k hk => Nat.lt_of_lt_of_le hk hE.size) hE.size (Vb.agree hs (hE.agree fun _ h => h)) (by decide) (by simpa using hl) (by simp; omega) rfl fun v' w2 ho hK => ?_
    (refine o_as rfl rfl ?_ <;> (first | refine owp_nilT ?_ | refine owp_nilB ?_ | refine owp_nilBB ?_ | refine owp_nil ?_))
    repeat (first | refine ewp_seq ?_ | refine ewp_block ?_ | refine ewp_region ?_ | refine ewp_skip ?_ | refine ewp_exit ?_ | refine ewp_ret ?_ | refine ewp_true rfl ?_ | refine ewp_false rfl ?_)
    refine ret1 rfl rfl ⟨by simpa using ho, hE.trans (hown.fits (Nat.le_refl _) hE.size hK)⟩
theorem cloneFacts {w : World} {sv : Value} {xs : List Fct} (hs : V w sv xs) (hl : xs.length * 16 ≤ 140737488355328) :
    Fn Try.prog 84 [sv] w fun v w' => Own w' w.heap.size (All w) 57 v xs ∧ Ext w w' := by
  obtain ⟨A, c, rfl⟩ := hs.form
  refine fn_enter Try.func84 rfl Try.ntmps84 rfl ?_
  cases A with
  | none =>
    have hx : xs = [] := by
      cases xs with
      | nil => rfl
      | cons x xs => obtain ⟨_, _, _, h, _⟩ := hs.elem (k := 0) (x := x) rfl; cases h
    subst hx
    ((repeat (first | refine ewp_seq ?_ | refine ewp_block ?_ | refine ewp_region ?_ | refine ewp_skip ?_ | refine ewp_exit ?_ | refine ewp_ret ?_ | refine ewp_true rfl ?_ | refine ewp_false rfl ?_)) <;> (refine o_as rfl rfl ?_ <;> (first | refine owp_nilT ?_ | refine owp_nilB ?_ | refine owp_nilBB ?_ | refine owp_nil ?_)) <;> (repeat (first | refine ewp_seq ?_ | refine ewp_block ?_ | refine ewp_region ?_ | refine ewp_skip ?_ | refine ewp_exit ?_ | refine ewp_ret ?_ | refine ewp_true rfl ?_ | refine ewp_false rfl ?_)) <;> (refine o_mv rfl rfl ?_ <;> refine o_sn rfl rfl ?_ <;> (first | refine owp_nilT ?_ | refine owp_nilB ?_ | refine owp_nilBB ?_ | refine owp_nil ?_)) <;> (repeat (first | refine ewp_seq ?_ | refine ewp_block ?_ | refine ewp_region ?_ | refine ewp_skip ?_ | refine ewp_exit ?_ | refine ewp_ret ?_ | refine ewp_true rfl ?_ | refine ewp_false rfl ?_)) <;> (refine o_as rfl rfl ?_ <;> (first | refine owp_nilT ?_ | refine owp_nilB ?_ | refine owp_nilBB ?_ | refine owp_nil ?_)) <;> (repeat (first | refine ewp_seq ?_ | refine ewp_block ?_ | refine ewp_region ?_ | refine ewp_skip ?_ | refine ewp_exit ?_ | refine ewp_ret ?_ | refine ewp_true rfl ?_ | refine ewp_false rfl ?_)))
    exact ret1 rfl rfl ⟨Own.nil _ _ _ _, Below.refl _ _⟩
  | some ad =>
    ((repeat (first | refine ewp_seq ?_ | refine ewp_block ?_ | refine ewp_region ?_ | refine ewp_skip ?_ | refine ewp_exit ?_ | refine ewp_ret ?_ | refine ewp_true rfl ?_ | refine ewp_false rfl ?_)) <;> (refine o_as rfl rfl ?_ <;> (first | refine owp_nilT ?_ | refine owp_nilB ?_ | refine owp_nilBB ?_ | refine owp_nil ?_)) <;> (repeat (first | refine ewp_seq ?_ | refine ewp_block ?_ | refine ewp_region ?_ | refine ewp_skip ?_ | refine ewp_exit ?_ | refine ewp_ret ?_ | refine ewp_true rfl ?_ | refine ewp_false rfl ?_)) <;> (refine o_mv rfl rfl ?_ <;> refine o_sn rfl rfl ?_ <;> (first | refine owp_nilT ?_ | refine owp_nilB ?_ | refine owp_nilBB ?_ | refine owp_nil ?_)) <;> (repeat (first | refine ewp_seq ?_ | refine ewp_block ?_ | refine ewp_region ?_ | refine ewp_skip ?_ | refine ewp_exit ?_ | refine ewp_ret ?_ | refine ewp_true rfl ?_ | refine ewp_false rfl ?_)))
    refine owp_slice rfl rfl rfl (by simp) (by decide) rfl fun w1 hN => ?_
    have hE := hN.ext
    have hown : Own w1 w.heap.size (All w) 57 (.slice (some ⟨w.heap.size, 0, none⟩) 0 0) ([] : List Fct) := Own.made hN rfl rfl (Nat.lt_irrefl _) (by decide)
    (refine o_mv rfl rfl ?_)
    refine owp_appendS rfl rfl rfl hown (fun k hk => Nat.lt_of_lt_of_le hk hE.size) hE.size (Vb.agree hs (hE.agree fun _ h => h)) (by decide) (by simpa using hl) (by simp; omega) rfl fun v' w2 ho hK => ?_
    (refine o_as rfl rfl ?_ <;> (first | refine owp_nilT ?_ | refine owp_nilB ?_ | refine owp_nilBB ?_ | refine owp_nil ?_))
    repeat (first | refine ewp_seq ?_ | refine ewp_block ?_ | refine ewp_region ?_ | refine ewp_skip ?_ | refine ewp_exit ?_ | refine ewp_ret ?_ | refine ewp_true rfl ?_ | refine ewp_false rfl ?_)
    refine ret1 rfl rfl ⟨by simpa using ho, hE.trans (hown.fits (Nat.le_refl _) hE.size hK)⟩
/-- The applicable operators, ascending. -/
def applK (t : Tsk) (s : List Int) (k : Nat) : List Int := ((List.range k).filter fun i => match t.ops[i]? with | some o => holdsB o.pre s | none => false).map fun i : Nat => (i : Int)
def appl (t : Tsk) (s : List Int) : List Int := applK t s t.ops.length
theorem applK_len (t : Tsk) (s : List Int) (k : Nat) : (applK t s k).length ≤ k := by
  unfold applK
  rw [List.length_map]
  exact Nat.le_trans (List.length_filter_le _ _) (by simp)
end
section
open Go Go.RowKit
attribute [local irreducible] ewp owp hwp hwq hws Ev Evg Fn retPost loud loudS Res1
inductive Tr where
  | nil
  | leaf (ops : List Int)
  | node (nx many : Nat) (vals : Nat → Tr) (rest : Tr)
def TrR (w : World) (F : Nat → Prop) : Tr → Value → Prop
  | .nil, p => p = .pointer none
  | .leaf ops, p => ∃ g ov, p = .pointer (some ⟨g, 0, none⟩) ∧ F g ∧ Blk w g 169 [ov, .bool true, .int .i64 0, .slice none 0 0, .pointer none] ∧ Vb w F ov ops
  | .node nx k vals rest, p => ∃ g A c rp, p = .pointer (some ⟨g, 0, none⟩) ∧ F g ∧ Blk w g 169 [.slice none 0 0, .bool false, .int .i64 (nx : Int), .slice A k c, .pointer rp] ∧ TrR w F rest (.pointer rp) ∧
      ∀ i, i < k → ∃ b o q, A = some ⟨b, o, none⟩ ∧ F b ∧ w.cell? ⟨b, o + i, none⟩ = some (.pointer q) ∧ TrR w F (vals i) (.pointer q)
theorem TrR.agree {w w' : World} {F : Nat → Prop} (ha : Agree F w w') : ∀ {T : Tr} {p : Value}, TrR w F T p → TrR w' F T p
  | .nil, _, h => h
  | .leaf ops, _, ⟨g, ov, h1, h2, h3, h4⟩ => ⟨g, ov, h1, h2, h3.keep (ha g h2), h4.agree ha⟩
  | .node nx k vals rest, _, ⟨g, A, c, rp, h1, h2, h3, h4, h5⟩ => ⟨g, A, c, rp, h1, h2, h3.keep (ha g h2), TrR.agree ha h4, fun i hi => by
      obtain ⟨b, o, q, g1, g2, g3, g4⟩ := h5 i hi
      exact ⟨b, o, q, g1, g2, (ha.cell g2).trans g3, TrR.agree ha g4⟩⟩
theorem TrR.mono {w : World} {F G : Nat → Prop} (hk : ∀ k, F k → G k) : ∀ {T : Tr} {p : Value}, TrR w F T p → TrR w G T p
  | .nil, _, h => h
  | .leaf ops, _, ⟨g, ov, h1, h2, h3, h4⟩ => ⟨g, ov, h1, hk _ h2, h3, h4.mono hk⟩
  | .node nx k vals rest, _, ⟨g, A, c, rp, h1, h2, h3, h4, h5⟩ => ⟨g, A, c, rp, h1, hk _ h2, h3, TrR.mono hk h4, fun i hi => by
      obtain ⟨b, o, q, g1, g2, g3, g4⟩ := h5 i hi
      exact ⟨b, o, q, g1, hk _ g2, g3, TrR.mono hk g4⟩⟩
theorem TrR.form {w : World} {F : Nat → Prop} : ∀ {T : Tr} {p : Value}, TrR w F T p → ∃ q, p = .pointer q
  | .nil, _, h => ⟨none, h⟩
  | .leaf _, _, ⟨_, _, h, _⟩ => ⟨_, h⟩
  | .node .., _, ⟨_, _, _, _, h, _⟩ => ⟨_, h⟩
/-- What a tree collects at a state; which variables it looks at; whether the state fits it. -/
def atN (s : List Int) (i : Nat) : Nat := (s[i]?.getD 0).toNat
def coll (s : List Int) : Tr → List Int
  | .nil => []
  | .leaf ops => ops
  | .node nx _ vals rest => coll s (vals (atN s nx)) ++ coll s rest
def look (s : List Int) : Tr → List Bool → List Bool
  | .nil, l => l
  | .leaf _, l => l
  | .node nx _ vals rest, l => look s rest (look s (vals (atN s nx)) (l.set nx true))
def Fits (s : List Int) : Tr → Prop
  | .nil => True
  | .leaf _ => True
  | .node nx k vals rest => (∃ x : Nat, s[nx]? = some (x : Int) ∧ x < k) ∧ Fits s (vals (atN s nx)) ∧ Fits s rest
theorem look_length (s : List Int) : ∀ (T : Tr) (l : List Bool), (look s T l).length = l.length
  | .nil, _ => rfl
  | .leaf _, _ => rfl
  | .node nx k vals rest, l => by rw [look, look_length s rest, look_length s (vals _)]; simp
theorem Own.own_ne {α β : Type} [Rp α] [Rp β] {w : World} {b1 b2 : Nat} {F G : Nat → Prop} {e1 e2 : TypeId} {u v : Value} {xs : List α} {ys : List β} (h : Own w b1 F e1 u xs) (k : Own w b2 G e2 v ys) (hne : e1 ≠ e2) : ∀ g, u.ownBlock = some g → v.ownBlock ≠ some g := by
  intro g hg hv
  obtain ⟨c1, h1, _⟩ := h
  obtain ⟨c2, h2, _⟩ := k
  rcases h1.2 with ⟨rfl, _⟩ | ⟨g1, cap1, cur1, rfl, _, hh1, _⟩
  · simp [Value.ownBlock] at hg
  · rcases h2.2 with ⟨rfl, _⟩ | ⟨g2, cap2, cur2, rfl, _, hh2, _⟩
    · simp [Value.ownBlock] at hv
    · have e1' : g1 = g := by simpa [Value.ownBlock] using hg
      have e2' : g2 = g := by simpa [Value.ownBlock] using hv
      subst e1'; subst e2'
      rw [hh1] at hh2
      injection hh2 with hh2
      injection hh2 with _ ht
      exact hne ht
theorem Own.kept {α : Type} [Rp α] {w w' : World} {base : Nat} {F : Nat → Prop} {e : TypeId} {v u : Value} {xs : List α} (h : Own w base F e v xs) (hK : Kept w w' u) (hF : ∀ k, F k → k < w.heap.size ∧ u.ownBlock ≠ some k) (hne : ∀ g, v.ownBlock = some g → u.ownBlock ≠ some g) : Own w' base F e v xs :=
  h.agree (fun k hk => hK.block k (hF k hk).1 (hF k hk).2) fun g hg => hK.block g (h.lt g hg).2 (hne g hg)
theorem collect (B : Nat) (s : List Int) : ∀ (T : Tr) (w : World) (p ov sv lv : Value) (out : List Int) (looked : List Bool), B ≤ w.heap.size → TrR w (· < B) T p → Vb w (· < B) sv s → Own w B (· < B) 3 ov out → Own w B (· < B) 4 lv looked →
    Fits s T → looked.length = s.length → out.length + (coll s T).length ≤ 1000000 →
    Fn Try.prog 88 [p, ov, sv, lv] w fun v w' => Own w' B (· < B) 3 v (out ++ coll s T) ∧ Own w' B (· < B) 4 lv (look s T looked) ∧ Below B w w' := by
  intro T
  induction T with
  | nil =>
    intro w p ov sv lv out looked hB hT hs ho hl _ _ hlen
    have hp : p = .pointer none := hT
    subst hp
    refine fn_enter Try.func88 rfl Try.ntmps88 rfl ?_
    ((repeat (first | refine ewp_seq ?_ | refine ewp_block ?_ | refine ewp_region ?_ | refine ewp_skip ?_ | refine ewp_exit ?_ | refine ewp_ret ?_ | refine ewp_true rfl ?_ | refine ewp_false rfl ?_)) <;> (refine o_as rfl rfl ?_ <;> (first | refine owp_nilT ?_ | refine owp_nilB ?_ | refine owp_nilBB ?_ | refine owp_nil ?_)) <;> (repeat (first | refine ewp_seq ?_ | refine ewp_block ?_ | refine ewp_region ?_ | refine ewp_skip ?_ | refine ewp_exit ?_ | refine ewp_ret ?_ | refine ewp_true rfl ?_ | refine ewp_false rfl ?_)) <;> (refine o_mv rfl rfl ?_ <;> refine o_pn rfl rfl ?_ <;> (first | refine owp_nilT ?_ | refine owp_nilB ?_ | refine owp_nilBB ?_ | refine owp_nil ?_)) <;> (repeat (first | refine ewp_seq ?_ | refine ewp_block ?_ | refine ewp_region ?_ | refine ewp_skip ?_ | refine ewp_exit ?_ | refine ewp_ret ?_ | refine ewp_true rfl ?_ | refine ewp_false rfl ?_)) <;> (refine o_mv rfl rfl ?_ <;> refine o_as rfl rfl ?_ <;> (first | refine owp_nilT ?_ | refine owp_nilB ?_ | refine owp_nilBB ?_ | refine owp_nil ?_)) <;> (repeat (first | refine ewp_seq ?_ | refine ewp_block ?_ | refine ewp_region ?_ | refine ewp_skip ?_ | refine ewp_exit ?_ | refine ewp_ret ?_ | refine ewp_true rfl ?_ | refine ewp_false rfl ?_)))
    exact ret1 rfl rfl ⟨by simpa [coll] using ho, hl, Below.refl _ _⟩
  | leaf ops =>
    intro w p ov sv lv out looked hB hT hs ho hl _ _ hlen
    obtain ⟨g, opv', rfl, hg, hb1, hops⟩ := hT
    refine fn_enter Try.func88 rfl Try.ntmps88 rfl ?_
    ((repeat (first | refine ewp_seq ?_ | refine ewp_block ?_ | refine ewp_region ?_ | refine ewp_skip ?_ | refine ewp_exit ?_ | refine ewp_ret ?_ | refine ewp_true rfl ?_ | refine ewp_false rfl ?_)) <;> (refine o_as rfl rfl ?_ <;> (first | refine owp_nilT ?_ | refine owp_nilB ?_ | refine owp_nilBB ?_ | refine owp_nil ?_)) <;> (repeat (first | refine ewp_seq ?_ | refine ewp_block ?_ | refine ewp_region ?_ | refine ewp_skip ?_ | refine ewp_exit ?_ | refine ewp_ret ?_ | refine ewp_true rfl ?_ | refine ewp_false rfl ?_)) <;> (refine o_mv rfl rfl ?_ <;> refine o_pn rfl rfl ?_ <;> (first | refine owp_nilT ?_ | refine owp_nilB ?_ | refine owp_nilBB ?_ | refine owp_nil ?_)) <;> (repeat (first | refine ewp_seq ?_ | refine ewp_block ?_ | refine ewp_region ?_ | refine ewp_skip ?_ | refine ewp_exit ?_ | refine ewp_ret ?_ | refine ewp_true rfl ?_ | refine ewp_false rfl ?_)) <;> (refine o_mv rfl rfl ?_ <;> refine o_nc rfl rfl ?_ <;> refine o_fa rfl rfl ?_ <;> refine o_ld rfl rfl ?_ <;> (first | refine owp_nilT ?_ | refine owp_nilB ?_ | refine owp_nilBB ?_ | refine owp_nil ?_)) <;> (repeat (first | refine ewp_seq ?_ | refine ewp_block ?_ | refine ewp_region ?_ | refine ewp_skip ?_ | refine ewp_exit ?_ | refine ewp_ret ?_ | refine ewp_true rfl ?_ | refine ewp_false rfl ?_)) <;> (refine o_mv rfl rfl ?_ <;> refine o_mv rfl rfl ?_ <;> refine o_nc rfl rfl ?_ <;> refine o_fa rfl rfl ?_ <;> refine o_ld rfl rfl ?_) <;> (repeat (first | refine ewp_seq ?_ | refine ewp_block ?_ | refine ewp_region ?_ | refine ewp_skip ?_ | refine ewp_exit ?_ | refine ewp_ret ?_ | refine ewp_true rfl ?_ | refine ewp_false rfl ?_)))
    simp only [coll] at hlen
    refine owp_appendS rfl rfl rfl ho (fun k hk => Nat.lt_of_lt_of_le hk hB) hB hops (by decide) (by omega) (by omega) rfl fun v' w1 ho1 hK => ?_
    (refine o_as rfl rfl ?_ <;> (first | refine owp_nilT ?_ | refine owp_nilB ?_ | refine owp_nilBB ?_ | refine owp_nil ?_))
    repeat (first | refine ewp_seq ?_ | refine ewp_block ?_ | refine ewp_region ?_ | refine ewp_skip ?_ | refine ewp_exit ?_ | refine ewp_ret ?_ | refine ewp_true rfl ?_ | refine ewp_false rfl ?_)
    refine ret1 rfl rfl ⟨ho1, ?_, ho.fits (Nat.le_refl _) hB hK⟩
    exact hl.kept hK (fun k hk => ⟨Nat.lt_of_lt_of_le hk hB, fun he => by have := (ho.lt k he).1; have : k < B := hk; omega⟩) (fun g hg => hl.own_ne ho (by decide) g hg)
  | node nx k vals rest ih1 ih2 =>
    intro w p ov sv lv out looked hB hT hs ho hl hfit hll hlen
    obtain ⟨g, A, c, rp, rfl, hg, hb1, hrest, hvals⟩ := hT
    obtain ⟨⟨x, hx, hxk⟩, hfit1, hfit2⟩ := hfit
    obtain ⟨bv, ovv, q, rfl, hbv, hcv, hq⟩ := hvals x hxk
    obtain ⟨As, cs, rfl⟩ := hs.form
    obtain ⟨bs, os, ce, rfl, hbs, _, hds, rfl, _⟩ := hs.elem hx
    have hnx := lt_of_some hx
    have hat : atN s nx = x := by simp [atN, hx]
    obtain ⟨gl, capl, _, _, rfl, _⟩ := hl.open (by omega)
    refine fn_enter Try.func88 rfl Try.ntmps88 rfl ?_
    have hll' : nx < looked.length := by omega
    ((repeat (first | refine ewp_seq ?_ | refine ewp_block ?_ | refine ewp_region ?_ | refine ewp_skip ?_ | refine ewp_exit ?_ | refine ewp_ret ?_ | refine ewp_true rfl ?_ | refine ewp_false rfl ?_)) <;> (refine o_as rfl rfl ?_ <;> (first | refine owp_nilT ?_ | refine owp_nilB ?_ | refine owp_nilBB ?_ | refine owp_nil ?_)) <;> (repeat (first | refine ewp_seq ?_ | refine ewp_block ?_ | refine ewp_region ?_ | refine ewp_skip ?_ | refine ewp_exit ?_ | refine ewp_ret ?_ | refine ewp_true rfl ?_ | refine ewp_false rfl ?_)) <;> (refine o_mv rfl rfl ?_ <;> refine o_pn rfl rfl ?_ <;> (first | refine owp_nilT ?_ | refine owp_nilB ?_ | refine owp_nilBB ?_ | refine owp_nil ?_)) <;> (repeat (first | refine ewp_seq ?_ | refine ewp_block ?_ | refine ewp_region ?_ | refine ewp_skip ?_ | refine ewp_exit ?_ | refine ewp_ret ?_ | refine ewp_true rfl ?_ | refine ewp_false rfl ?_)) <;> (refine o_mv rfl rfl ?_ <;> refine o_nc rfl rfl ?_ <;> refine o_fa rfl rfl ?_ <;> refine o_ld rfl rfl ?_ <;> (first | refine owp_nilT ?_ | refine owp_nilB ?_ | refine owp_nilBB ?_ | refine owp_nil ?_)) <;> (repeat (first | refine ewp_seq ?_ | refine ewp_block ?_ | refine ewp_region ?_ | refine ewp_skip ?_ | refine ewp_exit ?_ | refine ewp_ret ?_ | refine ewp_true rfl ?_ | refine ewp_false rfl ?_)) <;> (refine o_mv rfl rfl ?_ <;> refine o_mv rfl rfl ?_ <;> refine o_nc rfl rfl ?_ <;> refine o_fa rfl rfl ?_ <;> refine o_ld rfl rfl ?_ <;> refine o_ia rfl rfl rfl ?_) <;> (repeat (first | refine ewp_seq ?_ | refine ewp_block ?_ | refine ewp_region ?_ | refine ewp_skip ?_ | refine ewp_exit ?_ | refine ewp_ret ?_ | refine ewp_true rfl ?_ | refine ewp_false rfl ?_)))
    refine owp_setElem (i := nx) (a := true) rfl rfl rfl hl hll' (show Vb w (· < B) (.bool true) true from rfl) fun w1 hl1 hK1 hz1 => ?_
    have hB1 : Below B w w1 := hl.fits (Nat.le_refl _) hB hK1
    have ho1 : Own w1 B (· < B) 3 ov out := ho.kept hK1 (fun k hk => ⟨Nat.lt_of_lt_of_le hk hB, fun he => by have := (hl.lt k he).1; have : k < B := hk; omega⟩) (fun g hg => ho.own_ne hl (by decide) g hg)
    ((first | refine owp_nilT ?_ | refine owp_nilB ?_ | refine owp_nilBB ?_ | refine owp_nil ?_))
    repeat (first | refine ewp_seq ?_ | refine ewp_block ?_ | refine ewp_region ?_ | refine ewp_skip ?_ | refine ewp_exit ?_ | refine ewp_ret ?_ | refine ewp_true rfl ?_ | refine ewp_false rfl ?_)
    have hag : ∀ w', Below B w1 w' → Agree (· < B) w w' := fun w' h k hk => (hB1.trans h).block k hk
    replace hb1 : ∀ w', Below B w1 w' → Blk w' g 169 [.slice none 0 0, .bool false, .int .i64 (nx : Int), .slice (some ⟨bv, ovv, none⟩) k c, .pointer rp] := fun w' h => hb1.keep (hag w' h g hg)
    have hd1 : ∀ w', Below B w1 w' → cellsAt w' bs (os + nx * 1) [.int .i64 (x : Int)] := fun w' h => cellsAt_agree (hag w' h) hbs hds
    have hc1 : ∀ w', Below B w1 w' → w'.cell? ⟨bv, ovv + x * 1, none⟩ = some (.pointer q) := fun w' h => by rw [Nat.mul_one]; exact ((hag w' h).cell hbv).trans hcv
    refine ewp_draw (Below B w1) [(0, true), (1, true), (2, true), (3, true), (4, true), (5, true), (6, true), (7, true), (8, true), (9, true), (10, true), (11, true), (12, true), (13, true), (14, true), (15, true), (16, true), (17, true), (18, true), (19, true), (21, true), (22, true), (20, false), (23, false), (24, true)] (by kernel_rfl) rfl (by kernel_rfl) (Below.refl _ _) ?_
    (refine h_mv rfl rfl rfl ?_ <;> refine h_nc rfl rfl rfl ?_ <;> refine h_fa rfl rfl rfl ?_ <;> (first | refine h_ldB rfl rfl rfl ?_ | refine h_ldC rfl rfl rfl ?_) <;> refine h_mv rfl rfl rfl ?_ <;> refine h_nc rfl rfl rfl ?_ <;> refine h_fa rfl rfl rfl ?_ <;> (first | refine h_ldB rfl rfl rfl ?_ | refine h_ldC rfl rfl rfl ?_) <;> refine h_mv rfl rfl rfl ?_ <;> refine h_mv rfl rfl rfl ?_ <;> refine h_nc rfl rfl rfl ?_ <;> refine h_fa rfl rfl rfl ?_ <;> (first | refine h_ldB rfl rfl rfl ?_ | refine h_ldC rfl rfl rfl ?_) <;> refine h_ia rfl rfl rfl rfl ?_ <;> (first | refine h_ldB rfl rfl rfl ?_ | refine h_ldC rfl rfl rfl ?_) <;> refine h_ia rfl rfl rfl rfl ?_ <;> (first | refine h_ldB rfl rfl rfl ?_ | refine h_ldC rfl rfl rfl ?_) <;> refine h_mv rfl rfl rfl ?_ <;> refine h_mv rfl rfl rfl ?_ <;> refine h_mv rfl rfl rfl ?_ <;> refine h_mv rfl rfl rfl ?_ <;> refine h_mv rfl rfl rfl ?_)
    refine hwp_loud rfl ?_
    simp only [coll, hat, List.length_append] at hlen
    refine owp_call rfl rfl (ih1 x w1 (.pointer q) ov _ _ out (looked.set nx true) (Nat.le_trans hB hB1.size) (TrR.agree (hag w1 (Below.refl _ _)) hq) (hs.agree (hag w1 (Below.refl _ _))) ho1 hl1 (hat ▸ hfit1) (by simpa using hll) (by omega)) ?_
    rintro v2 w2 ⟨ho2, hl2, hB2⟩
    refine owp_loud hB2 ?_
    refine hwp_loud rfl ?_
    refine owp_call rfl rfl (ih2 w2 (.pointer rp) v2 _ _ (out ++ coll s (vals x)) (look s (vals x) (looked.set nx true)) (Nat.le_trans hB (hB1.trans hB2).size) (TrR.agree (hag w2 hB2) hrest) (hs.agree (hag w2 hB2)) ho2 hl2 hfit2 (by rw [look_length]; simpa using hll) (by rw [List.length_append]; omega)) ?_
    rintro v3 w3 ⟨ho3, hl3, hB3⟩
    refine owp_loud (hB2.trans hB3) ?_
    (refine h_as rfl rfl rfl ?_ <;> (first | refine hwp_nilT ?_ | refine hwp_nilB ?_ | refine hwp_nil ?_))
    repeat (first | refine ewp_seq ?_ | refine ewp_block ?_ | refine ewp_region ?_ | refine ewp_skip ?_ | refine ewp_exit ?_ | refine ewp_ret ?_ | refine ewp_true rfl ?_ | refine ewp_false rfl ?_)
    exact ret1 rfl rfl ⟨by simpa [coll, hat] using ho3, by simpa [look, hat] using hl3, hB1.trans (hB2.trans hB3)⟩
end
section
open Go.Shelf
def Try.lays189_ren : Go.Shelf.Ren := ⟨fun | 189 => 89 | 125 => 92 | 257 => 91 | 128 => 102 | 129 => 103 | 294 => 93 | 295 => 94 | 296 => 95 | 297 => 96 | 298 => 97 | 299 => 98 | 216 => 99 | 300 => 100 | 301 => 101 | 328 => 104 | 329 => 105 | 330 => 106 | 331 => 107 | 332 => 108 | 215 => 109 | 343 => 110 | n => n, fun | 28 => 22 | 3 => 3 | 46 => 171 | 0 => 0 | 51 => 183 | 53 => 150 | 4 => 4 | 183 => 177 | 182 => 176 | 131 => 40 | 5 => 5 | 9 => 9 | 218 => 185 | 222 => 188 | 228 => 190 | 229 => 191 | n => n, fun | n => n⟩
theorem Try.lays189 : Go.Proofs.Lays.n189 Try.prog Try.lays189_ren := {
  mixed := by kernel_rfl
  f125 := Try.func92.trans (congrArg some (by kernel_rfl))
  f128 := Try.func102.trans (congrArg some (by kernel_rfl))
  f129 := Try.func103.trans (congrArg some (by kernel_rfl))
  f189 := Try.func89.trans (congrArg some (by kernel_rfl))
  f215 := Try.func109.trans (congrArg some (by kernel_rfl))
  f216 := Try.func99.trans (congrArg some (by kernel_rfl))
  f257 := Try.func91.trans (congrArg some (by kernel_rfl))
  f294 := Try.func93.trans (congrArg some (by kernel_rfl))
  f295 := Try.func94.trans (congrArg some (by kernel_rfl))
  f296 := Try.func95.trans (congrArg some (by kernel_rfl))
  f297 := Try.func96.trans (congrArg some (by kernel_rfl))
  f298 := Try.func97.trans (congrArg some (by kernel_rfl))
  f299 := Try.func98.trans (congrArg some (by kernel_rfl))
  f300 := Try.func100.trans (congrArg some (by kernel_rfl))
  f301 := Try.func101.trans (congrArg some (by kernel_rfl))
  f328 := Try.func104.trans (congrArg some (by kernel_rfl))
  f329 := Try.func105.trans (congrArg some (by kernel_rfl))
  f330 := Try.func106.trans (congrArg some (by kernel_rfl))
  f331 := Try.func107.trans (congrArg some (by kernel_rfl))
  f332 := Try.func108.trans (congrArg some (by kernel_rfl))
  f343 := Try.func110.trans (congrArg some (by kernel_rfl))
  t0 := Try.underlying0
  a0 := Try.isAgg0
  z0 := Try.sizeOf0
  v0 := Try.zeroValue0
  t3 := Try.underlying3
  a3 := Try.isAgg3
  z3 := Try.sizeOf3
  v3 := Try.zeroValue3
  t4 := Try.underlying4
  a4 := Try.isAgg4
  z4 := Try.sizeOf4
  v4 := Try.zeroValue4
  t5 := Try.underlying5
  a5 := Try.isAgg5
  z5 := Try.sizeOf5
  v5 := Try.zeroValue5
  t9 := Try.underlying9
  a9 := Try.isAgg9
  z9 := Try.sizeOf9
  v9 := Try.zeroValue9
  t28 := Try.underlying22
  a28 := Try.isAgg22
  z28 := Try.sizeOf22
  v28 := Try.zeroValue22
  t46 := Try.underlying171
  a46 := Try.isAgg171
  z46 := Try.sizeOf171
  v46 := Try.zeroValue171
  t51 := Try.underlying183
  a51 := Try.isAgg183
  z51 := Try.sizeOf183
  v51 := Try.zeroValue183
  t53 := Try.underlying150
  a53 := Try.isAgg150
  z53 := Try.sizeOf150
  v53 := Try.zeroValue150
  t131 := Try.underlying40
  a131 := Try.isAgg40
  z131 := Try.sizeOf40
  v131 := Try.zeroValue40
  t182 := Try.underlying176
  a182 := Try.isAgg176
  z182 := Try.sizeOf176
  v182 := Try.zeroValue176
  t183 := Try.underlying177
  a183 := Try.isAgg177
  z183 := Try.sizeOf177
  v183 := Try.zeroValue177
  t218 := Try.underlying185
  a218 := Try.isAgg185
  z218 := Try.sizeOf185
  v218 := Try.zeroValue185
  t222 := Try.underlying188
  a222 := Try.isAgg188
  z222 := Try.sizeOf188
  v222 := Try.zeroValue188
  t228 := Try.underlying190
  a228 := Try.isAgg190
  z228 := Try.sizeOf190
  v228 := Try.zeroValue190
  t229 := Try.underlying191
  a229 := Try.isAgg191
  z229 := Try.sizeOf191
  v229 := Try.zeroValue191 }
open Go.Sort Go.RowKit in
theorem Try.slices_Sort_int (blk off cap : Nat) (zs : List Int) (w : World) (hH : Holds (Value.int .i64) w blk off zs.toArray) (hblk : blk < w.heap.size) (hsz : zs.length < 4611686018427387904) :
    Calls Try.prog 89 #[.slice (some ⟨blk, off, none⟩) zs.length cap] w fun e w' =>
      e = .returned (.tuple #[]) ∧ ∃ n os, w' = grow (putRow (Value.int .i64) (Sort.ahead w n) blk off (zs.mergeSort fun x y => decide (x ≤ y)).toArray) os := Any.slices_Sort_int Try.lays189 blk off cap zs w hH hblk hsz
open Go.RowKit Go.Sort in
/-- .. and plain. (LAID: no walk: one application.) -/
theorem Try.slices_Sort_int_none (p : Option Addr) (cap : Nat) (w : World) :
    Calls Try.prog 89 #[.slice p 0 cap] w fun e w' => e = .returned (.tuple #[]) ∧ w' = w := Any.slices_Sort_int_none Try.lays189 p cap w
end
section
open Go Go.RowKit
def sortL (xs : List Int) : List Int := xs.mergeSort fun x y => decide (x ≤ y)
theorem sortL_length (xs : List Int) : (sortL xs).length = xs.length := List.length_mergeSort xs
theorem chunks_int_eq {w : World} {F : Nat → Prop} : ∀ {xs : List Int} {cells : List Value}, Chunks w F cells xs → cells = xs.map (Value.int .i64) ∧ ∀ x ∈ xs, inI64 x
  | [], _, h => ⟨h, fun _ hx => by simp at hx⟩
  | x :: xs, cells, ⟨cs, rest, he, hr, hc⟩ => by
    obtain ⟨h1, h2⟩ := chunks_int_eq hc
    obtain ⟨h3, h4⟩ := hr
    refine ⟨by rw [he, h3, h1]; rfl, fun y hy => ?_⟩
    rcases List.mem_cons.1 hy with rfl | hy
    · exact h4
    · exact h2 y hy
theorem chunks_int_mk {w : World} {F : Nat → Prop} : ∀ {xs : List Int}, (∀ x ∈ xs, inI64 x) → Chunks w F (xs.map (Value.int .i64)) xs
  | [], _ => rfl
  | x :: xs, h => ⟨[.int .i64 x], xs.map (Value.int .i64), rfl, ⟨rfl, h x (by simp)⟩, chunks_int_mk fun y hy => h y (by simp [hy])⟩
theorem sortInts {w : World} {base : Nat} {F : Nat → Prop} {v : Value} {xs : List Int} (h : Own w base F 3 v xs) (hl : xs.length ≤ 1000000) :
    Fn Try.prog 89 [v] w fun r w' => r = .tuple #[] ∧ Own w' base F 3 v (sortL xs) ∧ Kept w w' v := by
  intro d
  rcases Nat.eq_zero_or_pos xs.length with h0 | h0
  · have hx : xs = [] := List.eq_nil_of_length_eq_zero h0
    subst hx
    have hv : ∃ p c, v = .slice p 0 c := by
      obtain ⟨cells, h1, _⟩ := h
      rcases h1.2 with ⟨rfl, _⟩ | ⟨g, cap, cur, rfl, _⟩
      · exact ⟨_, _, rfl⟩
      · exact ⟨_, _, rfl⟩
    obtain ⟨p, c, rfl⟩ := hv
    refine (Try.slices_Sort_int_none p c (dr w d)).mono fun e w' ⟨he, hw⟩ => ⟨_, w, d, he, hw, rfl, by simpa [sortL] using h, ⟨rfl, rfl, rfl, Nat.le_refl _, fun _ _ _ => rfl⟩⟩
  · obtain ⟨g, cap, cells, sp, rfl, hg, hFg, hb, hc, hlen, hnc, hcm, htot⟩ := h.open h0
    obtain ⟨rfl, hin⟩ := chunks_int_eq hc
    have hH : Go.Sort.Holds (Value.int .i64) (dr w d) g 0 xs.toArray := fun j hj => by
      have hj' : j < xs.length := by simpa using hj
      refine ⟨?_, by rw [Nat.zero_add]; exact hb.frozen j⟩
      rw [Nat.zero_add]
      refine hb.cell ?_
      rw [List.getElem?_append_left (by simpa using hj'), List.getElem?_map, List.getElem?_eq_getElem hj']
      simp [hj']
    refine (Try.slices_Sort_int g 0 cap xs (dr w d) hH hb.lt (by omega)).mono fun e w' ⟨he, n, os, hw⟩ => ⟨_, w', w'.drawn, he, rfl, rfl, ?_, ?_⟩
    · have hblk : Blk w' g 3 ((sortL xs).map (Value.int .i64) ++ sp) := by
        subst hw
        unfold Blk at hb ⊢
        have hsz : g < w.heap.size := Blk.lt hb
        show ((w.heap.modify g _) ++ os)[g]? = _
        rw [Array.getElem?_append_left (by simpa using hsz), Array.getElem?_modify, if_pos rfl, hb]
        simp only [Option.map_some, Go.Sort.onCells]
        congr 2
        apply Array.ext
        · simp [Go.Sort.putCells, sortL_length]
        · intro i h1 h2
          simp only [Go.Sort.putCells, Array.getElem_mapIdx, Nat.zero_add, Nat.sub_zero, Nat.zero_le, true_and]
          have e1 : (List.mergeSort xs fun x y => decide (x ≤ y)).length = xs.length := List.length_mergeSort xs
          by_cases hi : i < xs.length
          · rw [if_pos (by simpa [e1] using hi)]
            simp only [List.getElem_toArray]
            rw [List.getElem_append_left (by simpa [sortL_length] using hi), List.getElem_map]
            congr 1
            rw [getElem!_pos _ _ (by simpa [e1] using hi)]
            simp [sortL]
          · rw [if_neg (by simpa [e1] using hi)]
            simp only [List.getElem_toArray]
            rw [List.getElem_append_right (by simp; omega), List.getElem_append_right (by simp [sortL_length]; omega)]
            simp [sortL_length]
      have := Own.close (w := w') (base := base) (cap := cap) hg hFg hblk (chunks_int_mk (F := F) (w := w') fun x hx => hin x (by
        have := (List.mergeSort_perm xs fun x y => decide (x ≤ y)).mem_iff.1 hx
        exact this)) (by rw [sortL_length]; exact hnc) hcm (by simpa [sortL_length] using htot)
      rwa [sortL_length] at this
    · subst hw
      refine ⟨rfl, rfl, rfl, ?_, fun k hk hne => ?_⟩
      · show w.heap.size ≤ ((w.heap.modify g _) ++ os).size
        simp
      · have hkg : g ≠ k := fun e => hne (by simp [Value.ownBlock, e])
        show ((w.heap.modify g _) ++ os)[k]? = _
        rw [Array.getElem?_append_left (by simpa using hk), Array.getElem?_modify, if_neg hkg]
end
section
open Go Go.RowKit
attribute [local irreducible] ewp owp hwp hwq hws Ev Evg Fn retPost loud loudS Res1
/-- A generator in memory: its task and its tree. -/
def GenR (w : World) (F : Nat → Prop) (gv : Value) (t : Tsk) (T : Tr) : Prop :=
  ∃ gb a b c d r, gv = .pointer (some ⟨gb, 0, none⟩) ∧ F gb ∧ Blk w gb 129 [a, b, c, d, r] ∧ Vb w F a t.vars ∧ Vb w F b t.init ∧ Vb w F c t.goal ∧ Vb w F d t.ops ∧ TrR w F T r
theorem made_one (z : Value) (n : Nat) (hz : z.cells = #[z]) : (madeCells z.cells (n * 1)).toList = List.replicate n z := by
  rw [hz, Nat.mul_one]
  apply List.ext_getElem
  · simp [madeCells]
  · intro i h1 h2
    simp [madeCells, Nat.mod_one]
theorem chunks_bools {w : World} {F : Nat → Prop} : ∀ n, Chunks w F (List.replicate n (.bool false)) (List.replicate n false)
  | 0 => rfl
  | n + 1 => ⟨[.bool false], List.replicate n (.bool false), rfl, rfl, chunks_bools n⟩
noncomputable def findL (t : Tsk) (T : Tr) (s : List Int) : List Int := if bof (StateOk t.vars s) = true then sortL (coll s T) else []
noncomputable def findN (t : Tsk) (T : Tr) (s : List Int) : Nat := if bof (StateOk t.vars s) = true then (look s T (List.replicate s.length false)).count true else 0
theorem count_step {l : List Bool} {k : Nat} {b : Bool} (h : l[k]? = some b) : (l.take (k + 1)).count true = (l.take k).count true + if b = true then 1 else 0 := by
  rw [List.take_add_one, h, List.count_append]
  cases b <;> simp
theorem genFind {w : World} {gv sv : Value} {t : Tsk} {T : Tr} {s : List Int} (hg : GenR w (All w) gv t T) (hs : V w sv s) (hfit : StateOk t.vars s → Fits s T) (hlen : (coll s T).length ≤ 1000000) (hsl : s.length ≤ 1000000) :
    Fn Try.prog 79 [gv, sv] w fun v w' => Ext w w' ∧ ∃ u, v = .tuple #[u, .int .i64 (findN t T s : Int)] ∧ Own w' w.heap.size (All w) 3 u (findL t T s) := by
  obtain ⟨gb, a, b, c, d, r, rfl, hgb, hb1, hvars, hinit, hgoal, hops, hT⟩ := hg
  obtain ⟨Av, cv, rfl⟩ := hvars.form
  obtain ⟨As, cs, rfl⟩ := hs.form
  obtain ⟨rp, rfl⟩ := hT.form
  refine fn_enter Try.func79 rfl Try.ntmps79 rfl ?_
  ((repeat (first | refine ewp_seq ?_ | refine ewp_block ?_ | refine ewp_region ?_ | refine ewp_skip ?_ | refine ewp_exit ?_ | refine ewp_ret ?_ | refine ewp_true rfl ?_ | refine ewp_false rfl ?_)) <;> (refine o_as rfl rfl ?_ <;> refine o_as rfl rfl ?_ <;> (first | refine owp_nilT ?_ | refine owp_nilB ?_ | refine owp_nilBB ?_ | refine owp_nil ?_)) <;> (repeat (first | refine ewp_seq ?_ | refine ewp_block ?_ | refine ewp_region ?_ | refine ewp_skip ?_ | refine ewp_exit ?_ | refine ewp_ret ?_ | refine ewp_true rfl ?_ | refine ewp_false rfl ?_)) <;> (refine o_mv rfl rfl ?_ <;> refine o_pn rfl rfl ?_ <;> refine o_mv rfl rfl ?_ <;> (first | (refine owp_yes rfl rfl ?_; refine o_mv rfl rfl ?_) | refine owp_no rfl rfl rfl rfl ?_) <;> (first | (refine owp_yes rfl rfl ?_; refine o_nc rfl rfl ?_) | refine owp_no rfl rfl rfl rfl ?_) <;> (first | (refine owp_yes rfl rfl ?_; refine o_fa rfl rfl ?_) | refine owp_no rfl rfl rfl rfl ?_) <;> (first | (refine owp_yes rfl rfl ?_; refine o_fa rfl rfl ?_) | refine owp_no rfl rfl rfl rfl ?_) <;> (first | (refine owp_yes rfl rfl ?_; refine o_ld rfl rfl ?_) | refine owp_no rfl rfl rfl rfl ?_) <;> (first | (refine owp_yes rfl rfl ?_; refine o_mv rfl rfl ?_) | refine owp_no rfl rfl rfl rfl ?_)) <;> (repeat (first | refine ewp_seq ?_ | refine ewp_block ?_ | refine ewp_region ?_ | refine ewp_skip ?_ | refine ewp_exit ?_ | refine ewp_ret ?_ | refine ewp_true rfl ?_ | refine ewp_false rfl ?_)))
  refine owp_yes rfl rfl ?_
  refine owp_callB rfl rfl (taskProper hvars hs) ?_ ?_
  case refine_2 =>
    intro w1 hP hE1
    ((first | (refine owp_yes rfl rfl ?_; (first | refine o_nt rfl rfl ?_ | refine o_nf rfl rfl ?_ | refine o_nn rfl rfl ?_)) | refine owp_no rfl rfl rfl rfl ?_) <;> (first | refine o_pt rfl rfl rfl ?_ | refine o_pf rfl rfl rfl ?_) <;> (first | refine owp_nilT ?_ | refine owp_nilB ?_ | refine owp_nilBB ?_ | refine owp_nil ?_))
    repeat (first | refine ewp_seq ?_ | refine ewp_block ?_ | refine ewp_region ?_ | refine ewp_skip ?_ | refine ewp_exit ?_ | refine ewp_ret ?_ | refine ewp_true rfl ?_ | refine ewp_false rfl ?_)
    ((repeat (first | refine ewp_seq ?_ | refine ewp_block ?_ | refine ewp_region ?_ | refine ewp_skip ?_ | refine ewp_exit ?_ | refine ewp_ret ?_ | refine ewp_true rfl ?_ | refine ewp_false rfl ?_)) <;> (refine o_as rfl rfl ?_ <;> refine o_as rfl rfl ?_ <;> (first | refine owp_nilT ?_ | refine owp_nilB ?_ | refine owp_nilBB ?_ | refine owp_nil ?_)) <;> (repeat (first | refine ewp_seq ?_ | refine ewp_block ?_ | refine ewp_region ?_ | refine ewp_skip ?_ | refine ewp_exit ?_ | refine ewp_ret ?_ | refine ewp_true rfl ?_ | refine ewp_false rfl ?_)))
    refine ret2 rfl (res_tmp rfl) (res_tmp rfl) ⟨hE1, .slice none 0 0, ?_, ?_⟩
    · rw [findN, bof_f hP]; rfl
    · rw [findL, bof_f hP]; exact Own.nil _ _ _ _
  intro w1 hok hE1
  replace hb1 := hb1.ext hE1
  ((first | (refine owp_yes rfl rfl ?_; (first | refine o_nt rfl rfl ?_ | refine o_nf rfl rfl ?_ | refine o_nn rfl rfl ?_)) | refine owp_no rfl rfl rfl rfl ?_) <;> (first | refine o_pt rfl rfl rfl ?_ | refine o_pf rfl rfl rfl ?_) <;> (first | refine owp_nilT ?_ | refine owp_nilB ?_ | refine owp_nilBB ?_ | refine owp_nil ?_))
  repeat (first | refine ewp_seq ?_ | refine ewp_block ?_ | refine ewp_region ?_ | refine ewp_skip ?_ | refine ewp_exit ?_ | refine ewp_ret ?_ | refine ewp_true rfl ?_ | refine ewp_false rfl ?_)
  (refine o_mv rfl rfl ?_ <;> refine o_ln rfl rfl ?_)
  refine owp_make rfl rfl (by omega) (by omega) rfl fun w2 hN2 => ?_
  replace hb1 := hb1.ext hN2.ext
  have hE2 : Ext w w2 := hE1.trans' hN2.ext
  have hl2 : Own w2 w.heap.size (· < w.heap.size) 4 (.slice (some ⟨w1.heap.size, 0, none⟩) s.length s.length) (List.replicate s.length false) :=
    (Own.made hN2 (by rw [made_one _ _ rfl]; exact chunks_bools _) (by simp) (by have := hE1.size; omega) (by omega)).lower hE1.size
  (refine o_as rfl rfl ?_ <;> (first | refine owp_nilT ?_ | refine owp_nilB ?_ | refine owp_nilBB ?_ | refine owp_nil ?_))
  repeat (first | refine ewp_seq ?_ | refine ewp_block ?_ | refine ewp_region ?_ | refine ewp_skip ?_ | refine ewp_exit ?_ | refine ewp_ret ?_ | refine ewp_true rfl ?_ | refine ewp_false rfl ?_)
  (refine o_mv rfl rfl ?_ <;> refine o_nc rfl rfl ?_ <;> refine o_fa rfl rfl ?_ <;> refine o_ld rfl rfl ?_ <;> refine o_mv rfl rfl ?_ <;> refine o_mv rfl rfl ?_)
  refine owp_call rfl rfl (collect w.heap.size s T w2 (.pointer rp) (.slice none 0 0) _ _ [] _ hE2.size (TrR.agree (hE2.agree fun _ h => h) hT) (Vb.agree hs (hE2.agree fun _ h => h)) (Own.nil _ _ _ _) hl2 (hfit hok) (by simp) (by simpa using hlen)) ?_
  rintro v3 w3 ⟨ho3, hl3, hB3⟩
  have hE3 : Ext w w3 := hE2.trans hB3
  rw [List.nil_append] at ho3
  (refine o_as rfl rfl ?_ <;> (first | refine owp_nilT ?_ | refine owp_nilB ?_ | refine owp_nilBB ?_ | refine owp_nil ?_))
  repeat (first | refine ewp_seq ?_ | refine ewp_block ?_ | refine ewp_region ?_ | refine ewp_skip ?_ | refine ewp_exit ?_ | refine ewp_ret ?_ | refine ewp_true rfl ?_ | refine ewp_false rfl ?_)
  (refine o_mv rfl rfl ?_)
  refine owp_call rfl rfl (sortInts ho3 hlen) ?_
  rintro _ w4 ⟨rfl, ho4, hK4⟩
  have hE4 : Ext w w4 := hE3.trans (ho3.fits (Nat.le_refl _) hE3.size hK4)
  have hl4 := hl3.kept hK4 (fun k hk => ⟨Nat.lt_of_lt_of_le hk hE3.size, fun he => by have := (ho3.lt k he).1; have : k < w.heap.size := hk; omega⟩) (fun g hg => hl3.own_ne ho3 (by decide) g hg)
  have hlv : Vb w4 _ (.slice (some ⟨w1.heap.size, 0, none⟩) s.length s.length) (look s T (List.replicate s.length false)) := hl4.vb
  have hll : (look s T (List.replicate s.length false)).length = s.length := by rw [look_length]; simp
  ((first | refine owp_nilT ?_ | refine owp_nilB ?_ | refine owp_nilBB ?_ | refine owp_nil ?_))
  repeat (first | refine ewp_seq ?_ | refine ewp_block ?_ | refine ewp_region ?_ | refine ewp_skip ?_ | refine ewp_exit ?_ | refine ewp_ret ?_ | refine ewp_true rfl ?_ | refine ewp_false rfl ?_)
  ((repeat (first | refine ewp_seq ?_ | refine ewp_block ?_ | refine ewp_region ?_ | refine ewp_skip ?_ | refine ewp_exit ?_ | refine ewp_ret ?_ | refine ewp_true rfl ?_ | refine ewp_false rfl ?_)) <;> (refine o_as rfl rfl ?_ <;> (first | refine owp_nilT ?_ | refine owp_nilB ?_ | refine owp_nilBB ?_ | refine owp_nil ?_)) <;> (repeat (first | refine ewp_seq ?_ | refine ewp_block ?_ | refine ewp_region ?_ | refine ewp_skip ?_ | refine ewp_exit ?_ | refine ewp_ret ?_ | refine ewp_true rfl ?_ | refine ewp_false rfl ?_)) <;> (refine o_mv rfl rfl ?_ <;> refine o_ln rfl rfl ?_ <;> refine o_mv rfl rfl ?_ <;> (first | refine owp_nilT ?_ | refine owp_nilB ?_ | refine owp_nilBB ?_ | refine owp_nil ?_)) <;> (repeat (first | refine ewp_seq ?_ | refine ewp_block ?_ | refine ewp_region ?_ | refine ewp_skip ?_ | refine ewp_exit ?_ | refine ewp_ret ?_ | refine ewp_true rfl ?_ | refine ewp_false rfl ?_)))
  refine ewp_range s.length (by omega) (fun n : Nat => [(7, v3), (8, .int .i64 (n : Int)), (35, .slice (some ⟨w1.heap.size, 0, none⟩) s.length s.length)]) (fun k n w' => w' = w4 ∧ n = ((look s T (List.replicate s.length false)).take k).count true) 0
    ⟨rfl, by simp⟩ ⟨rfl, rfl, rfl, rfl, rfl, trivial⟩ (fun _ => ⟨rfl, rfl⟩) ⟨rfl, rfl, rfl⟩ ⟨rfl, rfl⟩ ?_ ?_
  · rintro k n _ hk ⟨rfl, hn⟩
    obtain ⟨x, hx⟩ := some_of_lt (l := look s T (List.replicate s.length false)) (k := k) (by omega)
    obtain ⟨b2, o2, ce, he, _, _, hd1, rfl⟩ := hlv.elem hx
    injection he with he
    injection he with he1 he2
    subst he1; subst he2
    have hnl : n ≤ k := by
      rw [hn]
      exact Nat.le_trans List.count_le_length (by rw [List.length_take]; omega)
    have hst := count_step hx
    cases x
    · ((repeat (first | refine ewp_seq ?_ | refine ewp_block ?_ | refine ewp_region ?_ | refine ewp_skip ?_ | refine ewp_exit ?_ | refine ewp_ret ?_ | refine ewp_true rfl ?_ | refine ewp_false rfl ?_)) <;> (refine o_ia rfl rfl rfl ?_ <;> refine o_ld rfl rfl ?_ <;> refine o_as rfl rfl ?_ <;> (first | refine owp_nilT ?_ | refine owp_nilB ?_ | refine owp_nilBB ?_ | refine owp_nil ?_)) <;> (repeat (first | refine ewp_seq ?_ | refine ewp_block ?_ | refine ewp_region ?_ | refine ewp_skip ?_ | refine ewp_exit ?_ | refine ewp_ret ?_ | refine ewp_true rfl ?_ | refine ewp_false rfl ?_)) <;> (refine o_mv rfl rfl ?_ <;> (first | refine owp_nilT ?_ | refine owp_nilB ?_ | refine owp_nilBB ?_ | refine owp_nil ?_)) <;> (repeat (first | refine ewp_seq ?_ | refine ewp_block ?_ | refine ewp_region ?_ | refine ewp_skip ?_ | refine ewp_exit ?_ | refine ewp_ret ?_ | refine ewp_true rfl ?_ | refine ewp_false rfl ?_)))
      exact ⟨n, ⟨rfl, rfl, rfl, rfl, rfl, trivial⟩, rfl, by rw [hst, hn]; simp⟩
    · ((repeat (first | refine ewp_seq ?_ | refine ewp_block ?_ | refine ewp_region ?_ | refine ewp_skip ?_ | refine ewp_exit ?_ | refine ewp_ret ?_ | refine ewp_true rfl ?_ | refine ewp_false rfl ?_)) <;> (refine o_ia rfl rfl rfl ?_ <;> refine o_ld rfl rfl ?_ <;> refine o_as rfl rfl ?_ <;> (first | refine owp_nilT ?_ | refine owp_nilB ?_ | refine owp_nilBB ?_ | refine owp_nil ?_)) <;> (repeat (first | refine ewp_seq ?_ | refine ewp_block ?_ | refine ewp_region ?_ | refine ewp_skip ?_ | refine ewp_exit ?_ | refine ewp_ret ?_ | refine ewp_true rfl ?_ | refine ewp_false rfl ?_)) <;> (refine o_mv rfl rfl ?_ <;> (first | refine owp_nilT ?_ | refine owp_nilB ?_ | refine owp_nilBB ?_ | refine owp_nil ?_)) <;> (repeat (first | refine ewp_seq ?_ | refine ewp_block ?_ | refine ewp_region ?_ | refine ewp_skip ?_ | refine ewp_exit ?_ | refine ewp_ret ?_ | refine ewp_true rfl ?_ | refine ewp_false rfl ?_)) <;> (refine o_mv rfl rfl ?_ <;> (first | refine o_ic rfl rfl ?_ | refine o_ad rfl rfl rfl ?_) <;> refine o_as rfl rfl ?_ <;> (first | refine owp_nilT ?_ | refine owp_nilB ?_ | refine owp_nilBB ?_ | refine owp_nil ?_)) <;> (repeat (first | refine ewp_seq ?_ | refine ewp_block ?_ | refine ewp_region ?_ | refine ewp_skip ?_ | refine ewp_exit ?_ | refine ewp_ret ?_ | refine ewp_true rfl ?_ | refine ewp_false rfl ?_)))
      exact ⟨n + 1, ⟨rfl, rfl, rfl, rfl, rfl, trivial⟩, rfl, by rw [hst, hn]; simp⟩
  rintro n _ ⟨rfl, hn⟩
  repeat (first | refine ewp_seq ?_ | refine ewp_block ?_ | refine ewp_region ?_ | refine ewp_skip ?_ | refine ewp_exit ?_ | refine ewp_ret ?_ | refine ewp_true rfl ?_ | refine ewp_false rfl ?_)
  ((repeat (first | refine ewp_seq ?_ | refine ewp_block ?_ | refine ewp_region ?_ | refine ewp_skip ?_ | refine ewp_exit ?_ | refine ewp_ret ?_ | refine ewp_true rfl ?_ | refine ewp_false rfl ?_)) <;> (refine o_mv rfl rfl ?_ <;> refine o_mv rfl rfl ?_ <;> refine o_as rfl rfl ?_ <;> refine o_as rfl rfl ?_ <;> (first | refine owp_nilT ?_ | refine owp_nilB ?_ | refine owp_nilBB ?_ | refine owp_nil ?_)) <;> (repeat (first | refine ewp_seq ?_ | refine ewp_block ?_ | refine ewp_region ?_ | refine ewp_skip ?_ | refine ewp_exit ?_ | refine ewp_ret ?_ | refine ewp_true rfl ?_ | refine ewp_false rfl ?_)))
  refine ret2 rfl (res_tmp rfl) (res_tmp rfl) ⟨hE4, v3, ?_, ?_⟩
  · rw [findN, bof_t hok, if_pos rfl, hn, List.take_of_length_le (by omega)]
  · rw [findL, bof_t hok, if_pos rfl]
    exact ho4
section
variable {w : World} {gv sv : Value} {t : Tsk} {T : Tr} {s : List Int}
theorem genApplicable (hg : GenR w (All w) gv t T) (hs : V w sv s) (hfit : StateOk t.vars s → Fits s T) (hlen : (coll s T).length ≤ 1000000) (hsl : s.length ≤ 1000000) :
    Fn Try.prog 64 [gv, sv] w fun v w' => Ext w w' ∧ Own w' w.heap.size (All w) 3 v (findL t T s) := by
  refine fn_enter Try.func64 rfl Try.ntmps64 rfl ?_
  ((repeat (first | refine ewp_seq ?_ | refine ewp_block ?_ | refine ewp_region ?_ | refine ewp_skip ?_ | refine ewp_exit ?_ | refine ewp_ret ?_ | refine ewp_true rfl ?_ | refine ewp_false rfl ?_)) <;> (refine o_as rfl rfl ?_ <;> (first | refine owp_nilT ?_ | refine owp_nilB ?_ | refine owp_nilBB ?_ | refine owp_nil ?_)) <;> (repeat (first | refine ewp_seq ?_ | refine ewp_block ?_ | refine ewp_region ?_ | refine ewp_skip ?_ | refine ewp_exit ?_ | refine ewp_ret ?_ | refine ewp_true rfl ?_ | refine ewp_false rfl ?_)) <;> (refine o_mv rfl rfl ?_ <;> refine o_mv rfl rfl ?_) <;> (repeat (first | refine ewp_seq ?_ | refine ewp_block ?_ | refine ewp_region ?_ | refine ewp_skip ?_ | refine ewp_exit ?_ | refine ewp_ret ?_ | refine ewp_true rfl ?_ | refine ewp_false rfl ?_)))
  refine owp_call rfl rfl (genFind hg hs hfit hlen hsl) ?_
  rintro _ w1 ⟨hE, u, rfl, ho⟩
  (refine o_mv rfl rfl ?_ <;> refine o_ex rfl rfl rfl ?_ <;> refine o_ex rfl rfl rfl ?_ <;> refine o_as rfl rfl ?_ <;> refine o_as rfl rfl ?_ <;> (first | refine owp_nilT ?_ | refine owp_nilB ?_ | refine owp_nilBB ?_ | refine owp_nil ?_))
  repeat (first | refine ewp_seq ?_ | refine ewp_block ?_ | refine ewp_region ?_ | refine ewp_skip ?_ | refine ewp_exit ?_ | refine ewp_ret ?_ | refine ewp_true rfl ?_ | refine ewp_false rfl ?_)
  ((repeat (first | refine ewp_seq ?_ | refine ewp_block ?_ | refine ewp_region ?_ | refine ewp_skip ?_ | refine ewp_exit ?_ | refine ewp_ret ?_ | refine ewp_true rfl ?_ | refine ewp_false rfl ?_)) <;> (refine o_mv rfl rfl ?_ <;> refine o_as rfl rfl ?_ <;> (first | refine owp_nilT ?_ | refine owp_nilB ?_ | refine owp_nilBB ?_ | refine owp_nil ?_)) <;> (repeat (first | refine ewp_seq ?_ | refine ewp_block ?_ | refine ewp_region ?_ | refine ewp_skip ?_ | refine ewp_exit ?_ | refine ewp_ret ?_ | refine ewp_true rfl ?_ | refine ewp_false rfl ?_)))
  exact ret1 rfl rfl ⟨hE, ho⟩
theorem Own.form {α : Type} [Rp α] {w : World} {base : Nat} {F : Nat → Prop} {e : TypeId} {v : Value} {xs : List α} (h : Own w base F e v xs) : ∃ A c, v = .slice A xs.length c := h.vb.form
end
/-- An operator and the state after it. -/
structure Suc where
  op : Int
  state : List Int
instance : Rp Suc where
  isAgg := true
  size := 2
  R w F cs x := ∃ v, cs = [.int .i64 x.op, v] ∧ Vb w F v x.state ∧ inI64 x.op
  len := by rintro w F cs x ⟨v, rfl, _⟩; rfl
  one := by rintro w F cs x ⟨v, rfl, h, _⟩ u hu; simp at hu; rcases hu with rfl | rfl <;> first | rfl | exact Vb.one rfl (by assumption)
  agree := by rintro w w' F cs x ⟨v, rfl, h, h2⟩ ha; exact ⟨v, rfl, h.agree ha, h2⟩
  mono := by rintro w F G cs x ⟨v, rfl, h, h2⟩ ha; exact ⟨v, rfl, h.mono ha, h2⟩
def sucOf (t : Tsk) (s : List Int) (op : Int) : Suc := ⟨op, match t.ops[op.toNat]? with | some o => succ o s | none => s⟩
end
section
open Go Go.RowKit
attribute [local irreducible] ewp owp hwp hwq hws Ev Evg Fn retPost loud loudS Res1
/-- A generator whose tree is not looked at. -/
def GenB (w : World) (F : Nat → Prop) (gv : Value) (t : Tsk) : Prop :=
  ∃ gb a b c d rp, gv = .pointer (some ⟨gb, 0, none⟩) ∧ F gb ∧ Blk w gb 129 [a, b, c, d, .pointer rp] ∧ Vb w F a t.vars ∧ Vb w F b t.init ∧ Vb w F c t.goal ∧ Vb w F d t.ops
theorem GenB.agree {w w' : World} {F : Nat → Prop} {gv : Value} {t : Tsk} (h : GenB w F gv t) (ha : Agree F w w') : GenB w' F gv t := by
  obtain ⟨gb, a, b, c, d, r, h1, h2, h3, h4, h5, h6, h7⟩ := h
  exact ⟨gb, a, b, c, d, r, h1, h2, h3.keep (ha gb h2), h4.agree ha, h5.agree ha, h6.agree ha, h7.agree ha⟩
theorem GenB.mono {w : World} {F G : Nat → Prop} {gv : Value} {t : Tsk} (h : GenB w F gv t) (ha : ∀ k, F k → G k) : GenB w G gv t := by
  obtain ⟨gb, a, b, c, d, r, h1, h2, h3, h4, h5, h6, h7⟩ := h
  exact ⟨gb, a, b, c, d, r, h1, ha _ h2, h3, h4.mono ha, h5.mono ha, h6.mono ha, h7.mono ha⟩
theorem GenB.ext {w w' : World} {gv : Value} {t : Tsk} (h : GenB w (All w) gv t) (hE : Ext w w') : GenB w' (All w') gv t := (h.agree (hE.agree fun _ h => h)).mono fun k hk => Nat.lt_of_lt_of_le hk hE.size
def factOn (l : List Fct) (v : Int) : Option Fct := l.find? fun f => decide (f.var = v)
def factV : Option Fct → Value
  | some f => .tuple #[.agg #[.int .i64 f.var, .int .i64 f.val], .bool true]
  | none => .tuple #[.agg #[.int .i64 0, .int .i64 0], .bool false]
theorem find_some {α : Type} (p : α → Bool) : ∀ {l : List α} {k : Nat} {x : α}, l[k]? = some x → p x = true → (∀ i, i < k → ∀ y, l[i]? = some y → p y = false) → l.find? p = some x
  | [], _, _, h, _, _ => by simp at h
  | y :: l, 0, x, h, hp, _ => by
    have : y = x := by simpa using h
    subst this; simp [hp]
  | y :: l, k + 1, x, h, hp, hn => by
    have hy := hn 0 (by omega) y rfl
    rw [List.find?_cons, hy]
    exact find_some p (k := k) (by simpa using h) hp fun i hi z hz => hn (i + 1) (by omega) z (by simpa using hz)
theorem find_none {α : Type} (p : α → Bool) {l : List α} (hn : ∀ i, i < l.length → ∀ y, l[i]? = some y → p y = false) : l.find? p = none := by
  rw [List.find?_eq_none]
  intro x hx
  obtain ⟨i, hi⟩ := List.getElem?_of_mem hx
  simp [hn i (lt_of_some hi) x hi]
theorem genFact {w : World} {gv : Value} {t : Tsk} {j : Nat} {o : Opr} {v : Int} (hg : GenB w (All w) gv t) (ho : t.ops[j]? = some o) :
    Fn Try.prog 87 [gv, .int .i64 (j : Int), .int .i64 v] w fun r w' => r = factV (factOn o.pre v) ∧ Ext w w' := by
  obtain ⟨gb, a, b, c, d, rp, rfl, hgb, hb0, hvars, hinit, hgoal, hops⟩ := hg
  obtain ⟨Ao, co, rfl⟩ := hops.form
  obtain ⟨b2, o2, ce, rfl, hbl, hjl, hd0, p, q, rfl, hp, hq, hc, hnm⟩ := hops.elem ho
  obtain ⟨Ap, cp, rfl⟩ := hp.form
  have hpl := hp.len
  refine fn_enter Try.func87 rfl Try.ntmps87 rfl ?_
  repeat (first | refine ewp_seq ?_ | refine ewp_block ?_ | refine ewp_region ?_ | refine ewp_skip ?_ | refine ewp_exit ?_ | refine ewp_ret ?_ | refine ewp_true rfl ?_ | refine ewp_false rfl ?_)
  refine owp_alloc rfl fun w1 hN1 => ?_
  have hres := hN1.blk
  have hE1 : Ext w w1 := hN1.ext
  have hb1 := hb0.ext hE1
  have hd1 := cells_ext hd0 hbl hE1
  (refine o_as rfl rfl ?_ <;> (first | refine owp_nilT ?_ | refine owp_nilB ?_ | refine owp_nilBB ?_ | refine owp_nil ?_))
  repeat (first | refine ewp_seq ?_ | refine ewp_block ?_ | refine ewp_region ?_ | refine ewp_skip ?_ | refine ewp_exit ?_ | refine ewp_ret ?_ | refine ewp_true rfl ?_ | refine ewp_false rfl ?_)
  ((repeat (first | refine ewp_seq ?_ | refine ewp_block ?_ | refine ewp_region ?_ | refine ewp_skip ?_ | refine ewp_exit ?_ | refine ewp_ret ?_ | refine ewp_true rfl ?_ | refine ewp_false rfl ?_)) <;> (refine o_mv rfl rfl ?_ <;> refine o_nc rfl rfl ?_ <;> refine o_fa rfl rfl ?_ <;> refine o_fa rfl rfl ?_ <;> refine o_ld rfl rfl ?_ <;> refine o_mv rfl rfl ?_ <;> refine o_ia rfl rfl rfl ?_ <;> refine o_fa rfl rfl ?_ <;> refine o_ld rfl rfl ?_ <;> refine o_ln rfl rfl ?_ <;> refine o_mv rfl rfl ?_ <;> (first | refine owp_nilT ?_ | refine owp_nilB ?_ | refine owp_nilBB ?_ | refine owp_nil ?_)) <;> (repeat (first | refine ewp_seq ?_ | refine ewp_block ?_ | refine ewp_region ?_ | refine ewp_skip ?_ | refine ewp_exit ?_ | refine ewp_ret ?_ | refine ewp_true rfl ?_ | refine ewp_false rfl ?_)))
  refine ewp_range o.pre.length (by omega) (fun _ : Unit => [(2, .int .i64 v), (6, .pointer (some ⟨w.heap.size, 0, none⟩)), (18, .slice Ap o.pre.length cp)]) (fun k _ w' => Ext w1 w' ∧ ∀ i, i < k → ∀ f, o.pre[i]? = some f → decide (f.var = v) = false) ()
    ⟨Below.refl _ _, fun i hi => by omega⟩ ⟨rfl, rfl, rfl, rfl, rfl, trivial⟩ (fun _ => ⟨rfl, rfl⟩) ⟨rfl, rfl, rfl⟩ ⟨rfl, rfl⟩ ?_ ?_
  · rintro k _ w2 hk ⟨hE2, hh⟩
    obtain ⟨f, hf⟩ := some_of_lt hk
    obtain ⟨b3, o3, ce, rfl, _, _, hd1, rfl, hr1, hr2⟩ := (hp.ext (hE1.trans' hE2)).elem hf
    ((repeat (first | refine ewp_seq ?_ | refine ewp_block ?_ | refine ewp_region ?_ | refine ewp_skip ?_ | refine ewp_exit ?_ | refine ewp_ret ?_ | refine ewp_true rfl ?_ | refine ewp_false rfl ?_)) <;> (refine o_ia rfl rfl rfl ?_ <;> refine o_la rfl rfl ?_) <;> (repeat (first | refine ewp_seq ?_ | refine ewp_block ?_ | refine ewp_region ?_ | refine ewp_skip ?_ | refine ewp_exit ?_ | refine ewp_ret ?_ | refine ewp_true rfl ?_ | refine ewp_false rfl ?_)))
    refine owp_local rfl rfl rfl (by simp [Value.cells, Value.oneCell']) fun w3 hN3 => ?_
    have hb2 := hN3.blk
    have hE3 : Ext w1 w3 := hE2.trans' hN3.ext
    replace hres := hres.ext hE3
    ((first | refine owp_nilT ?_ | refine owp_nilB ?_ | refine owp_nilBB ?_ | refine owp_nil ?_))
    repeat (first | refine ewp_seq ?_ | refine ewp_block ?_ | refine ewp_region ?_ | refine ewp_skip ?_ | refine ewp_exit ?_ | refine ewp_ret ?_ | refine ewp_true rfl ?_ | refine ewp_false rfl ?_)
    ((repeat (first | refine ewp_seq ?_ | refine ewp_block ?_ | refine ewp_region ?_ | refine ewp_skip ?_ | refine ewp_exit ?_ | refine ewp_ret ?_ | refine ewp_true rfl ?_ | refine ewp_false rfl ?_)) <;> (refine o_fa rfl rfl ?_ <;> refine o_ld rfl rfl ?_ <;> refine o_mv rfl rfl ?_ <;> (first | refine o_eeT rfl rfl rfl ?_ | refine o_eeF rfl rfl rfl ?_ | refine o_eeS rfl rfl rfl (fun _ => ?_) fun _ => ?_) <;> (first | refine owp_nilT ?_ | refine owp_nilB ?_ | refine owp_nilBB ?_ | refine owp_nil ?_)) <;> (repeat (first | refine ewp_seq ?_ | refine ewp_block ?_ | refine ewp_region ?_ | refine ewp_skip ?_ | refine ewp_exit ?_ | refine ewp_ret ?_ | refine ewp_true rfl ?_ | refine ewp_false rfl ?_)))
    · (refine o_la rfl rfl ?_)
      refine owp_store rfl rfl hres rfl (Nat.le_refl _) (by simp [Value.cells, Value.oneCell']) fun w4 hU => ?_
      (refine o_as rfl rfl ?_ <;> (first | refine owp_nilT ?_ | refine owp_nilB ?_ | refine owp_nilBB ?_ | refine owp_nil ?_))
      repeat (first | refine ewp_seq ?_ | refine ewp_block ?_ | refine ewp_region ?_ | refine ewp_skip ?_ | refine ewp_exit ?_ | refine ewp_ret ?_ | refine ewp_true rfl ?_ | refine ewp_false rfl ?_)
      refine ret2 rfl (res_cell rfl rfl hU.blk.cellsAt) (res_tmp rfl) ⟨?_, hE1.trans ((hE3.mono hE1.size).trans (hU.below (Nat.le_refl _)))⟩
      rw [factOn, find_some _ hf (by simpa using ‹f.var = v›) hh]
      rfl
    · exact ⟨(), ⟨rfl, rfl, rfl, rfl, rfl, trivial⟩, hE3, upto_step hh fun f' hf' => by rw [hf] at hf'; injection hf' with hf'; subst hf'; simpa using ‹¬ f.var = v›⟩
  rintro _ w2 ⟨hE2, hh⟩
  replace hres := hres.ext hE2
  repeat (first | refine ewp_seq ?_ | refine ewp_block ?_ | refine ewp_region ?_ | refine ewp_skip ?_ | refine ewp_exit ?_ | refine ewp_ret ?_ | refine ewp_true rfl ?_ | refine ewp_false rfl ?_)
  (refine o_bd rfl rfl rfl ?_)
  refine owp_store rfl rfl hres rfl (Nat.le_refl _) (by simp [Value.cells, Value.oneCell', setParts]) fun w4 hU => ?_
  (refine o_as rfl rfl ?_ <;> (first | refine owp_nilT ?_ | refine owp_nilB ?_ | refine owp_nilBB ?_ | refine owp_nil ?_))
  repeat (first | refine ewp_seq ?_ | refine ewp_block ?_ | refine ewp_region ?_ | refine ewp_skip ?_ | refine ewp_exit ?_ | refine ewp_ret ?_ | refine ewp_true rfl ?_ | refine ewp_false rfl ?_)
  refine ret2 rfl (res_cell rfl rfl hU.blk.cellsAt) (res_tmp rfl) ⟨?_, hE1.trans ((hE2.mono hE1.size).trans (hU.below (Nat.le_refl _)))⟩
  rw [factOn, find_none _ hh]
  rfl
theorem genBuild1 {w : World} {gv : Value} {t : Tsk} {j : Nat} {o : Opr} {v : Int} {g1 g2 : Nat} {r1 r2 : TypeId} (hg : GenB w (All w) gv t) (ho : t.ops[j]? = some o) (h1 : Blk w g1 r1 [gv]) (h2 : Blk w g2 r2 [.int .i64 v]) :
    Fn Try.prog 86 ([.int .i64 (j : Int)] ++ [.pointer (some ⟨g1, 0, none⟩), .pointer (some ⟨g2, 0, none⟩)]) w fun r w' => r = .bool (factOn o.pre v).isSome ∧ Ext w w' := by
  have hb1 := h1
  have hb2 := h2
  refine fn_enter Try.func86 rfl Try.ntmps86 rfl ?_
  ((repeat (first | refine ewp_seq ?_ | refine ewp_block ?_ | refine ewp_region ?_ | refine ewp_skip ?_ | refine ewp_exit ?_ | refine ewp_ret ?_ | refine ewp_true rfl ?_ | refine ewp_false rfl ?_)) <;> (refine o_as rfl rfl ?_ <;> (first | refine owp_nilT ?_ | refine owp_nilB ?_ | refine owp_nilBB ?_ | refine owp_nil ?_)) <;> (repeat (first | refine ewp_seq ?_ | refine ewp_block ?_ | refine ewp_region ?_ | refine ewp_skip ?_ | refine ewp_exit ?_ | refine ewp_ret ?_ | refine ewp_true rfl ?_ | refine ewp_false rfl ?_)) <;> (refine o_ld rfl rfl ?_ <;> refine o_mv rfl rfl ?_ <;> refine o_ld rfl rfl ?_) <;> (repeat (first | refine ewp_seq ?_ | refine ewp_block ?_ | refine ewp_region ?_ | refine ewp_skip ?_ | refine ewp_exit ?_ | refine ewp_ret ?_ | refine ewp_true rfl ?_ | refine ewp_false rfl ?_)))
  refine owp_call rfl rfl (genFact hg ho) ?_
  rintro _ w1 ⟨rfl, hE1⟩
  cases hf : factOn o.pre v with
  | none =>
    simp only [factV]
    (refine o_mv rfl rfl ?_ <;> refine o_ex rfl rfl rfl ?_ <;> refine o_ex rfl rfl rfl ?_)
    refine owp_local rfl rfl rfl (by simp [Value.cells, Value.oneCell']) fun w2 hN2 => ?_
    (refine o_as rfl rfl ?_ <;> (first | refine owp_nilT ?_ | refine owp_nilB ?_ | refine owp_nilBB ?_ | refine owp_nil ?_))
    repeat (first | refine ewp_seq ?_ | refine ewp_block ?_ | refine ewp_region ?_ | refine ewp_skip ?_ | refine ewp_exit ?_ | refine ewp_ret ?_ | refine ewp_true rfl ?_ | refine ewp_false rfl ?_)
    ((repeat (first | refine ewp_seq ?_ | refine ewp_block ?_ | refine ewp_region ?_ | refine ewp_skip ?_ | refine ewp_exit ?_ | refine ewp_ret ?_ | refine ewp_true rfl ?_ | refine ewp_false rfl ?_)) <;> (refine o_mv rfl rfl ?_ <;> refine o_as rfl rfl ?_ <;> (first | refine owp_nilT ?_ | refine owp_nilB ?_ | refine owp_nilBB ?_ | refine owp_nil ?_)) <;> (repeat (first | refine ewp_seq ?_ | refine ewp_block ?_ | refine ewp_region ?_ | refine ewp_skip ?_ | refine ewp_exit ?_ | refine ewp_ret ?_ | refine ewp_true rfl ?_ | refine ewp_false rfl ?_)))
    exact ret1 rfl rfl ⟨rfl, hE1.trans' hN2.ext⟩
  | some f =>
    simp only [factV]
    (refine o_mv rfl rfl ?_ <;> refine o_ex rfl rfl rfl ?_ <;> refine o_ex rfl rfl rfl ?_)
    refine owp_local rfl rfl rfl (by simp [Value.cells, Value.oneCell']) fun w2 hN2 => ?_
    (refine o_as rfl rfl ?_ <;> (first | refine owp_nilT ?_ | refine owp_nilB ?_ | refine owp_nilBB ?_ | refine owp_nil ?_))
    repeat (first | refine ewp_seq ?_ | refine ewp_block ?_ | refine ewp_region ?_ | refine ewp_skip ?_ | refine ewp_exit ?_ | refine ewp_ret ?_ | refine ewp_true rfl ?_ | refine ewp_false rfl ?_)
    ((repeat (first | refine ewp_seq ?_ | refine ewp_block ?_ | refine ewp_region ?_ | refine ewp_skip ?_ | refine ewp_exit ?_ | refine ewp_ret ?_ | refine ewp_true rfl ?_ | refine ewp_false rfl ?_)) <;> (refine o_mv rfl rfl ?_ <;> refine o_as rfl rfl ?_ <;> (first | refine owp_nilT ?_ | refine owp_nilB ?_ | refine owp_nilBB ?_ | refine owp_nil ?_)) <;> (repeat (first | refine ewp_seq ?_ | refine ewp_block ?_ | refine ewp_region ?_ | refine ewp_skip ?_ | refine ewp_exit ?_ | refine ewp_ret ?_ | refine ewp_true rfl ?_ | refine ewp_false rfl ?_)))
    exact ret1 rfl rfl ⟨rfl, hE1.trans' hN2.ext⟩
end
section
open Go Go.RowKit
attribute [local irreducible] ewp owp hwp hwq hws Ev Evg Fn retPost loud loudS Res1
theorem indexFuncInts {w : World} {sv : Value} {xs : List (Int)} {g : FuncId} [Callable Try.prog g] {caps : List Value} {p : Int → Prop} (hs : V w sv xs)
    (hg : ∀ v x w', x ∈ xs → Ext w w' → V w' v x → Fn Try.prog g ([v] ++ caps) w' fun r w'' => r = .bool (bof (p x)) ∧ Ext w' w'') :
    Fn Try.prog 90 [sv, .func (.func g) #[] caps.toArray] w fun v w' => ((∃ k : Nat, v = .int .i64 (k : Int) ∧ ∃ x ∈ xs, p x) ∨ (v = .int .i64 (-1) ∧ ∀ x ∈ xs, ¬ p x)) ∧ Ext w w' := by
  obtain ⟨A, c, rfl⟩ := hs.form
  have hl := hs.len
  refine fn_enter Try.func90 rfl Try.ntmps90 rfl ?_
  ((repeat (first | refine ewp_seq ?_ | refine ewp_block ?_ | refine ewp_region ?_ | refine ewp_skip ?_ | refine ewp_exit ?_ | refine ewp_ret ?_ | refine ewp_true rfl ?_ | refine ewp_false rfl ?_)) <;> (refine o_as rfl rfl ?_ <;> (first | refine owp_nilT ?_ | refine owp_nilB ?_ | refine owp_nilBB ?_ | refine owp_nil ?_)) <;> (repeat (first | refine ewp_seq ?_ | refine ewp_block ?_ | refine ewp_region ?_ | refine ewp_skip ?_ | refine ewp_exit ?_ | refine ewp_ret ?_ | refine ewp_true rfl ?_ | refine ewp_false rfl ?_)) <;> (refine o_mv rfl rfl ?_ <;> refine o_ln rfl rfl ?_ <;> refine o_mv rfl rfl ?_ <;> (first | refine owp_nilT ?_ | refine owp_nilB ?_ | refine owp_nilBB ?_ | refine owp_nil ?_)) <;> (repeat (first | refine ewp_seq ?_ | refine ewp_block ?_ | refine ewp_region ?_ | refine ewp_skip ?_ | refine ewp_exit ?_ | refine ewp_ret ?_ | refine ewp_true rfl ?_ | refine ewp_false rfl ?_)))
  refine ewp_range xs.length (by omega) (fun _ : Unit => [(0, .slice A xs.length c), (1, .func (.func g) #[] caps.toArray)]) (fun k _ w' => Ext w w' ∧ ∀ i, i < k → ∀ x, xs[i]? = some x → ¬ p x) ()
    ⟨Below.refl _ _, fun i hi => by omega⟩ ⟨rfl, rfl, rfl, rfl, trivial⟩ (fun _ => ⟨rfl, rfl⟩) ⟨rfl, rfl, rfl⟩ ⟨rfl, rfl⟩ ?_ ?_
  · rintro k _ w1 hk ⟨hE, hh⟩
    obtain ⟨x, hx⟩ := some_of_lt hk
    obtain ⟨b, o, ce, rfl, _, _, hd1, hR⟩ := (hs.ext hE).elem hx
    obtain ⟨v, rfl⟩ := List.length_eq_one_iff.1 (Rp.len hR)
    ((repeat (first | refine ewp_seq ?_ | refine ewp_block ?_ | refine ewp_region ?_ | refine ewp_skip ?_ | refine ewp_exit ?_ | refine ewp_ret ?_ | refine ewp_true rfl ?_ | refine ewp_false rfl ?_)) <;> (refine o_mv rfl rfl ?_ <;> refine o_as rfl rfl ?_ <;> (first | refine owp_nilT ?_ | refine owp_nilB ?_ | refine owp_nilBB ?_ | refine owp_nil ?_)) <;> (repeat (first | refine ewp_seq ?_ | refine ewp_block ?_ | refine ewp_region ?_ | refine ewp_skip ?_ | refine ewp_exit ?_ | refine ewp_ret ?_ | refine ewp_true rfl ?_ | refine ewp_false rfl ?_)) <;> (refine o_mv rfl rfl ?_ <;> refine o_mv rfl rfl ?_ <;> refine o_mv rfl rfl ?_ <;> refine o_ia rfl rfl rfl ?_ <;> refine o_ld rfl rfl ?_) <;> (repeat (first | refine ewp_seq ?_ | refine ewp_block ?_ | refine ewp_region ?_ | refine ewp_skip ?_ | refine ewp_exit ?_ | refine ewp_ret ?_ | refine ewp_true rfl ?_ | refine ewp_false rfl ?_)))
    refine owp_callv rfl rfl rfl (hg v x w1 (List.mem_of_getElem? hx) hE hR) ?_
    rintro _ w2 ⟨rfl, hE2⟩
    by_cases hp : p x
    · rw [bof_t hp]
      ((first | refine owp_nilT ?_ | refine owp_nilB ?_ | refine owp_nilBB ?_ | refine owp_nil ?_))
      repeat (first | refine ewp_seq ?_ | refine ewp_block ?_ | refine ewp_region ?_ | refine ewp_skip ?_ | refine ewp_exit ?_ | refine ewp_ret ?_ | refine ewp_true rfl ?_ | refine ewp_false rfl ?_)
      ((repeat (first | refine ewp_seq ?_ | refine ewp_block ?_ | refine ewp_region ?_ | refine ewp_skip ?_ | refine ewp_exit ?_ | refine ewp_ret ?_ | refine ewp_true rfl ?_ | refine ewp_false rfl ?_)) <;> (refine o_mv rfl rfl ?_ <;> refine o_as rfl rfl ?_ <;> (first | refine owp_nilT ?_ | refine owp_nilB ?_ | refine owp_nilBB ?_ | refine owp_nil ?_)) <;> (repeat (first | refine ewp_seq ?_ | refine ewp_block ?_ | refine ewp_region ?_ | refine ewp_skip ?_ | refine ewp_exit ?_ | refine ewp_ret ?_ | refine ewp_true rfl ?_ | refine ewp_false rfl ?_)))
      exact ret1 rfl rfl ⟨.inl ⟨k, rfl, x, List.mem_of_getElem? hx, hp⟩, hE.trans' hE2⟩
    · rw [bof_f hp]
      ((first | refine owp_nilT ?_ | refine owp_nilB ?_ | refine owp_nilBB ?_ | refine owp_nil ?_))
      repeat (first | refine ewp_seq ?_ | refine ewp_block ?_ | refine ewp_region ?_ | refine ewp_skip ?_ | refine ewp_exit ?_ | refine ewp_ret ?_ | refine ewp_true rfl ?_ | refine ewp_false rfl ?_)
      exact ⟨(), ⟨rfl, rfl, rfl, rfl, trivial⟩, hE.trans' hE2, upto_step hh fun x' hx' => by rw [hx] at hx'; injection hx' with hx'; exact hx' ▸ hp⟩
  rintro _ w1 ⟨hE, hh⟩
  repeat (first | refine ewp_seq ?_ | refine ewp_block ?_ | refine ewp_region ?_ | refine ewp_skip ?_ | refine ewp_exit ?_ | refine ewp_ret ?_ | refine ewp_true rfl ?_ | refine ewp_false rfl ?_)
  ((repeat (first | refine ewp_seq ?_ | refine ewp_block ?_ | refine ewp_region ?_ | refine ewp_skip ?_ | refine ewp_exit ?_ | refine ewp_ret ?_ | refine ewp_true rfl ?_ | refine ewp_false rfl ?_)) <;> (refine o_as rfl rfl ?_ <;> (first | refine owp_nilT ?_ | refine owp_nilB ?_ | refine owp_nilBB ?_ | refine owp_nil ?_)) <;> (repeat (first | refine ewp_seq ?_ | refine ewp_block ?_ | refine ewp_region ?_ | refine ewp_skip ?_ | refine ewp_exit ?_ | refine ewp_ret ?_ | refine ewp_true rfl ?_ | refine ewp_false rfl ?_)))
  refine ret1 rfl rfl ⟨.inr ⟨rfl, fun x hx => ?_⟩, hE⟩
  obtain ⟨i, hi⟩ := List.getElem?_of_mem hx
  exact hh i (lt_of_some hi) x hi
theorem containsFuncInts {w : World} {sv : Value} {xs : List (Int)} {g : FuncId} [Callable Try.prog g] {caps : List Value} {p : Int → Prop} (hs : V w sv xs)
    (hg : ∀ v x w', x ∈ xs → Ext w w' → V w' v x → Fn Try.prog g ([v] ++ caps) w' fun r w'' => r = .bool (bof (p x)) ∧ Ext w' w'') :
    Fn Try.prog 85 [sv, .func (.func g) #[] caps.toArray] w fun v w' => v = .bool (bof (∃ x ∈ xs, p x)) ∧ Ext w w' := by
  refine fn_enter Try.func85 rfl Try.ntmps85 rfl ?_
  ((repeat (first | refine ewp_seq ?_ | refine ewp_block ?_ | refine ewp_region ?_ | refine ewp_skip ?_ | refine ewp_exit ?_ | refine ewp_ret ?_ | refine ewp_true rfl ?_ | refine ewp_false rfl ?_)) <;> (refine o_as rfl rfl ?_ <;> (first | refine owp_nilT ?_ | refine owp_nilB ?_ | refine owp_nilBB ?_ | refine owp_nil ?_)) <;> (repeat (first | refine ewp_seq ?_ | refine ewp_block ?_ | refine ewp_region ?_ | refine ewp_skip ?_ | refine ewp_exit ?_ | refine ewp_ret ?_ | refine ewp_true rfl ?_ | refine ewp_false rfl ?_)) <;> (refine o_mv rfl rfl ?_ <;> refine o_mv rfl rfl ?_) <;> (repeat (first | refine ewp_seq ?_ | refine ewp_block ?_ | refine ewp_region ?_ | refine ewp_skip ?_ | refine ewp_exit ?_ | refine ewp_ret ?_ | refine ewp_true rfl ?_ | refine ewp_false rfl ?_)))
  refine owp_call rfl rfl (indexFuncInts hs hg) ?_
  rintro v w1 ⟨h, hE⟩
  rcases h with ⟨k, rfl, h⟩ | ⟨rfl, h⟩
  · ((first | refine o_geT rfl rfl rfl ?_ | refine o_geF rfl rfl rfl ?_) <;> refine o_as rfl rfl ?_ <;> (first | refine owp_nilT ?_ | refine owp_nilB ?_ | refine owp_nilBB ?_ | refine owp_nil ?_))
    repeat (first | refine ewp_seq ?_ | refine ewp_block ?_ | refine ewp_region ?_ | refine ewp_skip ?_ | refine ewp_exit ?_ | refine ewp_ret ?_ | refine ewp_true rfl ?_ | refine ewp_false rfl ?_)
    exact ret1 rfl rfl ⟨by rw [bof_t h], hE⟩
  · ((first | refine o_geT rfl rfl rfl ?_ | refine o_geF rfl rfl rfl ?_) <;> refine o_as rfl rfl ?_ <;> (first | refine owp_nilT ?_ | refine owp_nilB ?_ | refine owp_nilBB ?_ | refine owp_nil ?_))
    repeat (first | refine ewp_seq ?_ | refine ewp_block ?_ | refine ewp_region ?_ | refine ewp_skip ?_ | refine ewp_exit ?_ | refine ewp_ret ?_ | refine ewp_true rfl ?_ | refine ewp_false rfl ?_)
    exact ret1 rfl rfl ⟨by rw [bof_f (fun ⟨x, hx, hp⟩ => h x hx hp)], hE⟩
end
end Go.Proofs.Ythomfnkaicjmbaa

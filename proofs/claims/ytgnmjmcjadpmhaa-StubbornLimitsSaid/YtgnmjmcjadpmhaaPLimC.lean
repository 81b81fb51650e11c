/- Own text: what the proof of stubbornLimits_holds uses, part 3: rules, models and their proofs, plain laws. -/
import Derived.Test.YtgnmjmcjadpmhaaPLimB
namespace Go.Proofs.Ytgnmjmcjadpmhaa
open Go Go.RowKit
section
open Go Go.RowKit
attribute [local irreducible] ewp owp hwp hwq Ev Evg Fn retPost Res1
attribute [local irreducible] hwx loudX
noncomputable def m_stubborn_on (x0 : List Fct) (x1 : Int) : Option (Int × Bool) :=
  bnd (rng (ρ := Int × Bool) (fun (k11 : Nat) (a12 : Fct) (s9 : Unit) => if a12.var = x1 then (some (.ret (a12.val, true))) else (some (.next ()))) x0 0 ()) fun res7 => fin res7 fun (s43 : Unit) => some (0, false)
theorem c_stubborn_on {w : World} {A : Nat → Prop} (hA : ∀ k, A k → k < w.heap.size) {vx0 : Value} {x0 : List Fct} (hx0 : Vb w A vx0 x0) {x1 : Int} (rx1 : inI64 x1) {r : Int × Bool} (hm : m_stubborn_on x0 x1 = some r) :
    Fn Try.prog 82 [vx0, (.int .i64 x1)] w fun v w' => Ext w w' ∧ T2 w' (upA A w w') v r := by
 obtain ⟨O, hB, hA0⟩ := enter hA
 replace hx0 := hx0.mono hA0
 obtain ⟨A3, c4, rfl⟩ := hx0.form
 refine fn_enter Try.func82 rfl Try.ntmps82 rfl ?_
 unfold m_stubborn_on at hm
 refine ewp_seq (ewp_region (o_as rfl rfl (o_as rfl rfl (o_z ?_))))
 refine ewp_seq (ewp_seq (ewp_region (o_mv rfl rfl (o_ln rfl rfl ?_))))
 have l6 : x0.length ≤ 9223372036854775807 := Nat.le_trans hx0.len.2.1 hx0.len.2.2
 have r5 : inI64 (x0.length : Int) := rngNat l6
 refine o_mv rfl rfl (o_z ?_)
 obtain ⟨res7, hL8, hm⟩ := bs hm
 refine ewp_join (aft res7 (fun (s9 : Unit) (x10 : Unit) => []) (fun s9 x10 w' => ∃ O' : Lab, Bs w A w' O')) ?_ ?_
 ·
  refine ewp_block (ewp_rng (σ := Unit) (X := Unit) (x0.length) hL8 rfl l6 (fun (s9 : Unit) (x10 : Unit) => [(1, (.int .i64 x1)), (8, (.slice A3 x0.length c4))]) _ (fun s9 x10 w' => ∃ O' : Lab, Bs w A w' O' ∧ Vb w' (Fr 0 w' O') (.slice A3 x0.length c4) x0) _ () ⟨O, hB, hx0⟩ ⟨rfl, rfl, rfl, rfl, trivial⟩ (fun _ _ => ⟨rfl, rfl⟩) (fun _ _ => trivial) (fun _ _ _ ⟨O', hB, hx0⟩ => ⟨O', hB⟩) ⟨rfl, rfl, rfl⟩ ⟨rfl, rfl⟩ ?_)
  rintro k11 a12 s9 x10 w13 cc15 hx16 ⟨O14, hB, hx0⟩ hf17 hret18 hbrk19
  have rk11 : inI64 (k11 : Int) := rngK hx16 l6
  refine ewp_seq (ewp_region ?_)
  obtain ⟨b22, o23, ce24, hA25, hl26, hd27, rfl, r29, r30⟩ := hx0.elem' hx16
  refine o_iaE (hA := hA25) (hj := rfl) (hlt := hl26) rfl rfl rfl ?_
  refine o_la (hl := rfl) (hc := hd27) rfl rfl ?_
  refine l_alloc 2 O14 rfl fun g31 w32 O33 S34 h35 => ?_
  refine l_store h35 rfl rfl rfl (Nat.le_of_ble_eq_true rfl) (by first | exact allOne rfl | simp [Value.cells, Value.oneCell', errV_one]) fun w36 S37 h35 => ?_
  replace h35 : Lc 2 w36 O33 g31 68 [(.int .i64 a12.var), (.int .i64 a12.val)] := h35
  refine o_z ?_
  refine ewp_seq (ewp_region (o_fa rfl rfl (o_ld (hc := Blk.cell (i := 0) (h35.1) rfl) rfl rfl ?_)))
  refine o_mv rfl rfl (o_eeS rfl rfl rfl (fun c38 => ?_) fun c38 => ?_)
  ·
   replace hf17 := ip hf17 c38
   refine o_z ?_
   refine ewp_true rfl (ewp_seq (ewp_region (o_fa rfl rfl (o_ld (hc := Blk.cell (i := 1) (h35.1) rfl) rfl rfl ?_))))
   refine o_as rfl rfl (o_as rfl rfl (o_z ?_))
   refine ewp_ret ?_
   obtain rfl := sm hf17
   obtain rfl := hret18 _ rfl
   obtain rfl := sm (fin_ret hm)
   replace hB := (hB.st S34).st S37
   exact ret2 rfl (res_tmp rfl) (res_tmp rfl) ⟨hB.ext, _, _, rfl, (vInt r30), vBool⟩
  ·
   replace hf17 := im hf17 c38
   refine o_z ?_
   refine ewp_false rfl (ewp_skip ?_)
   obtain rfl := sm hf17
   refine (?_ : Exists _)
   replace hx0 := (hx0.st S34).st S37
   replace hB := (hB.st S34).st S37
   exact ⟨_, (), rfl, ⟨rfl, rfl, rfl, rfl, trivial⟩, _, hB, hx0⟩
 rintro l39 w40 ⟨s43, x44, rfl, hs42, O41, hB⟩
 replace hm := fin_done hm
 refine ewp_sub _ hs42 ?_
 refine ewp_seq (ewp_region (o_as rfl rfl (o_as rfl rfl (o_z ?_))))
 refine ewp_ret ?_
 obtain rfl := sm hm
 exact ret2 rfl (res_tmp rfl) (res_tmp rfl) ⟨hB.ext, _, _, rfl, (vInt (show inI64 (0) from by decide)), vBool⟩
noncomputable def m_stubborn_hinders (x0 : Opr) (x1 : Opr) : Option Bool :=
  bnd (rng (ρ := Bool) (fun (k41 : Nat) (a42 : Eff) (s39 : Unit) => bnd (m_stubborn_on x1.pre a42.var) fun q72 => bnd (if q72.2 = true then (if q72.1 ≠ a42.val then (some true) else (some false)) else (some false) : Option Bool) fun y84 => if y84 = true then (some (.ret true)) else (bnd (rng (ρ := Ctl Unit Bool) (fun (k101 : Nat) (a102 : Eff) (s99 : Unit) => bnd (m_stubborn_on a102.cond a42.var) fun q132 => bnd (if q132.2 = true then (some true) else (if a102.var = a42.var then (if a102.val ≠ a42.val then (some true) else (some false)) else (some false)) : Option Bool) fun y144 => if y144 = true then (some (.ret (.ret true))) else (some (.next ()))) x1.effs 0 ()) fun res97 => fin res97 fun (s160 : Unit) => some (.next ()))) x0.effs 0 ()) fun res37 => fin res37 fun (s166 : Unit) => some false
theorem c_stubborn_hinders {w : World} {A : Nat → Prop} (hA : ∀ k, A k → k < w.heap.size) {vx0 : Value} {x0 : Opr} (hx0 : Vb w A vx0 x0) {vx1 : Value} {x1 : Opr} (hx1 : Vb w A vx1 x1) {r : Bool} (hm : m_stubborn_hinders x0 x1 = some r) :
    Fn Try.prog 67 [vx0, vx1] w fun v w' => Ext w w' ∧ Vb w' (upA A w w') v r := by
 obtain ⟨O, hB, hA0⟩ := enter hA
 replace hx0 := hx0.mono hA0
 obtain ⟨cs3, rfl, v4, v5, rfl, h6, h9, r12, z13⟩ := hx0
 obtain ⟨A7, c8, rfl⟩ := h6.form
 obtain ⟨A10, c11, rfl⟩ := h9.form
 replace hx1 := hx1.mono hA0
 obtain ⟨cs14, rfl, v15, v16, rfl, h17, h20, r23, z24⟩ := hx1
 obtain ⟨A18, c19, rfl⟩ := h17.form
 obtain ⟨A21, c22, rfl⟩ := h20.form
 refine fn_enter Try.func67 rfl Try.ntmps67 rfl ?_
 unfold m_stubborn_hinders at hm
 refine ewp_seq (ewp_region (l_box 2 O rfl rfl fun g25 w26 O27 S28 h29 => ?_))
 replace h29 : Lc 2 w26 O27 g25 48 [(.string x0.name), (.int .i64 x0.cost), (.slice A7 x0.pre.length c8), (.slice A10 x0.effs.length c11)] := h29
 refine l_box 3 O27 rfl rfl fun g30 w31 O32 S33 h34 => ?_
 replace h34 : Lc 3 w31 O32 g30 48 [(.string x1.name), (.int .i64 x1.cost), (.slice A18 x1.pre.length c19), (.slice A21 x1.effs.length c22)] := h34
 refine o_as rfl rfl (o_z ?_)
 refine ewp_seq (ewp_seq (ewp_region (o_fa rfl rfl ?_)))
 replace h29 := h29.st S33
 refine o_ld (hc := Blk.cell (i := 3) (h29.1) rfl) rfl rfl ?_
 refine o_ln rfl rfl ?_
 replace h9 := (h9.st S28).st S33
 have l36 : x0.effs.length ≤ 9223372036854775807 := Nat.le_trans h9.len.2.1 h9.len.2.2
 have r35 : inI64 (x0.effs.length : Int) := rngNat l36
 refine o_mv rfl rfl (o_z ?_)
 obtain ⟨res37, hL38, hm⟩ := bs hm
 refine ewp_join (aft res37 (fun (s39 : Unit) (x40 : Unit) => []) (fun s39 x40 w' => ∃ O' : Lab, Bs w A w' O')) ?_ ?_
 ·
  refine ewp_block ?_
  replace hB := (hB.st S28).st S33
  replace h17 := (h17.st S28).st S33
  replace h20 := (h20.st S28).st S33
  refine ewp_rng (σ := Unit) (X := Unit) (x0.effs.length) hL38 rfl l36 (fun (s39 : Unit) (x40 : Unit) => [(3, (.pointer (some ⟨g30, 0, none⟩))), (14, (.slice A10 x0.effs.length c11))]) _ (fun s39 x40 w' => ∃ O' : Lab, Bs w A w' O' ∧ Lc 3 w' O' g30 48 [(.string x1.name), (.int .i64 x1.cost), (.slice A18 x1.pre.length c19), (.slice A21 x1.effs.length c22)] ∧ Vb w' (Fr 0 w' O') (.slice A18 x1.pre.length c19) x1.pre ∧ Vb w' (Fr 0 w' O') (.slice A21 x1.effs.length c22) x1.effs ∧ Vb w' (Fr 0 w' O') (.slice A10 x0.effs.length c11) x0.effs) _ () ⟨O32, hB, h34, h17, h20, h9⟩ ⟨rfl, rfl, rfl, rfl, trivial⟩ (fun _ _ => ⟨rfl, rfl⟩) (fun _ _ => trivial) (fun _ _ _ ⟨O', hB, h34, h17, h20, h9⟩ => ⟨O', hB⟩) ⟨rfl, rfl, rfl⟩ ⟨rfl, rfl⟩ ?_
  rintro k41 a42 s39 x40 w43 cc45 hx46 ⟨O44, hB, h34, h17, h20, h9⟩ hf47 hret48 hbrk49
  have rk41 : inI64 (k41 : Int) := rngK hx46 l36
  refine ewp_seq (ewp_region ?_)
  obtain ⟨b52, o53, ce54, hA55, hl56, hd57, v59, rfl, h60, r63, r64⟩ := h9.elem' hx46
  obtain ⟨A61, c62, rfl⟩ := h60.form
  refine o_iaE (hA := hA55) (hj := rfl) (hlt := hl56) rfl rfl rfl ?_
  refine o_la (hl := rfl) (hc := hd57) rfl rfl ?_
  refine l_alloc 4 O44 rfl fun g65 w66 O67 S68 h69 => ?_
  refine l_store h69 rfl rfl rfl (Nat.le_of_ble_eq_true rfl) (by first | exact allOne rfl | simp [Value.cells, Value.oneCell', errV_one]) fun w70 S71 h69 => ?_
  replace h69 : Lc 4 w70 O67 g65 77 [(.slice A61 a42.cond.length c62), (.int .i64 a42.var), (.int .i64 a42.val)] := h69
  refine o_z ?_
  refine ewp_seq (ewp_seq (ewp_region (o_fa rfl rfl ?_)))
  replace h34 := (h34.st S68).st S71
  refine o_ld (hc := Blk.cell (i := 2) (h34.1) rfl) rfl rfl ?_
  refine o_fa rfl rfl (o_ld (hc := Blk.cell (i := 1) (h69.1) rfl) rfl rfl ?_)
  obtain ⟨q72, e73, hf47⟩ := bs hf47
  replace h17 := (h17.st S68).st S71
  refine l_callA (O := O67) (A := All w70) (R := fun w' F v => T2 w' F v q72) (c_stubborn_on (fun _ h => h) (Vb.mono (F := Fr 0 w70 O67) h17 Fr.lt) r63 e73) rfl rfl fun v78 w74 O75 S76 h77 => ?_
  obtain ⟨v79, v80, rfl, h81, h82⟩ := h77
  obtain ⟨rfl, r83⟩ := h81.int
  obtain rfl := h82.bool
  refine o_mv rfl rfl (o_ex rfl rfl rfl (o_ex rfl rfl rfl (o_as rfl rfl (o_as rfl rfl (o_z ?_)))))
  refine ewp_seq ?_
  obtain ⟨y84, hy85, hf47⟩ := bs hf47
  refine ewp_join (fun l' w' => ∃ (x87 : Unit) (O' : Lab), subs l' [(3, (.pointer (some ⟨g30, 0, none⟩))), (6, (.pointer (some ⟨g65, 0, none⟩))), (14, (.slice A10 x0.effs.length c11)), (15, (.int .i64 (x0.effs.length : Int))), (16, (.int .i64 (k41 : Int))), (34, (.bool y84))] ∧ Bs w A w' O' ∧ Lc 3 w' O' g30 48 [(.string x1.name), (.int .i64 x1.cost), (.slice A18 x1.pre.length c19), (.slice A21 x1.effs.length c22)] ∧ Vb w' (Fr 0 w' O') (.slice A18 x1.pre.length c19) x1.pre ∧ Vb w' (Fr 0 w' O') (.slice A21 x1.effs.length c22) x1.effs ∧ Lc 4 w' O' g65 77 [(.slice A61 a42.cond.length c62), (.int .i64 a42.var), (.int .i64 a42.val)] ∧ Vb w' (Fr 0 w' O') (.slice A61 a42.cond.length c62) a42.cond ∧ Vb w' (Fr 0 w' O') (.slice A10 x0.effs.length c11) x0.effs) ?_ ?_
  ·
   refine ewp_region (o_mv rfl rfl (o_mv rfl rfl ?_))
   rcases Bool.eq_false_or_eq_true q72.2 with c88 | c88
   ·
    try simp only [c88]
    replace hy85 := ip hy85 c88
    refine owp_yes rfl rfl (o_mv rfl rfl (owp_yes rfl rfl (o_fa rfl rfl (owp_yes rfl rfl ?_))))
    replace h69 := h69.st S76
    refine o_ld (hc := Blk.cell (i := 2) (h69.1) rfl) rfl rfl ?_
    refine owp_yes rfl rfl (o_neS rfl rfl rfl (fun c89 => ?_) fun c89 => ?_)
    ·
     replace hy85 := ip hy85 c89
     refine o_pt rfl rfl rfl (o_z ?_)
     obtain rfl := sm hy85
     replace hB := ((hB.st S68).st S71).st S76
     replace h9 := ((h9.st S68).st S71).st S76
     replace h17 := h17.st S76
     replace h20 := ((h20.st S68).st S71).st S76
     replace h34 := h34.st S76
     replace h60 := ((h60.st S68).st S71).st S76
     exact ⟨(), _, ⟨rfl, rfl, rfl, rfl, rfl, rfl, trivial⟩, hB, h34, h17, h20, h69, h60, h9⟩
    ·
     replace hy85 := im hy85 c89
     refine o_pt rfl rfl rfl (o_z ?_)
     obtain rfl := sm hy85
     replace hB := ((hB.st S68).st S71).st S76
     replace h9 := ((h9.st S68).st S71).st S76
     replace h17 := h17.st S76
     replace h20 := ((h20.st S68).st S71).st S76
     replace h34 := h34.st S76
     replace h60 := ((h60.st S68).st S71).st S76
     exact ⟨(), _, ⟨rfl, rfl, rfl, rfl, rfl, rfl, trivial⟩, hB, h34, h17, h20, h69, h60, h9⟩
   ·
    try simp only [c88]
    replace hy85 := im' hy85 c88
    refine owp_no rfl rfl rfl rfl (owp_no rfl rfl rfl rfl (owp_no rfl rfl rfl rfl (owp_no rfl rfl rfl rfl (o_pf rfl rfl rfl (o_z ?_)))))
    obtain rfl := sm hy85
    replace hB := ((hB.st S68).st S71).st S76
    replace h9 := ((h9.st S68).st S71).st S76
    replace h17 := h17.st S76
    replace h20 := ((h20.st S68).st S71).st S76
    replace h34 := h34.st S76
    replace h60 := ((h60.st S68).st S71).st S76
    replace h69 := h69.st S76
    exact ⟨(), _, ⟨rfl, rfl, rfl, rfl, rfl, rfl, trivial⟩, hB, h34, h17, h20, h69, h60, h9⟩
  replace hB := ((hB.st S68).st S71).st S76
  replace h9 := ((h9.st S68).st S71).st S76
  replace h17 := h17.st S76
  replace h20 := ((h20.st S68).st S71).st S76
  replace h34 := h34.st S76
  replace h60 := ((h60.st S68).st S71).st S76
  replace h69 := h69.st S76
  rintro l90 w91 ⟨x87, O92, hs93, hB, h34, h17, h20, h69, h60, h9⟩
  refine ewp_sub _ hs93 ?_
  refine ewp_cond rfl (fun c94 => ?_) (fun c94 => ?_)
  ·
   replace hf47 := ip hf47 c94
   refine ewp_seq (ewp_region (o_as rfl rfl (o_z ?_)))
   refine ewp_ret ?_
   obtain rfl := sm hf47
   obtain rfl := hret48 _ rfl
   obtain rfl := sm (fin_ret hm)
   exact ret1v rfl (res_tmp rfl) ⟨hB.ext, vBool⟩
  ·
   replace hf47 := im' hf47 c94
   refine ewp_skip (ewp_seq (ewp_region (o_fa rfl rfl (o_ld (hc := Blk.cell (i := 3) (h34.1) rfl) rfl rfl ?_))))
   refine o_ln rfl rfl ?_
   have l96 : x1.effs.length ≤ 9223372036854775807 := Nat.le_trans h20.len.2.1 h20.len.2.2
   have r95 : inI64 (x1.effs.length : Int) := rngNat l96
   refine o_mv rfl rfl (o_z ?_)
   obtain ⟨res97, hL98, hf47⟩ := bs hf47
   refine ewp_join (aft res97 (fun (s99 : Unit) (x100 : Unit) => [(3, (.pointer (some ⟨g30, 0, none⟩))), (14, (.slice A10 x0.effs.length c11)), (15, (.int .i64 (x0.effs.length : Int))), (16, (.int .i64 (k41 : Int)))]) (fun s99 x100 w' => ∃ O' : Lab, Bs w A w' O' ∧ Lc 3 w' O' g30 48 [(.string x1.name), (.int .i64 x1.cost), (.slice A18 x1.pre.length c19), (.slice A21 x1.effs.length c22)] ∧ Vb w' (Fr 0 w' O') (.slice A18 x1.pre.length c19) x1.pre ∧ Vb w' (Fr 0 w' O') (.slice A21 x1.effs.length c22) x1.effs ∧ Vb w' (Fr 0 w' O') (.slice A10 x0.effs.length c11) x0.effs)) ?_ ?_
   ·
    refine ewp_block (ewp_rng (σ := Unit) (X := Unit) (x1.effs.length) hL98 rfl l96 (fun (s99 : Unit) (x100 : Unit) => [(3, (.pointer (some ⟨g30, 0, none⟩))), (6, (.pointer (some ⟨g65, 0, none⟩))), (14, (.slice A10 x0.effs.length c11)), (15, (.int .i64 (x0.effs.length : Int))), (16, (.int .i64 (k41 : Int))), (36, (.slice A21 x1.effs.length c22))]) _ (fun s99 x100 w' => ∃ O' : Lab, Bs w A w' O' ∧ Lc 3 w' O' g30 48 [(.string x1.name), (.int .i64 x1.cost), (.slice A18 x1.pre.length c19), (.slice A21 x1.effs.length c22)] ∧ Vb w' (Fr 0 w' O') (.slice A18 x1.pre.length c19) x1.pre ∧ Vb w' (Fr 0 w' O') (.slice A21 x1.effs.length c22) x1.effs ∧ Lc 4 w' O' g65 77 [(.slice A61 a42.cond.length c62), (.int .i64 a42.var), (.int .i64 a42.val)] ∧ Vb w' (Fr 0 w' O') (.slice A61 a42.cond.length c62) a42.cond ∧ Vb w' (Fr 0 w' O') (.slice A10 x0.effs.length c11) x0.effs) _ () ⟨O92, hB, h34, h17, h20, h69, h60, h9⟩ ⟨rfl, rfl, rfl, rfl, rfl, rfl, rfl, rfl, trivial⟩ (fun _ _ => ⟨rfl, rfl⟩) (fun _ _ => ⟨rfl, rfl, rfl, rfl, trivial⟩) (fun _ _ _ ⟨O', hB, h34, h17, h20, h69, h60, h9⟩ => ⟨O', hB, h34, h17, h20, h9⟩) ⟨rfl, rfl, rfl⟩ ⟨rfl, rfl⟩ ?_)
    rintro k101 a102 s99 x100 w103 cc105 hx106 ⟨O104, hB, h34, h17, h20, h69, h60, h9⟩ hf107 hret108 hbrk109
    have rk101 : inI64 (k101 : Int) := rngK hx106 l96
    refine ewp_seq (ewp_region ?_)
    obtain ⟨b112, o113, ce114, hA115, hl116, hd117, v119, rfl, h120, r123, r124⟩ := h20.elem' hx106
    obtain ⟨A121, c122, rfl⟩ := h120.form
    refine o_iaE (hA := hA115) (hj := rfl) (hlt := hl116) rfl rfl rfl ?_
    refine o_la (hl := rfl) (hc := hd117) rfl rfl ?_
    refine l_alloc 5 O104 rfl fun g125 w126 O127 S128 h129 => ?_
    refine l_store h129 rfl rfl rfl (Nat.le_of_ble_eq_true rfl) (by first | exact allOne rfl | simp [Value.cells, Value.oneCell', errV_one]) fun w130 S131 h129 => ?_
    replace h129 : Lc 5 w130 O127 g125 77 [(.slice A121 a102.cond.length c122), (.int .i64 a102.var), (.int .i64 a102.val)] := h129
    refine o_z ?_
    refine ewp_seq (ewp_region (o_fa rfl rfl (o_ld (hc := Blk.cell (i := 0) (h129.1) rfl) rfl rfl ?_)))
    refine o_fa rfl rfl ?_
    replace h69 := (h69.st S128).st S131
    refine o_ld (hc := Blk.cell (i := 1) (h69.1) rfl) rfl rfl ?_
    obtain ⟨q132, e133, hf107⟩ := bs hf107
    replace h120 := (h120.st S128).st S131
    refine l_callA (O := O127) (A := All w130) (R := fun w' F v => T2 w' F v q132) (c_stubborn_on (fun _ h => h) (Vb.mono (F := Fr 0 w130 O127) h120 Fr.lt) r63 e133) rfl rfl fun v138 w134 O135 S136 h137 => ?_
    obtain ⟨v139, v140, rfl, h141, h142⟩ := h137
    obtain ⟨rfl, r143⟩ := h141.int
    obtain rfl := h142.bool
    refine o_mv rfl rfl (o_ex rfl rfl rfl (o_ex rfl rfl rfl (o_as rfl rfl (o_as rfl rfl (o_z ?_)))))
    refine ewp_seq ?_
    obtain ⟨y144, hy145, hf107⟩ := bs hf107
    refine ewp_join (fun l' w' => ∃ (x147 : Unit) (O' : Lab), subs l' [(3, (.pointer (some ⟨g30, 0, none⟩))), (6, (.pointer (some ⟨g65, 0, none⟩))), (14, (.slice A10 x0.effs.length c11)), (15, (.int .i64 (x0.effs.length : Int))), (16, (.int .i64 (k41 : Int))), (36, (.slice A21 x1.effs.length c22)), (37, (.int .i64 (x1.effs.length : Int))), (38, (.int .i64 (k101 : Int))), (64, (.bool y144))] ∧ Bs w A w' O' ∧ Lc 3 w' O' g30 48 [(.string x1.name), (.int .i64 x1.cost), (.slice A18 x1.pre.length c19), (.slice A21 x1.effs.length c22)] ∧ Vb w' (Fr 0 w' O') (.slice A18 x1.pre.length c19) x1.pre ∧ Vb w' (Fr 0 w' O') (.slice A21 x1.effs.length c22) x1.effs ∧ Lc 4 w' O' g65 77 [(.slice A61 a42.cond.length c62), (.int .i64 a42.var), (.int .i64 a42.val)] ∧ Vb w' (Fr 0 w' O') (.slice A61 a42.cond.length c62) a42.cond ∧ Vb w' (Fr 0 w' O') (.slice A10 x0.effs.length c11) x0.effs) ?_ ?_
    ·
     refine ewp_region (o_mv rfl rfl (o_mv rfl rfl ?_))
     rcases Bool.eq_false_or_eq_true q132.2 with c148 | c148
     ·
      try simp only [c148]
      replace hy145 := ip hy145 c148
      refine owp_no rfl rfl rfl rfl (owp_no rfl rfl rfl rfl (owp_no rfl rfl rfl rfl (owp_no rfl rfl rfl rfl (owp_no rfl rfl rfl rfl (owp_no rfl rfl rfl rfl (owp_no rfl rfl rfl rfl (owp_no rfl rfl rfl rfl (owp_no rfl rfl rfl rfl (owp_no rfl rfl rfl rfl (owp_no rfl rfl rfl rfl (owp_no rfl rfl rfl rfl (o_pt rfl rfl rfl (o_z ?_)))))))))))))
      obtain rfl := sm hy145
      replace hB := ((hB.st S128).st S131).st S136
      replace h9 := ((h9.st S128).st S131).st S136
      replace h17 := ((h17.st S128).st S131).st S136
      replace h20 := ((h20.st S128).st S131).st S136
      replace h34 := ((h34.st S128).st S131).st S136
      replace h60 := ((h60.st S128).st S131).st S136
      replace h69 := h69.st S136
      exact ⟨(), _, ⟨rfl, rfl, rfl, rfl, rfl, rfl, rfl, rfl, rfl, trivial⟩, hB, h34, h17, h20, h69, h60, h9⟩
     ·
      try simp only [c148]
      replace hy145 := im' hy145 c148
      refine owp_yes rfl rfl (o_fa rfl rfl (owp_yes rfl rfl ?_))
      replace h129 := h129.st S136
      refine o_ld (hc := Blk.cell (i := 1) (h129.1) rfl) rfl rfl ?_
      refine owp_yes rfl rfl (o_fa rfl rfl (owp_yes rfl rfl ?_))
      replace h69 := h69.st S136
      refine o_ld (hc := Blk.cell (i := 1) (h69.1) rfl) rfl rfl ?_
      refine owp_yes rfl rfl (o_eeS rfl rfl rfl (fun c149 => ?_) fun c149 => ?_)
      ·
       replace hy145 := ip hy145 c149
       refine owp_yes rfl rfl (o_mv rfl rfl (owp_yes rfl rfl (o_fa rfl rfl (owp_yes rfl rfl (o_ld (hc := Blk.cell (i := 2) (h129.1) rfl) rfl rfl ?_)))))
       refine owp_yes rfl rfl (o_fa rfl rfl (owp_yes rfl rfl (o_ld (hc := Blk.cell (i := 2) (h69.1) rfl) rfl rfl ?_)))
       refine owp_yes rfl rfl (o_neS rfl rfl rfl (fun c150 => ?_) fun c150 => ?_)
       ·
        replace hy145 := ip hy145 c150
        refine owp_yes rfl rfl (o_pt rfl rfl rfl (o_pf rfl rfl rfl (o_z ?_)))
        obtain rfl := sm hy145
        replace hB := ((hB.st S128).st S131).st S136
        replace h9 := ((h9.st S128).st S131).st S136
        replace h17 := ((h17.st S128).st S131).st S136
        replace h20 := ((h20.st S128).st S131).st S136
        replace h34 := ((h34.st S128).st S131).st S136
        replace h60 := ((h60.st S128).st S131).st S136
        exact ⟨(), _, ⟨rfl, rfl, rfl, rfl, rfl, rfl, rfl, rfl, rfl, trivial⟩, hB, h34, h17, h20, h69, h60, h9⟩
       ·
        replace hy145 := im hy145 c150
        refine owp_yes rfl rfl (o_pt rfl rfl rfl (o_pf rfl rfl rfl (o_z ?_)))
        obtain rfl := sm hy145
        replace hB := ((hB.st S128).st S131).st S136
        replace h9 := ((h9.st S128).st S131).st S136
        replace h17 := ((h17.st S128).st S131).st S136
        replace h20 := ((h20.st S128).st S131).st S136
        replace h34 := ((h34.st S128).st S131).st S136
        replace h60 := ((h60.st S128).st S131).st S136
        exact ⟨(), _, ⟨rfl, rfl, rfl, rfl, rfl, rfl, rfl, rfl, rfl, trivial⟩, hB, h34, h17, h20, h69, h60, h9⟩
      ·
       replace hy145 := im hy145 c149
       refine owp_yes rfl rfl (o_mv rfl rfl (owp_no rfl rfl rfl rfl (owp_no rfl rfl rfl rfl (owp_no rfl rfl rfl rfl (owp_no rfl rfl rfl rfl (owp_no rfl rfl rfl rfl (owp_yes rfl rfl (o_pf rfl rfl rfl (o_pf rfl rfl rfl (o_z ?_))))))))))
       obtain rfl := sm hy145
       replace hB := ((hB.st S128).st S131).st S136
       replace h9 := ((h9.st S128).st S131).st S136
       replace h17 := ((h17.st S128).st S131).st S136
       replace h20 := ((h20.st S128).st S131).st S136
       replace h34 := ((h34.st S128).st S131).st S136
       replace h60 := ((h60.st S128).st S131).st S136
       exact ⟨(), _, ⟨rfl, rfl, rfl, rfl, rfl, rfl, rfl, rfl, rfl, trivial⟩, hB, h34, h17, h20, h69, h60, h9⟩
    replace hB := ((hB.st S128).st S131).st S136
    replace h9 := ((h9.st S128).st S131).st S136
    replace h17 := ((h17.st S128).st S131).st S136
    replace h20 := ((h20.st S128).st S131).st S136
    replace h34 := ((h34.st S128).st S131).st S136
    replace h60 := ((h60.st S128).st S131).st S136
    replace h69 := h69.st S136
    rintro l151 w152 ⟨x147, O153, hs154, hB, h34, h17, h20, h69, h60, h9⟩
    refine ewp_sub _ hs154 ?_
    refine ewp_cond rfl (fun c155 => ?_) (fun c155 => ?_)
    ·
     replace hf107 := ip hf107 c155
     refine ewp_seq (ewp_region (o_as rfl rfl (o_z ?_)))
     refine ewp_ret ?_
     obtain rfl := sm hf107
     obtain rfl := hret108 _ rfl
     obtain rfl := sm (fin_ret hf47)
     obtain rfl := hret48 _ rfl
     obtain rfl := sm (fin_ret hm)
     exact ret1v rfl (res_tmp rfl) ⟨hB.ext, vBool⟩
    ·
     replace hf107 := im' hf107 c155
     refine ewp_skip ?_
     obtain rfl := sm hf107
     refine (?_ : Exists _)
     exact ⟨_, (), rfl, ⟨rfl, rfl, rfl, rfl, rfl, rfl, rfl, rfl, trivial⟩, _, hB, h34, h17, h20, h69, h60, h9⟩
   rintro l156 w157 ⟨s160, x161, rfl, hs159, O158, hB, h34, h17, h20, h9⟩
   replace hf47 := fin_done hf47
   obtain rfl := sm hf47
   refine (?_ : Exists _)
   exact ⟨_, (), rfl, ⟨(subs_lk hs159 _ _ rfl), (subs_lk hs159 _ _ rfl), (subs_lk hs159 _ _ rfl), (subs_lk hs159 _ _ rfl), trivial⟩, _, hB, h34, h17, h20, h9⟩
 replace hB := (hB.st S28).st S33
 rintro l162 w163 ⟨s166, x167, rfl, hs165, O164, hB⟩
 replace hm := fin_done hm
 refine ewp_sub _ hs165 ?_
 refine ewp_seq (ewp_region (o_as rfl rfl (o_z ?_)))
 refine ewp_ret ?_
 obtain rfl := sm hm
 exact ret1v rfl (res_tmp rfl) ⟨hB.ext, vBool⟩
noncomputable def m_stubborn_interfere (x0 : Tsk) (x1 : Int) (x2 : Int) : Option Bool :=
  bnd (if x1 ≠ x2 then (bnd (atI x0.ops x1) fun a31 => bnd (atI x0.ops x2) fun a52 => bnd (m_stubborn_hinders a31 a52) fun q73 => if q73 = true then some true else bnd (atI x0.ops x2) fun a80 => bnd (atI x0.ops x1) fun a101 => bnd (m_stubborn_hinders a80 a101) fun q122 => if q122 = true then some true else some false) else (some false) : Option Bool) fun y26 => some y26
theorem c_stubborn_interfere {w : World} {A : Nat → Prop} (hA : ∀ k, A k → k < w.heap.size) {vx0 : Value} {x0 : Tsk} (hx0 : Vb w A vx0 x0) {x1 : Int} (rx1 : inI64 x1) {x2 : Int} (rx2 : inI64 x2) {r : Bool} (hm : m_stubborn_interfere x0 x1 x2 = some r) :
    Fn Try.prog 46 [vx0, (.int .i64 x1), (.int .i64 x2)] w fun v w' => Ext w w' ∧ Vb w' (upA A w w') v r := by
 obtain ⟨O, hB, hA0⟩ := enter hA
 replace hx0 := hx0.mono hA0
 obtain ⟨cs4, rfl, v5, v6, v7, v8, rfl, h9, h12, h15, h18⟩ := hx0
 obtain ⟨A10, c11, rfl⟩ := h9.form
 obtain ⟨A13, c14, rfl⟩ := h12.form
 obtain ⟨A16, c17, rfl⟩ := h15.form
 obtain ⟨A19, c20, rfl⟩ := h18.form
 refine fn_enter Try.func46 rfl Try.ntmps46 rfl ?_
 unfold m_stubborn_interfere at hm
 refine ewp_seq (ewp_region (l_box 2 O rfl rfl fun g21 w22 O23 S24 h25 => ?_))
 replace h25 : Lc 2 w22 O23 g21 26 [(.slice A10 x0.vars.length c11), (.slice A13 x0.init.length c14), (.slice A16 x0.goal.length c17), (.slice A19 x0.ops.length c20)] := h25
 refine o_as rfl rfl (o_z ?_)
 refine ewp_seq ?_
 obtain ⟨y26, hy27, hm⟩ := bs hm
 refine ewp_join (fun l' w' => ∃ (x29 : Unit) (O' : Lab), subs l' [(6, (.bool y26))] ∧ Bs w A w' O') ?_ ?_
 ·
  refine ewp_drawX [(14, []), (26, [])] O23 ?_
  refine x_pre (fuel := 16) [] [(0, true), (1, true), (2, true), (3, true), (4, true), (5, true), (6, true), (7, true), (8, true), (9, true), (10, true), (11, true), (12, true), (13, true)] (by kernel_rfl) rfl ?_
  refine h_mv rfl rfl rfl (h_mv rfl rfl rfl (h_neS rfl rfl rfl rfl (fun c30 => ?_) fun c30 => ?_))
  ·
   replace hy27 := ip hy27 c30
   refine h_mv rfl rfl rfl (hwp_o rfl (hwq_yes rfl rfl (g_fa rfl rfl (hwp_o rfl (hwq_yes rfl rfl (g_ldC (hc := fun w' ⟨O', hq⟩ => Blk.cell (i := 3) ((h25.st hq (by decide)).1) rfl) rfl rfl ?_))))))
   refine hwp_o rfl (hwq_yes rfl rfl (g_mv rfl rfl (hwp_o rfl (hwq_yes rfl rfl ?_))))
   obtain ⟨a31, e32, hy27⟩ := bs hy27
   obtain ⟨p34, x33⟩ := atI_some' e32
   replace h18 := h18.st S24
   obtain ⟨b35, o36, ce37, hA38, hF41, hl39, hd40, v42, v43, rfl, h44, h47, r50, z51⟩ := h18.elem x33
   obtain ⟨A45, c46, rfl⟩ := h44.form
   obtain ⟨A48, c49, rfl⟩ := h47.form
   refine g_iaE (hA := hA38) (hj := (Int.toNat_of_nonneg p34).symm) (hlt := hl39) rfl rfl rfl ?_
   refine hwp_o rfl (hwq_yes rfl rfl (g_laB (hl := rfl) (hb := fun w' ⟨O', hq⟩ => (cellsAt_agree (hq.agree (i := 0) (by decide)) hF41 hd40)) rfl rfl ?_))
   refine hwp_o rfl (hwq_yes rfl rfl (g_fa rfl rfl (hwp_o rfl (hwq_yes rfl rfl (g_ldC (hc := fun w' ⟨O', hq⟩ => Blk.cell (i := 3) ((h25.st hq (by decide)).1) rfl) rfl rfl ?_)))))
   refine hwp_o rfl (hwq_yes rfl rfl (g_mv rfl rfl (hwp_o rfl (hwq_yes rfl rfl ?_))))
   obtain ⟨a52, e53, hy27⟩ := bs hy27
   obtain ⟨p55, x54⟩ := atI_some' e53
   obtain ⟨b56, o57, ce58, hA59, hF62, hl60, hd61, v63, v64, rfl, h65, h68, r71, z72⟩ := h18.elem x54
   obtain ⟨A66, c67, rfl⟩ := h65.form
   obtain ⟨A69, c70, rfl⟩ := h68.form
   refine g_iaE (hA := hA59) (hj := (Int.toNat_of_nonneg p55).symm) (hlt := hl60) rfl rfl rfl ?_
   refine hwp_o rfl (hwq_yes rfl rfl (g_laB (hl := rfl) (hb := fun w' ⟨O', hq⟩ => (cellsAt_agree (hq.agree (i := 0) (by decide)) hF62 hd61)) rfl rfl ?_))
   refine hwp_nilT ?_
   refine x_one (i := 14) (by kernel_rfl) rfl ?_
   refine owp_yes rfl rfl ?_
   obtain ⟨q73, e74, hy27⟩ := bs hy27
   refine l_callA (O := O23) (A := All w22) (R := fun w' F v => Vb w' F v q73) (c_stubborn_hinders (fun _ h => h) (Vb.mono (F := Fr 0 w22 O23) (Vb.ofAgg (cs := [(.string a31.name), (.int .i64 a31.cost), (.slice A45 a31.pre.length c46), (.slice A48 a31.effs.length c49)]) (x := a31) rfl ⟨_, _, rfl, h44, h47, r50, z51⟩) Fr.lt) (Vb.mono (F := Fr 0 w22 O23) (Vb.ofAgg (cs := [(.string a52.name), (.int .i64 a52.cost), (.slice A66 a52.pre.length c67), (.slice A69 a52.effs.length c70)]) (x := a52) rfl ⟨_, _, rfl, h65, h68, r71, z72⟩) Fr.lt) e74) rfl rfl fun v79 w75 O76 S77 h78 => ?_
   obtain rfl := h78.bool
   have hZ := S77.lst [] (fun _ h => h.elim)
   cases q73
   case false =>
    replace hy27 := iF hy27
    refine x_go [(26, [])] hZ (by kernel_rfl) ?_
    refine x_pre (fuel := 4) [] [(15, true), (16, true), (17, true), (18, true), (19, true), (20, true), (21, true), (22, true), (23, true), (24, true), (25, true)] (by kernel_rfl) rfl ?_
    refine hwp_o rfl (hwq_yes rfl rfl (g_mv rfl rfl (hwp_o rfl (hwq_yes rfl rfl (g_fa rfl rfl (hwp_o rfl (hwq_yes rfl rfl ?_)))))))
    replace h25 := h25.st S77
    refine g_ldC (hc := fun w' ⟨O', hq⟩ => Blk.cell (i := 3) ((h25.st hq (by decide)).1) rfl) rfl rfl ?_
    refine hwp_o rfl (hwq_yes rfl rfl (g_mv rfl rfl (hwp_o rfl (hwq_yes rfl rfl ?_))))
    obtain ⟨a80, e81, hy27⟩ := bs hy27
    obtain ⟨p83, x82⟩ := atI_some' e81
    replace h18 := h18.st S77
    obtain ⟨b84, o85, ce86, hA87, hF90, hl88, hd89, v91, v92, rfl, h93, h96, r99, z100⟩ := h18.elem x82
    obtain ⟨A94, c95, rfl⟩ := h93.form
    obtain ⟨A97, c98, rfl⟩ := h96.form
    refine g_iaE (hA := hA87) (hj := (Int.toNat_of_nonneg p83).symm) (hlt := hl88) rfl rfl rfl ?_
    refine hwp_o rfl (hwq_yes rfl rfl (g_laB (hl := rfl) (hb := fun w' ⟨O', hq⟩ => (cellsAt_agree (hq.agree (i := 0) (by decide)) hF90 hd89)) rfl rfl ?_))
    refine hwp_o rfl (hwq_yes rfl rfl (g_fa rfl rfl (hwp_o rfl (hwq_yes rfl rfl (g_ldC (hc := fun w' ⟨O', hq⟩ => Blk.cell (i := 3) ((h25.st hq (by decide)).1) rfl) rfl rfl ?_)))))
    refine hwp_o rfl (hwq_yes rfl rfl (g_mv rfl rfl (hwp_o rfl (hwq_yes rfl rfl ?_))))
    obtain ⟨a101, e102, hy27⟩ := bs hy27
    obtain ⟨p104, x103⟩ := atI_some' e102
    obtain ⟨b105, o106, ce107, hA108, hF111, hl109, hd110, v112, v113, rfl, h114, h117, r120, z121⟩ := h18.elem x103
    obtain ⟨A115, c116, rfl⟩ := h114.form
    obtain ⟨A118, c119, rfl⟩ := h117.form
    refine g_iaE (hA := hA108) (hj := (Int.toNat_of_nonneg p104).symm) (hlt := hl109) rfl rfl rfl ?_
    refine hwp_o rfl (hwq_yes rfl rfl (g_laB (hl := rfl) (hb := fun w' ⟨O', hq⟩ => (cellsAt_agree (hq.agree (i := 0) (by decide)) hF111 hd110)) rfl rfl ?_))
    refine hwp_nilT ?_
    refine x_one (i := 26) (by kernel_rfl) rfl ?_
    refine owp_yes rfl rfl ?_
    obtain ⟨q122, e123, hy27⟩ := bs hy27
    refine l_callA (O := O76) (A := All w75) (R := fun w' F v => Vb w' F v q122) (c_stubborn_hinders (fun _ h => h) (Vb.mono (F := Fr 0 w75 O76) (Vb.ofAgg (cs := [(.string a80.name), (.int .i64 a80.cost), (.slice A94 a80.pre.length c95), (.slice A97 a80.effs.length c98)]) (x := a80) rfl ⟨_, _, rfl, h93, h96, r99, z100⟩) Fr.lt) (Vb.mono (F := Fr 0 w75 O76) (Vb.ofAgg (cs := [(.string a101.name), (.int .i64 a101.cost), (.slice A115 a101.pre.length c116), (.slice A118 a101.effs.length c119)]) (x := a101) rfl ⟨_, _, rfl, h114, h117, r120, z121⟩) Fr.lt) e123) rfl rfl fun v128 w124 O125 S126 h127 => ?_
    obtain rfl := h127.bool
    have hZ := S126.lst [] (fun _ h => h.elim)
    cases q122
    case false =>
     replace hy27 := iF hy27
     refine x_go [] hZ (by kernel_rfl) ?_
     refine x_pre (fuel := 0) [] [(27, true), (28, true), (29, true)] (by kernel_rfl) rfl ?_
     refine hwp_o rfl (hwq_yes rfl rfl (g_pf rfl rfl rfl (h_pt rfl rfl rfl rfl (h_as rfl rfl rfl (hwp_nilT ?_)))))
     refine x_nil (by kernel_rfl) ?_
     obtain rfl := sm hy27
     replace hB := ((hB.st S24).st S77).st S126
     exact ⟨(), _, ⟨rfl, trivial⟩, hB⟩
    replace hy27 := iT hy27
    refine x_go [] hZ (by kernel_rfl) ?_
    refine x_pre (fuel := 0) [] [(27, true), (28, true), (29, true)] (by kernel_rfl) rfl ?_
    refine hwp_o rfl (hwq_yes rfl rfl (g_pf rfl rfl rfl (h_pt rfl rfl rfl rfl (h_as rfl rfl rfl (hwp_nilT ?_)))))
    refine x_nil (by kernel_rfl) ?_
    obtain rfl := sm hy27
    replace hB := ((hB.st S24).st S77).st S126
    exact ⟨(), _, ⟨rfl, trivial⟩, hB⟩
   replace hy27 := iT hy27
   refine x_go [(26, [])] hZ (by kernel_rfl) ?_
   refine x_pre (fuel := 4) [] [(15, true), (16, true), (17, true), (18, true), (19, true), (20, true), (21, true), (22, true), (23, true), (24, true), (25, true)] (by kernel_rfl) rfl ?_
   refine hwp_o rfl (hwq_yes rfl rfl (g_mv rfl rfl (h_no rfl rfl rfl rfl rfl (h_no rfl rfl rfl rfl rfl (h_no rfl rfl rfl rfl rfl (h_no rfl rfl rfl rfl rfl (h_no rfl rfl rfl rfl rfl (h_no rfl rfl rfl rfl rfl (h_no rfl rfl rfl rfl rfl (h_no rfl rfl rfl rfl rfl (h_no rfl rfl rfl rfl rfl (h_no rfl rfl rfl rfl rfl (hwp_nilT ?_)))))))))))))
   refine x_one (i := 26) (by kernel_rfl) rfl ?_
   refine owp_no rfl rfl rfl rfl (x_go [] ((St.refl nT _ _).lst [] (fun _ h => h.elim)) (by kernel_rfl) ?_)
   refine x_pre (fuel := 0) [] [(27, true), (28, true), (29, true)] (by kernel_rfl) rfl ?_
   refine hwp_o rfl (hwq_yes rfl rfl (g_pt rfl rfl rfl (h_pt rfl rfl rfl rfl (h_as rfl rfl rfl (hwp_nilT ?_)))))
   refine x_nil (by kernel_rfl) ?_
   obtain rfl := sm hy27
   replace hB := (hB.st S24).st S77
   exact ⟨(), _, ⟨rfl, trivial⟩, hB⟩
  ·
   replace hy27 := im hy27 c30
   refine h_mv rfl rfl rfl (h_no rfl rfl rfl rfl rfl (h_no rfl rfl rfl rfl rfl (h_no rfl rfl rfl rfl rfl (h_no rfl rfl rfl rfl rfl (h_no rfl rfl rfl rfl rfl (h_no rfl rfl rfl rfl rfl (h_no rfl rfl rfl rfl rfl (h_no rfl rfl rfl rfl rfl (h_no rfl rfl rfl rfl rfl (h_no rfl rfl rfl rfl rfl (hwp_nilT ?_)))))))))))
   refine x_one (i := 14) (by kernel_rfl) rfl ?_
   refine owp_no rfl rfl rfl rfl (x_go [(26, [])] ((St.refl nT _ _).lst [] (fun _ h => h.elim)) (by kernel_rfl) ?_)
   refine x_pre (fuel := 4) [] [(15, true), (16, true), (17, true), (18, true), (19, true), (20, true), (21, true), (22, true), (23, true), (24, true), (25, true)] (by kernel_rfl) rfl ?_
   refine h_no rfl rfl rfl rfl rfl (h_no rfl rfl rfl rfl rfl (h_no rfl rfl rfl rfl rfl (h_no rfl rfl rfl rfl rfl (h_no rfl rfl rfl rfl rfl (h_no rfl rfl rfl rfl rfl (h_no rfl rfl rfl rfl rfl (h_no rfl rfl rfl rfl rfl (h_no rfl rfl rfl rfl rfl (h_no rfl rfl rfl rfl rfl (h_no rfl rfl rfl rfl rfl (hwp_nilT ?_)))))))))))
   refine x_one (i := 26) (by kernel_rfl) rfl ?_
   refine owp_no rfl rfl rfl rfl (x_go [] ((St.refl nT _ _).lst [] (fun _ h => h.elim)) (by kernel_rfl) ?_)
   refine x_pre (fuel := 0) [] [(27, true), (28, true), (29, true)] (by kernel_rfl) rfl ?_
   refine h_no rfl rfl rfl rfl rfl (h_pf rfl rfl rfl rfl (h_as rfl rfl rfl (hwp_nilT ?_)))
   refine x_nil (by kernel_rfl) ?_
   obtain rfl := sm hy27
   replace hB := hB.st S24
   exact ⟨(), _, ⟨rfl, trivial⟩, hB⟩
 replace hB := hB.st S24
 rintro l129 w130 ⟨x29, O131, hs132, hB⟩
 refine ewp_sub _ hs132 ?_
 refine ewp_ret ?_
 obtain rfl := sm hm
 exact ret1v rfl (res_tmp rfl) ⟨hB.ext, vBool⟩
noncomputable def m_stubborn_missing (x0 : List Fct) (x1 : List Int) : Option (Fct × Bool) :=
  bnd (rng (ρ := Fct × Bool) (fun (k18 : Nat) (a19 : Fct) (s16 : Unit) => bnd (atI x1 a19.var) fun a45 => if a45 ≠ a19.val then (some (.ret (a19, true))) else (some (.next ()))) x0 0 ()) fun res14 => fin res14 fun (s64 : Unit) => some ((⟨0, 0⟩ : Fct), false)
theorem c_stubborn_missing {w : World} {A : Nat → Prop} (hA : ∀ k, A k → k < w.heap.size) {vx0 : Value} {x0 : List Fct} (hx0 : Vb w A vx0 x0) {vx1 : Value} {x1 : List Int} (hx1 : Vb w A vx1 x1) {r : Fct × Bool} (hm : m_stubborn_missing x0 x1 = some r) :
    Fn Try.prog 53 [vx0, vx1] w fun v w' => Ext w w' ∧ T2 w' (upA A w w') v r := by
 obtain ⟨O, hB, hA0⟩ := enter hA
 replace hx0 := hx0.mono hA0
 obtain ⟨A3, c4, rfl⟩ := hx0.form
 replace hx1 := hx1.mono hA0
 obtain ⟨A5, c6, rfl⟩ := hx1.form
 refine fn_enter Try.func53 rfl Try.ntmps53 rfl ?_
 unfold m_stubborn_missing at hm
 refine ewp_seq (ewp_region (l_alloc 2 O rfl fun g7 w8 O9 S10 h11 => ?_))
 refine o_as rfl rfl (o_z ?_)
 refine ewp_seq (ewp_seq (ewp_region (o_mv rfl rfl (o_ln rfl rfl ?_))))
 replace hx0 := hx0.st S10
 have l13 : x0.length ≤ 9223372036854775807 := Nat.le_trans hx0.len.2.1 hx0.len.2.2
 have r12 : inI64 (x0.length : Int) := rngNat l13
 refine o_mv rfl rfl (o_z ?_)
 obtain ⟨res14, hL15, hm⟩ := bs hm
 refine ewp_join (aft res14 (fun (s16 : Unit) (x17 : Unit) => [(4, (.pointer (some ⟨g7, 0, none⟩)))]) (fun s16 x17 w' => ∃ O' : Lab, Bs w A w' O' ∧ Lc 2 w' O' g7 68 [(.int .i64 0), (.int .i64 0)])) ?_ ?_
 ·
  refine ewp_block ?_
  replace hB := hB.st S10
  replace hx1 := hx1.st S10
  refine ewp_rng (σ := Unit) (X := Unit) (x0.length) hL15 rfl l13 (fun (s16 : Unit) (x17 : Unit) => [(1, (.slice A5 x1.length c6)), (4, (.pointer (some ⟨g7, 0, none⟩))), (8, (.slice A3 x0.length c4))]) _ (fun s16 x17 w' => ∃ O' : Lab, Bs w A w' O' ∧ Vb w' (Fr 0 w' O') (.slice A5 x1.length c6) x1 ∧ Lc 2 w' O' g7 68 [(.int .i64 0), (.int .i64 0)] ∧ Vb w' (Fr 0 w' O') (.slice A3 x0.length c4) x0) _ () ⟨O9, hB, hx1, h11, hx0⟩ ⟨rfl, rfl, rfl, rfl, rfl, trivial⟩ (fun _ _ => ⟨rfl, rfl⟩) (fun _ _ => ⟨rfl, trivial⟩) (fun _ _ _ ⟨O', hB, hx1, h11, hx0⟩ => ⟨O', hB, h11⟩) ⟨rfl, rfl, rfl⟩ ⟨rfl, rfl⟩ ?_
  rintro k18 a19 s16 x17 w20 cc22 hx23 ⟨O21, hB, hx1, h11, hx0⟩ hf24 hret25 hbrk26
  have rk18 : inI64 (k18 : Int) := rngK hx23 l13
  refine ewp_seq (ewp_region ?_)
  obtain ⟨b29, o30, ce31, hA32, hl33, hd34, rfl, r36, r37⟩ := hx0.elem' hx23
  refine o_iaE (hA := hA32) (hj := rfl) (hlt := hl33) rfl rfl rfl ?_
  refine o_la (hl := rfl) (hc := hd34) rfl rfl ?_
  refine l_alloc 3 O21 rfl fun g38 w39 O40 S41 h42 => ?_
  refine l_store h42 rfl rfl rfl (Nat.le_of_ble_eq_true rfl) (by first | exact allOne rfl | simp [Value.cells, Value.oneCell', errV_one]) fun w43 S44 h42 => ?_
  replace h42 : Lc 3 w43 O40 g38 68 [(.int .i64 a19.var), (.int .i64 a19.val)] := h42
  refine o_z ?_
  refine ewp_seq (ewp_draw (· = w43) [(0, true), (1, true), (2, true), (3, true), (4, true), (5, true), (6, true), (7, true)] (by kernel_rfl) rfl (by kernel_rfl) rfl ?_)
  refine h_mv rfl rfl rfl (h_fa rfl rfl rfl (h_ldA (hc := Blk.cell (i := 0) (h42.1) rfl) rfl rfl rfl ?_))
  obtain ⟨a45, e46, hf24⟩ := bs hf24
  obtain ⟨p48, x47⟩ := atI_some' e46
  replace hx1 := (hx1.st S41).st S44
  obtain ⟨b49, o50, ce51, hA52, hl53, hd54, rfl, r56⟩ := hx1.elem' x47
  refine h_iaE (hA := hA52) (hj := (Int.toNat_of_nonneg p48).symm) (hlt := hl53) rfl rfl rfl rfl ?_
  refine h_ldA (hc := cat0 hd54) rfl rfl rfl ?_
  refine h_fa rfl rfl rfl (h_ldA (hc := Blk.cell (i := 1) (h42.1) rfl) rfl rfl rfl ?_)
  refine h_neS rfl rfl rfl rfl (fun c57 => ?_) fun c57 => ?_
  ·
   replace hf24 := ip hf24 c57
   refine h_z ?_
   refine ewp_true rfl (ewp_seq (ewp_region (o_la (hl := rfl) (hc := (h42.1).cellsAt) rfl rfl ?_)))
   replace h11 := (h11.st S41).st S44
   refine l_store h11 rfl rfl rfl (Nat.le_of_ble_eq_true rfl) (by first | exact allOne rfl | simp [Value.cells, Value.oneCell', errV_one]) fun w58 S59 h11 => ?_
   replace h11 : Lc 2 w58 O40 g7 68 [(.int .i64 a19.var), (.int .i64 a19.val)] := h11
   refine o_as rfl rfl (o_z ?_)
   refine ewp_ret ?_
   obtain rfl := sm hf24
   obtain rfl := hret25 _ rfl
   obtain rfl := sm (fin_ret hm)
   replace hB := ((hB.st S41).st S44).st S59
   exact ret2 rfl (res_cell (cs := [(.int .i64 a19.var), (.int .i64 a19.val)]) rfl rfl h11.1.cellsAt) (res_tmp rfl) ⟨hB.ext, _, _, rfl, (Vb.ofAgg (cs := [(.int .i64 a19.var), (.int .i64 a19.val)]) (x := a19) rfl ⟨rfl, r36, r37⟩), vBool⟩
  ·
   replace hf24 := im hf24 c57
   refine h_z ?_
   refine ewp_false rfl (ewp_skip ?_)
   obtain rfl := sm hf24
   refine (?_ : Exists _)
   replace hx0 := (hx0.st S41).st S44
   replace hB := (hB.st S41).st S44
   replace h11 := (h11.st S41).st S44
   exact ⟨_, (), rfl, ⟨rfl, rfl, rfl, rfl, rfl, trivial⟩, _, hB, hx1, h11, hx0⟩
 replace hB := hB.st S10
 rintro l60 w61 ⟨s64, x65, rfl, hs63, O62, hB, h11⟩
 replace hm := fin_done hm
 refine ewp_sub _ hs63 ?_
 refine ewp_seq (ewp_region (o_bd rfl rfl rfl ?_))
 refine l_store h11 rfl rfl rfl (Nat.le_of_ble_eq_true rfl) (by first | exact allOne rfl | simp [Value.cells, Value.oneCell', errV_one]) fun w66 S67 h11 => ?_
 replace h11 : Lc 2 w66 O62 g7 68 [(.int .i64 0), (.int .i64 0)] := h11
 refine o_as rfl rfl (o_z ?_)
 refine ewp_ret ?_
 obtain rfl := sm hm
 replace hB := hB.st S67
 exact ret2 rfl (res_cell (cs := [(.int .i64 0), (.int .i64 0)]) rfl rfl h11.1.cellsAt) (res_tmp rfl) ⟨hB.ext, _, _, rfl, (Vb.ofAgg (cs := [(.int .i64 0), (.int .i64 0)]) (x := (⟨0, 0⟩ : Fct)) rfl ⟨rfl, (show inI64 0 from by decide), (show inI64 0 from by decide)⟩), vBool⟩
noncomputable def m_stubborn_writers_l1 (x0 : Eff) (y0 : Fct) : Option Bool :=
  bnd (if x0.var = y0.var then (if x0.val = y0.val then (some true) else (some false)) else (some false) : Option Bool) fun y16 => some y16
theorem c_stubborn_writers_l1 {w : World} {A : Nat → Prop} (hA : ∀ k, A k → k < w.heap.size) {vx0 : Value} {x0 : Eff} (hx0 : Vb w A vx0 x0) {py0 : Nat} {csy0 : List Value} {y0 : Fct} (hby0 : Blk w py0 68 csy0) (hay0 : A py0) (hcy0 : Rp.R w A csy0 y0) {r : Bool} (hm : m_stubborn_writers_l1 x0 y0 = some r) :
    Fn Try.prog 71 [vx0, (.pointer (some ⟨py0, 0, none⟩))] w fun v w' => Ext w w' ∧ Vb w' (upA A w w') v r := by
 obtain ⟨O, hB, hA0⟩ := enter hA
 have hLy0 : Lc 0 w O py0 68 csy0 := ⟨hby0, (hA0 py0 hay0).2⟩
 replace hcy0 := Rp.mono hcy0 hA0
 obtain ⟨rfl, r2, r3⟩ := hcy0
 replace hx0 := hx0.mono hA0
 obtain ⟨cs4, rfl, v5, rfl, h6, r9, r10⟩ := hx0
 obtain ⟨A7, c8, rfl⟩ := h6.form
 refine fn_enter Try.func71 rfl Try.ntmps71 rfl ?_
 unfold m_stubborn_writers_l1 at hm
 refine ewp_seq (ewp_region (l_box 2 O rfl rfl fun g11 w12 O13 S14 h15 => ?_))
 replace h15 : Lc 2 w12 O13 g11 77 [(.slice A7 x0.cond.length c8), (.int .i64 x0.var), (.int .i64 x0.val)] := h15
 refine o_as rfl rfl (o_z ?_)
 refine ewp_seq ?_
 obtain ⟨y16, hy17, hm⟩ := bs hm
 refine ewp_join (fun l' w' => ∃ (x19 : Unit) (O' : Lab), subs l' [(3, (.bool y16))] ∧ Bs w A w' O') ?_ ?_
 ·
  refine ewp_region (o_fa rfl rfl (o_ld (hc := Blk.cell (i := 1) (h15.1) rfl) rfl rfl ?_))
  refine o_fa rfl rfl ?_
  replace hLy0 := hLy0.st S14
  refine o_ld (hc := Blk.cell (i := 0) (hLy0.1) rfl) rfl rfl ?_
  refine o_eeS rfl rfl rfl (fun c20 => ?_) fun c20 => ?_
  ·
   replace hy17 := ip hy17 c20
   refine o_mv rfl rfl (owp_yes rfl rfl (o_fa rfl rfl (owp_yes rfl rfl (o_ld (hc := Blk.cell (i := 2) (h15.1) rfl) rfl rfl ?_))))
   refine owp_yes rfl rfl (o_fa rfl rfl (owp_yes rfl rfl (o_ld (hc := Blk.cell (i := 1) (hLy0.1) rfl) rfl rfl ?_)))
   refine owp_yes rfl rfl (o_eeS rfl rfl rfl (fun c21 => ?_) fun c21 => ?_)
   ·
    replace hy17 := ip hy17 c21
    refine o_pt rfl rfl rfl (o_as rfl rfl (o_z ?_))
    obtain rfl := sm hy17
    replace hB := hB.st S14
    exact ⟨(), _, ⟨rfl, trivial⟩, hB⟩
   ·
    replace hy17 := im hy17 c21
    refine o_pt rfl rfl rfl (o_as rfl rfl (o_z ?_))
    obtain rfl := sm hy17
    replace hB := hB.st S14
    exact ⟨(), _, ⟨rfl, trivial⟩, hB⟩
  ·
   replace hy17 := im hy17 c20
   refine o_mv rfl rfl (owp_no rfl rfl rfl rfl (owp_no rfl rfl rfl rfl (owp_no rfl rfl rfl rfl (owp_no rfl rfl rfl rfl (owp_no rfl rfl rfl rfl (o_pf rfl rfl rfl (o_as rfl rfl (o_z ?_))))))))
   obtain rfl := sm hy17
   replace hB := hB.st S14
   exact ⟨(), _, ⟨rfl, trivial⟩, hB⟩
 replace hB := hB.st S14
 rintro l22 w23 ⟨x19, O24, hs25, hB⟩
 refine ewp_sub _ hs25 ?_
 refine ewp_ret ?_
 obtain rfl := sm hm
 exact ret1v rfl (res_tmp rfl) ⟨hB.ext, vBool⟩
noncomputable def m_slices_IndexFunc_Lapi_Effect_api_Effect__stubborn_writers_l1 (x0 : List Eff) (y0 : Fct) : Option Int :=
  bnd (rng (ρ := Int) (fun (k13 : Nat) (a14 : Eff) (s11 : Unit) => bnd (m_stubborn_writers_l1 a14 y0) fun q37 => if q37 = true then some (.ret (k13 : Int)) else some (.next ())) x0 0 ()) fun res9 => fin res9 fun (s48 : Unit) => some (-1)
theorem c_slices_IndexFunc_Lapi_Effect_api_Effect__stubborn_writers_l1 {w : World} {A : Nat → Prop} (hA : ∀ k, A k → k < w.heap.size) {vx0 : Value} {x0 : List Eff} (hx0 : Vb w A vx0 x0) {py0 : Nat} {csy0 : List Value} {y0 : Fct} (hby0 : Blk w py0 68 csy0) (hay0 : A py0) (hcy0 : Rp.R w A csy0 y0) {r : Int} (hm : m_slices_IndexFunc_Lapi_Effect_api_Effect__stubborn_writers_l1 x0 y0 = some r) :
    Fn Try.prog 84 [vx0, (.func (.func 71) #[] #[(.pointer (some ⟨py0, 0, none⟩))])] w fun v w' => Ext w w' ∧ Vb w' (upA A w w') v r := by
 obtain ⟨O, hB, hA0⟩ := enter hA
 have hLy0 : Lc 0 w O py0 68 csy0 := ⟨hby0, (hA0 py0 hay0).2⟩
 replace hcy0 := Rp.mono hcy0 hA0
 obtain ⟨rfl, r3, r4⟩ := hcy0
 replace hx0 := hx0.mono hA0
 obtain ⟨A5, c6, rfl⟩ := hx0.form
 refine fn_enter Try.func84 rfl Try.ntmps84 rfl ?_
 unfold m_slices_IndexFunc_Lapi_Effect_api_Effect__stubborn_writers_l1 at hm
 refine ewp_seq (ewp_region (o_as rfl rfl (o_z ?_)))
 refine ewp_seq (ewp_seq (ewp_region (o_mv rfl rfl (o_ln rfl rfl ?_))))
 have l8 : x0.length ≤ 9223372036854775807 := Nat.le_trans hx0.len.2.1 hx0.len.2.2
 have r7 : inI64 (x0.length : Int) := rngNat l8
 refine o_mv rfl rfl (o_z ?_)
 obtain ⟨res9, hL10, hm⟩ := bs hm
 refine ewp_join (aft res9 (fun (s11 : Unit) (x12 : Unit) => []) (fun s11 x12 w' => ∃ O' : Lab, Bs w A w' O')) ?_ ?_
 ·
  refine ewp_block (ewp_rng (σ := Unit) (X := Unit) (x0.length) hL10 rfl l8 (fun (s11 : Unit) (x12 : Unit) => [(0, (.slice A5 x0.length c6)), (1, (.func (.func 71) #[] #[(.pointer (some ⟨py0, 0, none⟩))]))]) _ (fun s11 x12 w' => ∃ O' : Lab, Bs w A w' O' ∧ Vb w' (Fr 0 w' O') (.slice A5 x0.length c6) x0 ∧ Lc 0 w' O' py0 68 [(.int .i64 y0.var), (.int .i64 y0.val)]) _ () ⟨O, hB, hx0, hLy0⟩ ⟨rfl, rfl, rfl, rfl, trivial⟩ (fun _ _ => ⟨rfl, rfl⟩) (fun _ _ => trivial) (fun _ _ _ ⟨O', hB, hx0, hLy0⟩ => ⟨O', hB⟩) ⟨rfl, rfl, rfl⟩ ⟨rfl, rfl⟩ ?_)
  rintro k13 a14 s11 x12 w15 cc17 hx18 ⟨O16, hB, hx0, hLy0⟩ hf19 hret20 hbrk21
  have rk13 : inI64 (k13 : Int) := rngK hx18 l8
  refine ewp_seq (ewp_region (o_mv rfl rfl (o_as rfl rfl (o_z ?_))))
  refine ewp_seq (ewp_region (o_mv rfl rfl (o_mv rfl rfl (o_mv rfl rfl ?_))))
  obtain ⟨b24, o25, ce26, hA27, hl28, hd29, v31, rfl, h32, r35, r36⟩ := hx0.elem' hx18
  obtain ⟨A33, c34, rfl⟩ := h32.form
  refine o_iaE (hA := hA27) (hj := rfl) (hlt := hl28) rfl rfl rfl ?_
  refine o_la (hl := rfl) (hc := hd29) rfl rfl ?_
  obtain ⟨q37, e38, hf19⟩ := bs hf19
  refine l_callAw (O := O16) (A := All w15) (R := fun w' F v => Vb w' F v q37) (c_stubborn_writers_l1 (fun _ h => h) (Vb.mono (F := Fr 0 w15 O16) (Vb.ofAgg (cs := [(.slice A33 a14.cond.length c34), (.int .i64 a14.var), (.int .i64 a14.val)]) (x := a14) rfl ⟨_, rfl, h32, r35, r36⟩) Fr.lt) hLy0.1 hLy0.1.lt (Rp.mono (F := Fr 0 w15 O16) (x := y0) ⟨rfl, r3, r4⟩ Fr.lt) e38) rfl rfl rfl rfl fun v43 w39 O40 S41 h42 => ?_
  obtain rfl := h42.bool
  cases q37
  case false =>
   replace hf19 := iF hf19
   refine o_z ?_
   refine ewp_false rfl (ewp_skip ?_)
   obtain rfl := sm hf19
   refine (?_ : Exists _)
   replace hx0 := hx0.st S41
   replace hB := hB.st S41
   replace hLy0 := hLy0.st S41
   exact ⟨_, (), rfl, ⟨rfl, rfl, rfl, rfl, trivial⟩, _, hB, hx0, hLy0⟩
  replace hf19 := iT hf19
  refine o_z ?_
  refine ewp_true rfl (ewp_seq (ewp_region (o_mv rfl rfl (o_as rfl rfl (o_z ?_)))))
  refine ewp_ret ?_
  obtain rfl := sm hf19
  obtain rfl := hret20 _ rfl
  obtain rfl := sm (fin_ret hm)
  replace hB := hB.st S41
  exact ret1v rfl (res_tmp rfl) ⟨hB.ext, (vInt rk13)⟩
 rintro l44 w45 ⟨s48, x49, rfl, hs47, O46, hB⟩
 replace hm := fin_done hm
 refine ewp_sub _ hs47 ?_
 refine ewp_seq (ewp_region (o_as rfl rfl (o_z ?_)))
 refine ewp_ret ?_
 obtain rfl := sm hm
 exact ret1v rfl (res_tmp rfl) ⟨hB.ext, (vInt (show inI64 (-1) from by decide))⟩
noncomputable def m_slices_ContainsFunc_Lapi_Effect_api_Effect__stubborn_writers_l1 (x0 : List Eff) (y0 : Fct) : Option Bool :=
  bnd (bnd (m_slices_IndexFunc_Lapi_Effect_api_Effect__stubborn_writers_l1 x0 y0) fun q11 => if 0 ≤ q11 then (some true) else (some false) : Option Bool) fun y7 => some y7
theorem c_slices_ContainsFunc_Lapi_Effect_api_Effect__stubborn_writers_l1 {w : World} {A : Nat → Prop} (hA : ∀ k, A k → k < w.heap.size) {vx0 : Value} {x0 : List Eff} (hx0 : Vb w A vx0 x0) {py0 : Nat} {csy0 : List Value} {y0 : Fct} (hby0 : Blk w py0 68 csy0) (hay0 : A py0) (hcy0 : Rp.R w A csy0 y0) {r : Bool} (hm : m_slices_ContainsFunc_Lapi_Effect_api_Effect__stubborn_writers_l1 x0 y0 = some r) :
    Fn Try.prog 70 [vx0, (.func (.func 71) #[] #[(.pointer (some ⟨py0, 0, none⟩))])] w fun v w' => Ext w w' ∧ Vb w' (upA A w w') v r := by
 obtain ⟨O, hB, hA0⟩ := enter hA
 have hLy0 : Lc 0 w O py0 68 csy0 := ⟨hby0, (hA0 py0 hay0).2⟩
 replace hcy0 := Rp.mono hcy0 hA0
 obtain ⟨rfl, r3, r4⟩ := hcy0
 replace hx0 := hx0.mono hA0
 obtain ⟨A5, c6, rfl⟩ := hx0.form
 refine fn_enter Try.func70 rfl Try.ntmps70 rfl ?_
 unfold m_slices_ContainsFunc_Lapi_Effect_api_Effect__stubborn_writers_l1 at hm
 refine ewp_seq (ewp_region (o_as rfl rfl (o_z ?_)))
 refine ewp_seq ?_
 obtain ⟨y7, hy8, hm⟩ := bs hm
 refine ewp_join (fun l' w' => ∃ (x10 : Unit) (O' : Lab), subs l' [(4, (.bool y7))] ∧ Bs w A w' O') ?_ ?_
 ·
  refine ewp_region (o_mv rfl rfl (o_mv rfl rfl ?_))
  obtain ⟨q11, e12, hy8⟩ := bs hy8
  refine l_callA (O := O) (A := All w) (R := fun w' F v => Vb w' F v q11) (c_slices_IndexFunc_Lapi_Effect_api_Effect__stubborn_writers_l1 (fun _ h => h) (Vb.mono (F := Fr 0 w O) hx0 Fr.lt) hLy0.1 hLy0.1.lt (Rp.mono (F := Fr 0 w O) (x := y0) ⟨rfl, r3, r4⟩ Fr.lt) e12) rfl rfl fun v17 w13 O14 S15 h16 => ?_
  obtain ⟨rfl, r18⟩ := h16.int
  refine o_geS rfl rfl rfl (fun c19 => ?_) fun c19 => ?_
  ·
   replace hy8 := ip hy8 c19
   refine o_as rfl rfl (o_z ?_)
   obtain rfl := sm hy8
   replace hB := hB.st S15
   exact ⟨(), _, ⟨rfl, trivial⟩, hB⟩
  ·
   replace hy8 := im hy8 c19
   refine o_as rfl rfl (o_z ?_)
   obtain rfl := sm hy8
   replace hB := hB.st S15
   exact ⟨(), _, ⟨rfl, trivial⟩, hB⟩
 rintro l20 w21 ⟨x10, O22, hs23, hB⟩
 refine ewp_sub _ hs23 ?_
 refine ewp_ret ?_
 obtain rfl := sm hm
 exact ret1v rfl (res_tmp rfl) ⟨hB.ext, vBool⟩
noncomputable def m_stubborn_writers (x0 : Tsk) (x1 : Fct) : Option (List Int) :=
  bnd (rng (ρ := (List Int)) (fun (k39 : Nat) (a40 : Opr) (s37 : (List Int)) => bnd (m_slices_ContainsFunc_Lapi_Effect_api_Effect__stubborn_writers_l1 a40.effs x1) fun q78 => if q78 = true then bnd (appI 8 s37 [(k39 : Int)]) fun u85 => some (.next u85) else some (.next s37)) x0.ops 0 ([] : List Int)) fun res35 => fin res35 fun (s101 : (List Int)) => some s101
theorem c_stubborn_writers {w : World} {A : Nat → Prop} (hA : ∀ k, A k → k < w.heap.size) {vx0 : Value} {x0 : Tsk} (hx0 : Vb w A vx0 x0) {vx1 : Value} {x1 : Fct} (hx1 : Vb w A vx1 x1) {r : (List Int)} (hm : m_stubborn_writers x0 x1 = some r) :
    Fn Try.prog 54 [vx0, vx1] w fun v w' => Ext w w' ∧ Vb w' (upA A w w') v r := by
 obtain ⟨O, hB, hA0⟩ := enter hA
 replace hx0 := hx0.mono hA0
 obtain ⟨cs3, rfl, v4, v5, v6, v7, rfl, h8, h11, h14, h17⟩ := hx0
 obtain ⟨A9, c10, rfl⟩ := h8.form
 obtain ⟨A12, c13, rfl⟩ := h11.form
 obtain ⟨A15, c16, rfl⟩ := h14.form
 obtain ⟨A18, c19, rfl⟩ := h17.form
 replace hx1 := hx1.mono hA0
 obtain ⟨cs20, rfl, rfl, r21, r22⟩ := hx1
 refine fn_enter Try.func54 rfl Try.ntmps54 rfl ?_
 unfold m_stubborn_writers at hm
 refine ewp_seq (ewp_region (l_box 2 O rfl rfl fun g23 w24 O25 S26 h27 => ?_))
 replace h27 : Lc 2 w24 O25 g23 26 [(.slice A9 x0.vars.length c10), (.slice A12 x0.init.length c13), (.slice A15 x0.goal.length c16), (.slice A18 x0.ops.length c19)] := h27
 refine l_box 3 O25 rfl rfl fun g28 w29 O30 S31 h32 => ?_
 replace h32 : Lc 3 w29 O30 g28 68 [(.int .i64 x1.var), (.int .i64 x1.val)] := h32
 refine o_as rfl rfl (o_z ?_)
 refine ewp_seq (ewp_region (o_as rfl rfl (o_z ?_)))
 refine ewp_seq (ewp_seq (ewp_region (o_fa rfl rfl ?_)))
 replace h27 := h27.st S31
 refine o_ld (hc := Blk.cell (i := 3) (h27.1) rfl) rfl rfl ?_
 refine o_ln rfl rfl ?_
 replace h17 := (h17.st S26).st S31
 have l34 : x0.ops.length ≤ 9223372036854775807 := Nat.le_trans h17.len.2.1 h17.len.2.2
 have r33 : inI64 (x0.ops.length : Int) := rngNat l34
 refine o_mv rfl rfl (o_z ?_)
 obtain ⟨res35, hL36, hm⟩ := bs hm
 refine ewp_join (aft res35 (fun (s37 : (List Int)) (x38 : (Option Addr × Nat)) => [(5, (.slice x38.1 s37.length x38.2))]) (fun s37 x38 w' => ∃ O' : Lab, Bs w A w' O' ∧ Rw 5 w' O' 3 (.slice x38.1 s37.length x38.2) s37)) ?_ ?_
 ·
  refine ewp_block ?_
  replace hB := (hB.st S26).st S31
  refine ewp_rng (σ := (List Int)) (X := (Option Addr × Nat)) (x0.ops.length) hL36 rfl l34 (fun (s37 : (List Int)) (x38 : (Option Addr × Nat)) => [(3, (.pointer (some ⟨g28, 0, none⟩))), (5, (.slice x38.1 s37.length x38.2)), (9, (.slice A18 x0.ops.length c19))]) _ (fun s37 x38 w' => ∃ O' : Lab, Bs w A w' O' ∧ Lc 3 w' O' g28 68 [(.int .i64 x1.var), (.int .i64 x1.val)] ∧ Rw 5 w' O' 3 (.slice x38.1 s37.length x38.2) s37 ∧ Vb w' (Fr 0 w' O') (.slice A18 x0.ops.length c19) x0.ops) _ (none, 0) ⟨O30, hB, h32, (Rw.nil 5 (by decide)), h17⟩ ⟨rfl, rfl, rfl, rfl, rfl, trivial⟩ (fun _ _ => ⟨rfl, rfl⟩) (fun _ _ => ⟨rfl, trivial⟩) (fun _ _ _ ⟨O', hB, h32, h52, h17⟩ => ⟨O', hB, h52⟩) ⟨rfl, rfl, rfl⟩ ⟨rfl, rfl⟩ ?_
  rintro k39 a40 s37 x38 w41 cc43 hx44 ⟨O42, hB, h32, h52, h17⟩ hf45 hret46 hbrk47
  have rk39 : inI64 (k39 : Int) := rngK hx44 l34
  refine ewp_seq (ewp_region (o_mv rfl rfl ?_))
  obtain ⟨b54, o55, ce56, hA57, hl58, hd59, v61, v62, rfl, h63, h66, r69, z70⟩ := h17.elem' hx44
  obtain ⟨A64, c65, rfl⟩ := h63.form
  obtain ⟨A67, c68, rfl⟩ := h66.form
  refine o_iaE (hA := hA57) (hj := rfl) (hlt := hl58) rfl rfl rfl ?_
  refine o_la (hl := rfl) (hc := hd59) rfl rfl ?_
  refine l_alloc 4 O42 rfl fun g71 w72 O73 S74 h75 => ?_
  refine o_as rfl rfl (l_store h75 rfl rfl rfl (Nat.le_of_ble_eq_true rfl) (by first | exact allOne rfl | simp [Value.cells, Value.oneCell', errV_one]) fun w76 S77 h75 => ?_)
  replace h75 : Lc 4 w76 O73 g71 48 [(.string a40.name), (.int .i64 a40.cost), (.slice A64 a40.pre.length c65), (.slice A67 a40.effs.length c68)] := h75
  refine o_z ?_
  refine ewp_seq (ewp_region (o_fa rfl rfl (o_ld (hc := Blk.cell (i := 3) (h75.1) rfl) rfl rfl ?_)))
  refine o_mf rfl rfl rfl ?_
  obtain ⟨q78, e79, hf45⟩ := bs hf45
  replace h32 := (h32.st S74).st S77
  replace h66 := (h66.st S74).st S77
  refine l_callA (O := O73) (A := All w76) (R := fun w' F v => Vb w' F v q78) (c_slices_ContainsFunc_Lapi_Effect_api_Effect__stubborn_writers_l1 (fun _ h => h) (Vb.mono (F := Fr 0 w76 O73) h66 Fr.lt) h32.1 h32.1.lt (Rp.mono (F := Fr 0 w76 O73) (x := x1) ⟨rfl, r21, r22⟩ Fr.lt) e79) rfl rfl fun v84 w80 O81 S82 h83 => ?_
  obtain rfl := h83.bool
  cases q78
  case false =>
   replace hf45 := iF hf45
   refine o_z ?_
   refine ewp_false rfl (ewp_skip ?_)
   obtain rfl := sm hf45
   refine (?_ : Exists _)
   replace hB := ((hB.st S74).st S77).st S82
   replace h17 := ((h17.st S74).st S77).st S82
   replace h32 := h32.st S82
   replace h52 := ((h52.st S74).st S77).st S82
   exact ⟨_, (x38.1, x38.2), rfl, ⟨rfl, rfl, rfl, rfl, rfl, trivial⟩, _, hB, h32, h52, h17⟩
  replace hf45 := iT hf45
  refine o_z ?_
  refine ewp_true rfl (ewp_region (o_mv rfl rfl (o_mv rfl rfl ?_)))
  obtain ⟨u85, e86, hf45⟩ := bs hf45
  obtain ⟨e86, e87, e88⟩ := appI_some e86
  replace h52 := ((h52.st S74).st S77).st S82
  refine l_append1 rfl (a := (k39 : Int)) h52 (vInt rk39) (fun _ => rfl) rfl (by decide) (by decide) e87 e88 ⟨rfl, rfl⟩ fun g89 A90 c91 w92 O93 S94 h95 => ?_
  rw [← e86] at h95 ⊢
  refine o_as rfl rfl (o_z ?_)
  obtain rfl := sm hf45
  refine (?_ : Exists _)
  replace hB := (((hB.st S74).st S77).st S82).st S94
  replace h17 := (((h17.st S74).st S77).st S82).st S94
  replace h32 := (h32.st S82).st S94
  exact ⟨_, (A90, c91), rfl, ⟨rfl, rfl, rfl, rfl, rfl, trivial⟩, _, hB, h32, h95, h17⟩
 replace hB := (hB.st S26).st S31
 rintro l97 w98 ⟨s101, x102, rfl, hs100, O99, hB, h52⟩
 replace hm := fin_done hm
 refine ewp_sub _ hs100 ?_
 refine ewp_seq (ewp_region (o_mv rfl rfl (o_as rfl rfl (o_z ?_))))
 refine ewp_ret ?_
 obtain ⟨O103, S104, h52⟩ := h52.freeze
 obtain rfl := sm hm
 replace hB := hB.st S104
 exact ret1v rfl (res_tmp rfl) ⟨hB.ext, (Vb.mono (F := Fr 0 w98 O103) h52 hB.out)⟩
noncomputable def m_stubborn_meets (x0 : Tsk) (x1 : Int) : Option (List Int) :=
  bnd (rng (ρ := (List Int)) (fun (k31 : Nat) (a32 : Opr) (s29 : (List Int)) => bnd (m_stubborn_interfere x0 x1 (k31 : Int)) fun q46 => if q46 = true then bnd (appI 8 s29 [(k31 : Int)]) fun u53 => some (.next u53) else some (.next s29)) x0.ops 0 ([] : List Int)) fun res27 => fin res27 fun (s69 : (List Int)) => some s69
theorem c_stubborn_meets {w : World} {A : Nat → Prop} (hA : ∀ k, A k → k < w.heap.size) {vx0 : Value} {x0 : Tsk} (hx0 : Vb w A vx0 x0) {x1 : Int} (rx1 : inI64 x1) {r : (List Int)} (hm : m_stubborn_meets x0 x1 = some r) :
    Fn Try.prog 55 [vx0, (.int .i64 x1)] w fun v w' => Ext w w' ∧ Vb w' (upA A w w') v r := by
 obtain ⟨O, hB, hA0⟩ := enter hA
 replace hx0 := hx0.mono hA0
 obtain ⟨cs3, rfl, v4, v5, v6, v7, rfl, h8, h11, h14, h17⟩ := hx0
 obtain ⟨A9, c10, rfl⟩ := h8.form
 obtain ⟨A12, c13, rfl⟩ := h11.form
 obtain ⟨A15, c16, rfl⟩ := h14.form
 obtain ⟨A18, c19, rfl⟩ := h17.form
 refine fn_enter Try.func55 rfl Try.ntmps55 rfl ?_
 unfold m_stubborn_meets at hm
 refine ewp_seq (ewp_region (l_box 2 O rfl rfl fun g20 w21 O22 S23 h24 => ?_))
 replace h24 : Lc 2 w21 O22 g20 26 [(.slice A9 x0.vars.length c10), (.slice A12 x0.init.length c13), (.slice A15 x0.goal.length c16), (.slice A18 x0.ops.length c19)] := h24
 refine o_as rfl rfl (o_z ?_)
 refine ewp_seq (ewp_region (o_as rfl rfl (o_z ?_)))
 refine ewp_seq (ewp_seq (ewp_region (o_fa rfl rfl (o_ld (hc := Blk.cell (i := 3) (h24.1) rfl) rfl rfl ?_))))
 refine o_ln rfl rfl ?_
 replace h17 := h17.st S23
 have l26 : x0.ops.length ≤ 9223372036854775807 := Nat.le_trans h17.len.2.1 h17.len.2.2
 have r25 : inI64 (x0.ops.length : Int) := rngNat l26
 refine o_mv rfl rfl (o_z ?_)
 obtain ⟨res27, hL28, hm⟩ := bs hm
 refine ewp_join (aft res27 (fun (s29 : (List Int)) (x30 : (Option Addr × Nat)) => [(5, (.slice x30.1 s29.length x30.2))]) (fun s29 x30 w' => ∃ O' : Lab, Bs w A w' O' ∧ Rw 3 w' O' 3 (.slice x30.1 s29.length x30.2) s29)) ?_ ?_
 ·
  refine ewp_block ?_
  replace hB := hB.st S23
  replace h8 := h8.st S23
  replace h11 := h11.st S23
  replace h14 := h14.st S23
  refine ewp_rng (σ := (List Int)) (X := (Option Addr × Nat)) (x0.ops.length) hL28 rfl l26 (fun (s29 : (List Int)) (x30 : (Option Addr × Nat)) => [(1, (.int .i64 x1)), (2, (.pointer (some ⟨g20, 0, none⟩))), (5, (.slice x30.1 s29.length x30.2))]) _ (fun s29 x30 w' => ∃ O' : Lab, Bs w A w' O' ∧ Lc 2 w' O' g20 26 [(.slice A9 x0.vars.length c10), (.slice A12 x0.init.length c13), (.slice A15 x0.goal.length c16), (.slice A18 x0.ops.length c19)] ∧ Vb w' (Fr 0 w' O') (.slice A9 x0.vars.length c10) x0.vars ∧ Vb w' (Fr 0 w' O') (.slice A12 x0.init.length c13) x0.init ∧ Vb w' (Fr 0 w' O') (.slice A15 x0.goal.length c16) x0.goal ∧ Vb w' (Fr 0 w' O') (.slice A18 x0.ops.length c19) x0.ops ∧ Rw 3 w' O' 3 (.slice x30.1 s29.length x30.2) s29) _ (none, 0) ⟨O22, hB, h24, h8, h11, h14, h17, (Rw.nil 3 (by decide))⟩ ⟨rfl, rfl, rfl, rfl, rfl, trivial⟩ (fun _ _ => ⟨rfl, rfl⟩) (fun _ _ => ⟨rfl, trivial⟩) (fun _ _ _ ⟨O', hB, h24, h8, h11, h14, h17, h44⟩ => ⟨O', hB, h44⟩) ⟨rfl, rfl, rfl⟩ ⟨rfl, rfl⟩ ?_
  rintro k31 a32 s29 x30 w33 cc35 hx36 ⟨O34, hB, h24, h8, h11, h14, h17, h44⟩ hf37 hret38 hbrk39
  have rk31 : inI64 (k31 : Int) := rngK hx36 l26
  refine ewp_seq (ewp_region (o_mv rfl rfl (o_as rfl rfl (o_z ?_))))
  refine ewp_seq (ewp_region (o_la (hl := rfl) (hc := (h24.1).cellsAt) rfl rfl ?_))
  refine o_mv rfl rfl (o_mv rfl rfl ?_)
  obtain ⟨q46, e47, hf37⟩ := bs hf37
  refine l_callA (O := O34) (A := All w33) (R := fun w' F v => Vb w' F v q46) (c_stubborn_interfere (fun _ h => h) (Vb.mono (F := Fr 0 w33 O34) (Vb.ofAgg (cs := [(.slice A9 x0.vars.length c10), (.slice A12 x0.init.length c13), (.slice A15 x0.goal.length c16), (.slice A18 x0.ops.length c19)]) (x := x0) rfl ⟨_, _, _, _, rfl, h8, h11, h14, h17⟩) Fr.lt) rx1 rk31 e47) rfl rfl fun v52 w48 O49 S50 h51 => ?_
  obtain rfl := h51.bool
  cases q46
  case false =>
   replace hf37 := iF hf37
   refine o_z ?_
   refine ewp_false rfl (ewp_skip ?_)
   obtain rfl := sm hf37
   refine (?_ : Exists _)
   replace hB := hB.st S50
   replace h8 := h8.st S50
   replace h11 := h11.st S50
   replace h14 := h14.st S50
   replace h17 := h17.st S50
   replace h24 := h24.st S50
   replace h44 := h44.st S50
   exact ⟨_, (x30.1, x30.2), rfl, ⟨rfl, rfl, rfl, rfl, rfl, trivial⟩, _, hB, h24, h8, h11, h14, h17, h44⟩
  replace hf37 := iT hf37
  refine o_z ?_
  refine ewp_true rfl (ewp_region (o_mv rfl rfl (o_mv rfl rfl ?_)))
  obtain ⟨u53, e54, hf37⟩ := bs hf37
  obtain ⟨e54, e55, e56⟩ := appI_some e54
  replace h44 := h44.st S50
  refine l_append1 rfl (a := (k31 : Int)) h44 (vInt rk31) (fun _ => rfl) rfl (by decide) (by decide) e55 e56 ⟨rfl, rfl⟩ fun g57 A58 c59 w60 O61 S62 h63 => ?_
  rw [← e54] at h63 ⊢
  refine o_as rfl rfl (o_z ?_)
  obtain rfl := sm hf37
  refine (?_ : Exists _)
  replace hB := (hB.st S50).st S62
  replace h8 := (h8.st S50).st S62
  replace h11 := (h11.st S50).st S62
  replace h14 := (h14.st S50).st S62
  replace h17 := (h17.st S50).st S62
  replace h24 := (h24.st S50).st S62
  exact ⟨_, (A58, c59), rfl, ⟨rfl, rfl, rfl, rfl, rfl, trivial⟩, _, hB, h24, h8, h11, h14, h17, h63⟩
 replace hB := hB.st S23
 rintro l65 w66 ⟨s69, x70, rfl, hs68, O67, hB, h44⟩
 replace hm := fin_done hm
 refine ewp_sub _ hs68 ?_
 refine ewp_seq (ewp_region (o_mv rfl rfl (o_as rfl rfl (o_z ?_))))
 refine ewp_ret ?_
 obtain ⟨O71, S72, h44⟩ := h44.freeze
 obtain rfl := sm hm
 replace hB := hB.st S72
 exact ret1v rfl (res_tmp rfl) ⟨hB.ext, (Vb.mono (F := Fr 0 w66 O71) h44 hB.out)⟩
noncomputable def m_stubborn_set_l1 (x0 : List Int) (x1 : BxR 55 4 Bool) (x2 : BxR 22 3 Int) : Option ((BxR 55 4 Bool) × (BxR 22 3 Int)) :=
  bnd (rng (ρ := (BxR 55 4 Bool) × (BxR 22 3 Int)) (fun (k10 : Nat) (a11 : Int) (s8 : (BxR 55 4 Bool) × (BxR 22 3 Int)) => bnd (atI s8.1.l a11) fun a42 => if (!a42) = true then (bnd (atI s8.1.l a11) fun a54 => bnd (appI 8 s8.2.l [a11]) fun u76 => some (.next ((⟨(s8.1.l.set (a11 : Int).toNat true)⟩ : BxR 55 4 Bool), (⟨u76⟩ : BxR 22 3 Int)))) else (some (.next (s8.1, s8.2)))) x0 0 (x1, x2)) fun res6 => fin res6 fun (s109 : (BxR 55 4 Bool) × (BxR 22 3 Int)) => some (s109.1, s109.2)
theorem c_stubborn_set_l1 {w : World} {O : Lab} {vx0 : Value} {x0 : List Int} (hx0 : Vb w (Fr 0 w O) vx0 x0) {p1 i0 : Nat} {x1 : BxR 55 4 Bool} (hx1 : Ob i0 w O (.pointer (some ⟨p1, 0, none⟩)) x1) {p2 i1 : Nat} {x2 : BxR 22 3 Int} (hx2 : Ob i1 w O (.pointer (some ⟨p2, 0, none⟩)) x2) (hne : i0 ≠ i1) {r : (BxR 55 4 Bool) × (BxR 22 3 Int)} (hm : m_stubborn_set_l1 x0 x1 x2 = some r) :
    Fn Try.prog 52 [vx0, (.pointer (some ⟨p1, 0, none⟩)), (.pointer (some ⟨p2, 0, none⟩))] w fun v w' => ∃ O', St (fun j => j = i0 ∨ j = i1) w O w' O' ∧ Ob i0 w' O' (.pointer (some ⟨p1, 0, none⟩)) r.1 ∧ Ob i1 w' O' (.pointer (some ⟨p2, 0, none⟩)) r.2 := by
 obtain ⟨O0, hE, hz0, hl2, hl3⟩ := ent2 (w := w) (O := O) hne hx1.2 hx2.2
 have hx1' := Ob.leave hx1 hz0 hl2 (j := 2) (by decide)
 have hx2' := Ob.leave hx2 hz0 hl3 (j := 3) (by decide)
 have hB : Bm w O0 w O0 := Bm.refl
 replace hx0 := hx0.mono hz0
 obtain ⟨A2, c3, rfl⟩ := hx0.form
 refine fn_enter Try.func52 rfl Try.ntmps52 rfl ?_
 unfold m_stubborn_set_l1 at hm
 refine ewp_seq (ewp_region (o_mv rfl rfl (o_ln rfl rfl ?_)))
 have l5 : x0.length ≤ 9223372036854775807 := Nat.le_trans hx0.len.2.1 hx0.len.2.2
 have r4 : inI64 (x0.length : Int) := rngNat l5
 refine o_mv rfl rfl (o_z ?_)
 obtain ⟨res6, hL7, hm⟩ := bs hm
 refine ewp_join (aft res6 (fun (s8 : (BxR 55 4 Bool) × (BxR 22 3 Int)) (x9 : Unit) => []) (fun s8 x9 w' => ∃ O' : Lab, Bm w O0 w' O' ∧ Ob 2 w' O' (.pointer (some ⟨p1, 0, none⟩)) s8.1 ∧ Ob 3 w' O' (.pointer (some ⟨p2, 0, none⟩)) s8.2)) ?_ ?_
 ·
  refine ewp_block (ewp_rng (σ := (BxR 55 4 Bool) × (BxR 22 3 Int)) (X := Unit) (x0.length) hL7 rfl l5 (fun (s8 : (BxR 55 4 Bool) × (BxR 22 3 Int)) (x9 : Unit) => [(1, (.pointer (some ⟨p1, 0, none⟩))), (2, (.pointer (some ⟨p2, 0, none⟩))), (6, (.slice A2 x0.length c3))]) _ (fun s8 x9 w' => ∃ O' : Lab, Bm w O0 w' O' ∧ Ob 2 w' O' (.pointer (some ⟨p1, 0, none⟩)) s8.1 ∧ Ob 3 w' O' (.pointer (some ⟨p2, 0, none⟩)) s8.2 ∧ Vb w' (Fr 0 w' O') (.slice A2 x0.length c3) x0) _ () ⟨O0, hB, hx1', hx2', hx0⟩ ⟨rfl, rfl, rfl, rfl, rfl, trivial⟩ (fun _ _ => ⟨rfl, rfl⟩) (fun _ _ => trivial) (fun _ _ _ ⟨O', hB, h23, h24, hx0⟩ => ⟨O', hB, h23, h24⟩) ⟨rfl, rfl, rfl⟩ ⟨rfl, rfl⟩ ?_)
  rintro k10 a11 s8 x9 w12 cc14 hx15 ⟨O13, hB, h23, h24, hx0⟩ hf16 hret17 hbrk18
  have rk10 : inI64 (k10 : Int) := rngK hx15 l5
  refine ewp_seq (ewp_region ?_)
  obtain ⟨b25, o26, ce27, hA28, hl29, hd30, rfl, r32⟩ := hx0.elem' hx15
  refine o_iaE (hA := hA28) (hj := rfl) (hlt := hl29) rfl rfl rfl ?_
  refine o_ld (hc := cat0 hd30) rfl rfl ?_
  refine o_as rfl rfl (o_z ?_)
  refine ewp_seq (ewp_region ?_)
  obtain ⟨O33, v37, S34, ha36, h35, h38⟩ := BxR.opn h23 2 4 (by decide)
  obtain ⟨A39, c40, rfl⟩ := h38.form
  refine o_ld (hc := Blk.cell (i := 0) (h35.1) rfl) rfl rfl ?_
  refine o_mv rfl rfl ?_
  obtain ⟨a42, e43, hf16⟩ := bs hf16
  obtain ⟨p45, x44⟩ := atI_some' e43
  obtain ⟨b46, o47, ce48, hA49, hl50, hd51, rfl⟩ := h38.elem x44
  refine o_iaE (hA := hA49) (hj := (Int.toNat_of_nonneg p45).symm) (hlt := hl50) rfl rfl rfl ?_
  refine o_ld (hc := cat0 hd51) rfl rfl ?_
  refine o_nn rfl rfl (o_z ?_)
  refine ewp_cond rfl (fun c53 => ?_) (fun c53 => ?_)
  ·
   replace hf16 := ip hf16 c53
   refine ewp_seq (ewp_region (o_ld (hc := Blk.cell (i := 0) (h35.1) rfl) rfl rfl ?_))
   refine o_mv rfl rfl ?_
   obtain ⟨a54, e55, hf16⟩ := bs hf16
   obtain ⟨p57, x56⟩ := atI_some' e55
   obtain ⟨b58, o59, ce60, hA61, hl62, hd63, rfl⟩ := h38.elem x56
   refine o_iaE (hA := hA61) (hj := (Int.toNat_of_nonneg p57).symm) (hlt := hl62) rfl rfl rfl ?_
   refine l_setE rfl h38 (a := true) vBool hA61 rfl rfl (lt_of_get x56) fun w65 S66 h38 => ?_
   refine o_z ?_
   refine ewp_region ?_
   replace h24 := (h24.st S34).st S66
   obtain ⟨O67, v71, S68, ha70, h69, h72⟩ := BxR.opn h24 3 5 (by decide)
   obtain ⟨A73, c74, rfl⟩ := h72.form
   refine o_ld (hc := Blk.cell (i := 0) (h69.1) rfl) rfl rfl ?_
   refine o_mv rfl rfl ?_
   obtain ⟨u76, e77, hf16⟩ := bs hf16
   obtain ⟨e77, e78, e79⟩ := appI_some e77
   refine l_append1 rfl (a := a11) h72 (vInt r32) (fun _ => rfl) rfl (by decide) (by decide) e78 e79 ⟨rfl, rfl⟩ fun g80 A81 c82 w83 O84 S85 h86 => ?_
   rw [← e77] at h86 ⊢
   replace h69 := h69.st S85
   refine l_store h69 rfl rfl rfl (Nat.le_of_ble_eq_true rfl) (by first | exact allOne rfl | simp [Value.cells, Value.oneCell', errV_one]) fun w88 S89 h69 => ?_
   replace h69 : Lc 3 w88 O84 p2 22 [(.slice A81 u76.length c82)] := h69
   refine o_z ?_
   replace h35 := (((h35.st S66).st S68).st S85).st S89
   replace h38 := ((h38.st S68).st S85).st S89
   obtain ⟨O90, S91, hz93, ha94, h92⟩ := BxR.shut (x := (⟨(s8.1.l.set (a11 : Int).toNat true)⟩ : BxR 55 4 Bool)) (l0 := 2) (l1 := 4) (by decide) (by have q := h35; rw [← ((by simp : (s8.1.l.set (a11 : Int).toNat true).length = s8.1.l.length).trans rfl)] at q; exact q) h38.relen
   replace h69 := h69.st S91
   replace h86 := (h86.st S89).st S91
   obtain ⟨O95, S96, hz98, ha99, h97⟩ := BxR.shut (x := (⟨u76⟩ : BxR 22 3 Int)) (l0 := 3) (l1 := 5) (by decide) h69 h86
   obtain rfl := sm hf16
   refine (?_ : Exists _)
   replace hx0 := ((((((hx0.st S34).st S66).st S68).st S85).st S89).st S91).st S96
   replace hB := ((((((hB.st S34).st S66).st S68).st S85).st S89).st S91).st S96
   replace h92 := h92.st S96
   exact ⟨_, (), rfl, ⟨rfl, rfl, rfl, rfl, rfl, trivial⟩, _, hB, h92, h97, hx0⟩
  ·
   replace hf16 := im' hf16 c53
   refine ewp_skip ?_
   obtain ⟨O100, S101, hz103, ha104, h102⟩ := BxR.shut (x := s8.1) (l0 := 2) (l1 := 4) (by decide) h35 h38
   obtain rfl := sm hf16
   refine (?_ : Exists _)
   replace hx0 := (hx0.st S34).st S101
   replace hB := (hB.st S34).st S101
   replace h24 := (h24.st S34).st S101
   exact ⟨_, (), rfl, ⟨rfl, rfl, rfl, rfl, rfl, trivial⟩, _, hB, h102, h24, hx0⟩
 rintro l105 w106 ⟨s109, x110, rfl, hs108, O107, hB, h23, h24⟩
 replace hm := fin_done hm
 obtain rfl := sm hm
 obtain ⟨O', hS', hz, hl⟩ := hE.leave (fun q => if q = 2 then i0 else if q = 3 then i1 else 0) rfl hB
 exact ret0n rfl  ⟨O', hS', (Ob.leave h23 hz (hl 2 (by decide) (by decide)) hx1.2), (Ob.leave h24 hz (hl 3 (by decide) (by decide)) hx2.2)⟩
noncomputable def m_stubborn_set (x0 : Tsk) (x1 : List Int) : Option (List Int) :=
  bnd (mkI 1 (false : Bool) (x0.ops.length : Int)) fun u29 => bnd (m_stubborn_missing x0.goal x1) fun q54 => bnd (if (!q54.2) = true then (bnd (rng (ρ := (BxR 22 3 Int) × (BxR 55 4 Bool)) (fun (k100 : Nat) (a101 : Opr) (s98 : (BxR 22 3 Int) × (BxR 55 4 Bool)) => bnd (m_stubborn_set_l1 [(k100 : Int)] s98.2 s98.1) fun q123 => some (.next (q123.2, q123.1))) x0.ops 0 ((⟨([] : List Int)⟩ : BxR 22 3 Int), (⟨u29⟩ : BxR 55 4 Bool))) fun res96 => fin res96 fun (s136 : (BxR 22 3 Int) × (BxR 55 4 Bool)) => some (s136.1, s136.2)) else (bnd (m_stubborn_writers x0 q54.1) fun q138 => bnd (m_stubborn_set_l1 q138 (⟨u29⟩ : BxR 55 4 Bool) (⟨([] : List Int)⟩ : BxR 22 3 Int)) fun q159 => some (q159.2, q159.1)) : Option ((BxR 22 3 Int) × (BxR 55 4 Bool))) fun y75 => bnd (lop (ρ := (List Int)) (fun (s174 : (List Int) × Int × (BxR 22 3 Int) × (BxR 55 4 Bool)) => if s174.2.1 < (s174.2.2.1.l.length : Int) then (bnd (bnd (atI s174.2.2.1.l s174.2.1) fun a217 => bnd (atI x0.ops a217) fun a219 => bnd (m_stubborn_missing a219.pre x1) fun q221 => bnd (some () : Option Unit) fun y223 => if q221.2 = true then (bnd (m_stubborn_writers x0 q221.1) fun q312 => bnd (m_stubborn_set_l1 q312 s174.2.2.2 s174.2.2.1) fun q321 => some (s174.1, q321.2, q321.1)) else (bnd (atI s174.2.2.1.l s174.2.1) fun a339 => bnd (appI 8 s174.1 [a339]) fun u351 => bnd (atI s174.2.2.1.l s174.2.1) fun a363 => bnd (m_stubborn_meets x0 a363) fun q375 => bnd (m_stubborn_set_l1 q375 s174.2.2.2 s174.2.2.1) fun q389 => some (u351, q389.2, q389.1)) : Option ((List Int) × (BxR 22 3 Int) × (BxR 55 4 Bool))) fun y209 => bnd (chkI (s174.2.1 + 1)) fun n402 => some (.next (y209.1, n402, y209.2.1, y209.2.2))) else (some (.brk (s174.1, s174.2.1, s174.2.2.1, s174.2.2.2)))) (([] : List Int), 0, y75.1, y75.2)) fun res172 => fin res172 fun (s414 : (List Int) × Int × (BxR 22 3 Int) × (BxR 55 4 Bool)) => bnd (m_slices_Sort_Lint_int s414.1) fun q416 => some q416
theorem c_stubborn_set {w : World} {A : Nat → Prop} (hA : ∀ k, A k → k < w.heap.size) {vx0 : Value} {x0 : Tsk} (hx0 : Vb w A vx0 x0) {vx1 : Value} {x1 : List Int} (hx1 : Vb w A vx1 x1) {r : (List Int)} (hm : m_stubborn_set x0 x1 = some r) :
    Fn Try.prog 34 [vx0, vx1] w fun v w' => Ext w w' ∧ Vb w' (upA A w w') v r := by
 obtain ⟨O, hB, hA0⟩ := enter hA
 replace hx0 := hx0.mono hA0
 obtain ⟨cs3, rfl, v4, v5, v6, v7, rfl, h8, h11, h14, h17⟩ := hx0
 obtain ⟨A9, c10, rfl⟩ := h8.form
 obtain ⟨A12, c13, rfl⟩ := h11.form
 obtain ⟨A15, c16, rfl⟩ := h14.form
 obtain ⟨A18, c19, rfl⟩ := h17.form
 replace hx1 := hx1.mono hA0
 obtain ⟨A20, c21, rfl⟩ := hx1.form
 refine fn_enter Try.func34 rfl Try.ntmps34 rfl ?_
 unfold m_stubborn_set at hm
 refine ewp_seq (ewp_region (l_box 2 O rfl rfl fun g22 w23 O24 S25 h26 => ?_))
 replace h26 : Lc 2 w23 O24 g22 26 [(.slice A9 x0.vars.length c10), (.slice A12 x0.init.length c13), (.slice A15 x0.goal.length c16), (.slice A18 x0.ops.length c19)] := h26
 refine o_as rfl rfl (o_z ?_)
 refine ewp_seq (ewp_region (o_fa rfl rfl (o_ld (hc := Blk.cell (i := 3) (h26.1) rfl) rfl rfl ?_)))
 refine o_ln rfl rfl ?_
 replace h17 := h17.st S25
 have l28 : x0.ops.length ≤ 9223372036854775807 := Nat.le_trans h17.len.2.1 h17.len.2.2
 have r27 : inI64 (x0.ops.length : Int) := rngNat l28
 obtain ⟨u29, e30, hm⟩ := bs hm
 obtain ⟨m31, e32, e33, e34, e35⟩ := mkI_some e30
 refine l_make 3 (by decide) O24 (z0 := (false : Bool)) rfl rfl rfl rfl rfl e32 vBool e33 e34 rfl fun g36 w37 O38 S39 h40 => ?_
 rw [← e35] at h40 ⊢
 refine l_alloc 4 O38 rfl fun g42 w43 O44 S45 h46 => ?_
 refine l_store h46 rfl rfl rfl (Nat.le_of_ble_eq_true rfl) (by first | exact allOne rfl | simp [Value.cells, Value.oneCell', errV_one]) fun w47 S48 h46 => ?_
 replace h46 : Lc 4 w47 O44 g42 55 [(.slice (some ⟨g36, 0, none⟩) u29.length m31)] := h46
 refine o_z ?_
 refine ewp_seq (ewp_region (l_alloc 5 O44 rfl fun g49 w50 O51 S52 h53 => ?_))
 refine o_z ?_
 refine ewp_seq (ewp_region (o_mf rfl rfl rfl (o_as rfl rfl (o_z ?_))))
 refine ewp_seq (ewp_region (o_fa rfl rfl ?_))
 replace h26 := (((h26.st S39).st S45).st S48).st S52
 refine o_ld (hc := Blk.cell (i := 2) (h26.1) rfl) rfl rfl ?_
 refine o_mv rfl rfl ?_
 obtain ⟨q54, e55, hm⟩ := bs hm
 replace hx1 := ((((hx1.st S25).st S39).st S45).st S48).st S52
 replace h14 := ((((h14.st S25).st S39).st S45).st S48).st S52
 refine l_callA (O := O51) (A := All w50) (R := fun w' F v => T2 w' F v q54) (c_stubborn_missing (fun _ h => h) (Vb.mono (F := Fr 0 w50 O51) h14 Fr.lt) (Vb.mono (F := Fr 0 w50 O51) hx1 Fr.lt) e55) rfl rfl fun v60 w56 O57 S58 h59 => ?_
 obtain ⟨v61, v62, rfl, h63, h64⟩ := h59
 obtain ⟨cs65, rfl, rfl, r66, r67⟩ := h63
 obtain rfl := h64.bool
 refine o_mv rfl rfl (o_ex rfl rfl rfl (o_ex rfl rfl rfl (l_alloc 7 O57 rfl fun g68 w69 O70 S71 h72 => ?_)))
 refine l_store h72 rfl rfl rfl (Nat.le_of_ble_eq_true rfl) (by first | exact allOne rfl | simp [Value.cells, Value.oneCell', errV_one]) fun w73 S74 h72 => ?_
 replace h72 : Lc 7 w73 O70 g68 68 [(.int .i64 q54.1.var), (.int .i64 q54.1.val)] := h72
 refine o_as rfl rfl (o_z ?_)
 refine ewp_seq ?_
 obtain ⟨y75, hy76, hm⟩ := bs hm
 refine ewp_join (fun l' w' => ∃ (x78 : Unit) (O' : Lab), subs l' [(1, (.slice A20 x1.length c21)), (2, (.pointer (some ⟨g22, 0, none⟩))), (6, (.pointer (some ⟨g49, 0, none⟩))), (7, (.func (.func 52) #[] #[(.pointer (some ⟨g42, 0, none⟩)), (.pointer (some ⟨g49, 0, none⟩))]))] ∧ Bs w A w' O' ∧ Vb w' (Fr 0 w' O') (.slice A20 x1.length c21) x1 ∧ Lc 2 w' O' g22 26 [(.slice A9 x0.vars.length c10), (.slice A12 x0.init.length c13), (.slice A15 x0.goal.length c16), (.slice A18 x0.ops.length c19)] ∧ Vb w' (Fr 0 w' O') (.slice A9 x0.vars.length c10) x0.vars ∧ Vb w' (Fr 0 w' O') (.slice A12 x0.init.length c13) x0.init ∧ Vb w' (Fr 0 w' O') (.slice A15 x0.goal.length c16) x0.goal ∧ Vb w' (Fr 0 w' O') (.slice A18 x0.ops.length c19) x0.ops ∧ Ob 5 w' O' (.pointer (some ⟨g49, 0, none⟩)) y75.1 ∧ Ob 4 w' O' (.pointer (some ⟨g42, 0, none⟩)) y75.2) ?_ ?_
 ·
  refine ewp_seq (ewp_region (o_mv rfl rfl (o_nn rfl rfl (o_z ?_))))
  refine ewp_cond rfl (fun c81 => ?_) (fun c81 => ?_)
  ·
   replace hy76 := ip hy76 c81
   refine ewp_seq (ewp_region (o_fa rfl rfl ?_))
   replace h26 := ((h26.st S58).st S71).st S74
   refine o_ld (hc := Blk.cell (i := 3) (h26.1) rfl) rfl rfl ?_
   refine o_ln rfl rfl ?_
   replace h17 := ((((((h17.st S39).st S45).st S48).st S52).st S58).st S71).st S74
   have l83 : x0.ops.length ≤ 9223372036854775807 := Nat.le_trans h17.len.2.1 h17.len.2.2
   have r82 : inI64 (x0.ops.length : Int) := rngNat l83
   refine o_mv rfl rfl (o_z ?_)
   replace h40 := (((((h40.st S45).st S48).st S52).st S58).st S71).st S74
   replace h46 := (((h46.st S52).st S58).st S71).st S74
   obtain ⟨O84, S85, hz87, ha88, h86⟩ := BxR.shut (x := (⟨u29⟩ : BxR 55 4 Bool)) (l0 := 4) (l1 := 3) (by decide) h46 h40
   have h89 : Rw 6 w73 O84 3 (.slice none 0 0) ([] : List Int) := Rw.nil 6 (by decide)
   replace h53 := (((h53.st S58).st S71).st S74).st S85
   obtain ⟨O91, S92, hz94, ha95, h93⟩ := BxR.shut (x := (⟨([] : List Int)⟩ : BxR 22 3 Int)) (l0 := 5) (l1 := 6) (by decide) h53 h89
   obtain ⟨res96, hL97, hy76⟩ := bs hy76
   refine ewp_join (aft res96 (fun (s98 : (BxR 22 3 Int) × (BxR 55 4 Bool)) (x99 : Unit) => [(1, (.slice A20 x1.length c21)), (2, (.pointer (some ⟨g22, 0, none⟩))), (6, (.pointer (some ⟨g49, 0, none⟩))), (7, (.func (.func 52) #[] #[(.pointer (some ⟨g42, 0, none⟩)), (.pointer (some ⟨g49, 0, none⟩))]))]) (fun s98 x99 w' => ∃ O' : Lab, Bs w A w' O' ∧ Vb w' (Fr 0 w' O') (.slice A20 x1.length c21) x1 ∧ Lc 2 w' O' g22 26 [(.slice A9 x0.vars.length c10), (.slice A12 x0.init.length c13), (.slice A15 x0.goal.length c16), (.slice A18 x0.ops.length c19)] ∧ Vb w' (Fr 0 w' O') (.slice A9 x0.vars.length c10) x0.vars ∧ Vb w' (Fr 0 w' O') (.slice A12 x0.init.length c13) x0.init ∧ Vb w' (Fr 0 w' O') (.slice A15 x0.goal.length c16) x0.goal ∧ Vb w' (Fr 0 w' O') (.slice A18 x0.ops.length c19) x0.ops ∧ Ob 5 w' O' (.pointer (some ⟨g49, 0, none⟩)) s98.1 ∧ Ob 4 w' O' (.pointer (some ⟨g42, 0, none⟩)) s98.2)) ?_ ?_
   ·
    refine ewp_block ?_
    replace hB := (((((((((hB.st S25).st S39).st S45).st S48).st S52).st S58).st S71).st S74).st S85).st S92
    replace hx1 := ((((hx1.st S58).st S71).st S74).st S85).st S92
    replace h8 := (((((((((h8.st S25).st S39).st S45).st S48).st S52).st S58).st S71).st S74).st S85).st S92
    replace h11 := (((((((((h11.st S25).st S39).st S45).st S48).st S52).st S58).st S71).st S74).st S85).st S92
    replace h14 := ((((h14.st S58).st S71).st S74).st S85).st S92
    replace h17 := (h17.st S85).st S92
    replace h26 := (h26.st S85).st S92
    replace h86 := h86.st S92
    refine ewp_rng (σ := (BxR 22 3 Int) × (BxR 55 4 Bool)) (X := Unit) (x0.ops.length) hL97 rfl l83 (fun (s98 : (BxR 22 3 Int) × (BxR 55 4 Bool)) (x99 : Unit) => [(1, (.slice A20 x1.length c21)), (2, (.pointer (some ⟨g22, 0, none⟩))), (6, (.pointer (some ⟨g49, 0, none⟩))), (7, (.func (.func 52) #[] #[(.pointer (some ⟨g42, 0, none⟩)), (.pointer (some ⟨g49, 0, none⟩))]))]) _ (fun s98 x99 w' => ∃ O' : Lab, Bs w A w' O' ∧ Vb w' (Fr 0 w' O') (.slice A20 x1.length c21) x1 ∧ Lc 2 w' O' g22 26 [(.slice A9 x0.vars.length c10), (.slice A12 x0.init.length c13), (.slice A15 x0.goal.length c16), (.slice A18 x0.ops.length c19)] ∧ Vb w' (Fr 0 w' O') (.slice A9 x0.vars.length c10) x0.vars ∧ Vb w' (Fr 0 w' O') (.slice A12 x0.init.length c13) x0.init ∧ Vb w' (Fr 0 w' O') (.slice A15 x0.goal.length c16) x0.goal ∧ Vb w' (Fr 0 w' O') (.slice A18 x0.ops.length c19) x0.ops ∧ Ob 5 w' O' (.pointer (some ⟨g49, 0, none⟩)) s98.1 ∧ Ob 4 w' O' (.pointer (some ⟨g42, 0, none⟩)) s98.2) _ () ⟨O91, hB, hx1, h26, h8, h11, h14, h17, h93, h86⟩ ⟨rfl, rfl, rfl, rfl, rfl, rfl, trivial⟩ (fun _ _ => ⟨rfl, rfl⟩) (fun _ _ => ⟨rfl, rfl, rfl, rfl, trivial⟩) (fun _ _ _ ⟨O', hB, hx1, h26, h8, h11, h14, h17, h113, h114⟩ => ⟨O', hB, hx1, h26, h8, h11, h14, h17, h113, h114⟩) ⟨rfl, rfl, rfl⟩ ⟨rfl, rfl⟩ ?_
    rintro k100 a101 s98 x99 w102 cc104 hx105 ⟨O103, hB, hx1, h26, h8, h11, h14, h17, h113, h114⟩ hf106 hret107 hbrk108
    have rk100 : inI64 (k100 : Int) := rngK hx105 l83
    refine ewp_seq (ewp_region (o_mv rfl rfl (o_as rfl rfl (o_z ?_))))
    refine ewp_region (o_mv rfl rfl (o_mv rfl rfl (l_bslice 8 (by decide) O103 (xs := ([(k100 : Int)] : List Int)) rfl rfl rfl rfl ⟨(vInt rk100), trivial⟩ (by decide) (by decide) rfl fun g115 w116 O117 S118 h119 => ?_)))
    obtain ⟨O121, S122, h119⟩ := h119.freeze
    obtain ⟨q123, e124, hf106⟩ := bs hf106
    replace h113 := (h113.st S118).st S122
    replace h114 := (h114.st S118).st S122
    refine l_callMv (O := O121) (c_stubborn_set_l1 h119 h114 h113 (by decide) e124) rfl rfl rfl rfl fun v129 w125 O126 S127 h128 => ?_
    obtain ⟨h130, h131⟩ := h128
    refine o_z ?_
    obtain rfl := sm hf106
    refine (?_ : Exists _)
    replace hB := ((hB.st S118).st S122).st S127
    replace hx1 := ((hx1.st S118).st S122).st S127
    replace h8 := ((h8.st S118).st S122).st S127
    replace h11 := ((h11.st S118).st S122).st S127
    replace h14 := ((h14.st S118).st S122).st S127
    replace h17 := ((h17.st S118).st S122).st S127
    replace h26 := ((h26.st S118).st S122).st S127
    exact ⟨_, (), rfl, ⟨rfl, rfl, rfl, rfl, rfl, rfl, trivial⟩, _, hB, hx1, h26, h8, h11, h14, h17, h131, h130⟩
   replace hB := (((((((((hB.st S25).st S39).st S45).st S48).st S52).st S58).st S71).st S74).st S85).st S92
   replace hx1 := ((((hx1.st S58).st S71).st S74).st S85).st S92
   replace h8 := (((((((((h8.st S25).st S39).st S45).st S48).st S52).st S58).st S71).st S74).st S85).st S92
   replace h11 := (((((((((h11.st S25).st S39).st S45).st S48).st S52).st S58).st S71).st S74).st S85).st S92
   replace h14 := ((((h14.st S58).st S71).st S74).st S85).st S92
   replace h17 := (h17.st S85).st S92
   replace h26 := (h26.st S85).st S92
   rintro l132 w133 ⟨s136, x137, rfl, hs135, O134, hB, hx1, h26, h8, h11, h14, h17, h113, h114⟩
   replace hy76 := fin_done hy76
   obtain rfl := sm hy76
   exact ⟨(), _, ⟨(subs_lk hs135 _ _ rfl), (subs_lk hs135 _ _ rfl), (subs_lk hs135 _ _ rfl), (subs_lk hs135 _ _ rfl), trivial⟩, hB, hx1, h26, h8, h11, h14, h17, h113, h114⟩
  ·
   replace hy76 := im' hy76 c81
   refine ewp_region (o_mv rfl rfl ?_)
   replace h26 := ((h26.st S58).st S71).st S74
   refine o_la (hl := rfl) (hc := (h26.1).cellsAt) rfl rfl ?_
   refine o_la (hl := rfl) (hc := (h72.1).cellsAt) rfl rfl ?_
   obtain ⟨q138, e139, hy76⟩ := bs hy76
   replace h8 := (((((((h8.st S25).st S39).st S45).st S48).st S52).st S58).st S71).st S74
   replace h11 := (((((((h11.st S25).st S39).st S45).st S48).st S52).st S58).st S71).st S74
   replace h14 := ((h14.st S58).st S71).st S74
   replace h17 := ((((((h17.st S39).st S45).st S48).st S52).st S58).st S71).st S74
   refine l_call (O := O70) (R := fun w' F v => Vb w' F v q138) (c_stubborn_writers Fr.lt (Vb.ofAgg (cs := [(.slice A9 x0.vars.length c10), (.slice A12 x0.init.length c13), (.slice A15 x0.goal.length c16), (.slice A18 x0.ops.length c19)]) (x := x0) rfl ⟨_, _, _, _, rfl, h8, h11, h14, h17⟩) (Vb.ofAgg (cs := [(.int .i64 q54.1.var), (.int .i64 q54.1.val)]) (x := q54.1) rfl ⟨rfl, r66, r67⟩) e139) rfl rfl fun v144 w140 O141 S142 h143 => ?_
   obtain ⟨A145, c146, rfl⟩ := h143.form
   replace h40 := ((((((h40.st S45).st S48).st S52).st S58).st S71).st S74).st S142
   replace h46 := ((((h46.st S52).st S58).st S71).st S74).st S142
   obtain ⟨O147, S148, hz150, ha151, h149⟩ := BxR.shut (x := (⟨u29⟩ : BxR 55 4 Bool)) (l0 := 4) (l1 := 3) (by decide) h46 h40
   have h152 : Rw 6 w140 O147 3 (.slice none 0 0) ([] : List Int) := Rw.nil 6 (by decide)
   replace h53 := ((((h53.st S58).st S71).st S74).st S142).st S148
   obtain ⟨O154, S155, hz157, ha158, h156⟩ := BxR.shut (x := (⟨([] : List Int)⟩ : BxR 22 3 Int)) (l0 := 5) (l1 := 6) (by decide) h53 h152
   obtain ⟨q159, e160, hy76⟩ := bs hy76
   replace h143 := (h143.st S148).st S155
   replace h149 := h149.st S155
   refine l_callMv (O := O154) (c_stubborn_set_l1 h143 h149 h156 (by decide) e160) rfl rfl rfl rfl fun v165 w161 O162 S163 h164 => ?_
   obtain ⟨h166, h167⟩ := h164
   refine o_z ?_
   obtain rfl := sm hy76
   replace hB := (((((((((((hB.st S25).st S39).st S45).st S48).st S52).st S58).st S71).st S74).st S142).st S148).st S155).st S163
   replace hx1 := ((((((hx1.st S58).st S71).st S74).st S142).st S148).st S155).st S163
   replace h8 := (((h8.st S142).st S148).st S155).st S163
   replace h11 := (((h11.st S142).st S148).st S155).st S163
   replace h14 := (((h14.st S142).st S148).st S155).st S163
   replace h17 := (((h17.st S142).st S148).st S155).st S163
   replace h26 := (((h26.st S142).st S148).st S155).st S163
   exact ⟨(), _, ⟨rfl, rfl, rfl, rfl, trivial⟩, hB, hx1, h26, h8, h11, h14, h17, h167, h166⟩
 replace hB := (((((((hB.st S25).st S39).st S45).st S48).st S52).st S58).st S71).st S74
 replace hx1 := ((hx1.st S58).st S71).st S74
 replace h8 := (((((((h8.st S25).st S39).st S45).st S48).st S52).st S58).st S71).st S74
 replace h11 := (((((((h11.st S25).st S39).st S45).st S48).st S52).st S58).st S71).st S74
 replace h14 := ((h14.st S58).st S71).st S74
 replace h17 := ((((((h17.st S39).st S45).st S48).st S52).st S58).st S71).st S74
 replace h26 := ((h26.st S58).st S71).st S74
 rintro l168 w169 ⟨x78, O170, hs171, hB, hx1, h26, h8, h11, h14, h17, h79, h80⟩
 refine ewp_sub _ hs171 ?_
 refine ewp_seq (ewp_region (o_as rfl rfl (o_z ?_)))
 refine ewp_seq (ewp_seq (ewp_region (o_as rfl rfl (o_z ?_))))
 obtain ⟨res172, hL173, hm⟩ := bs hm
 refine ewp_join (aft res172 (fun (s174 : (List Int) × Int × (BxR 22 3 Int) × (BxR 55 4 Bool)) (x175 : (Option Addr × Nat)) => [(11, (.slice x175.1 s174.1.length x175.2))]) (fun s174 x175 w' => ∃ O' : Lab, Bs w A w' O' ∧ Rw 11 w' O' 3 (.slice x175.1 s174.1.length x175.2) s174.1 ∧ inI64 s174.2.1)) ?_ ?_
 ·
  refine ewp_block (ewp_lop (σ := (List Int) × Int × (BxR 22 3 Int) × (BxR 55 4 Bool)) (X := (Option Addr × Nat)) hL173 (fun (s174 : (List Int) × Int × (BxR 22 3 Int) × (BxR 55 4 Bool)) (x175 : (Option Addr × Nat)) => [(1, (.slice A20 x1.length c21)), (2, (.pointer (some ⟨g22, 0, none⟩))), (6, (.pointer (some ⟨g49, 0, none⟩))), (7, (.func (.func 52) #[] #[(.pointer (some ⟨g42, 0, none⟩)), (.pointer (some ⟨g49, 0, none⟩))])), (11, (.slice x175.1 s174.1.length x175.2)), (12, (.int .i64 s174.2.1))]) _ (fun s174 x175 w' => ∃ O' : Lab, Bs w A w' O' ∧ Vb w' (Fr 0 w' O') (.slice A20 x1.length c21) x1 ∧ Lc 2 w' O' g22 26 [(.slice A9 x0.vars.length c10), (.slice A12 x0.init.length c13), (.slice A15 x0.goal.length c16), (.slice A18 x0.ops.length c19)] ∧ Vb w' (Fr 0 w' O') (.slice A9 x0.vars.length c10) x0.vars ∧ Vb w' (Fr 0 w' O') (.slice A12 x0.init.length c13) x0.init ∧ Vb w' (Fr 0 w' O') (.slice A15 x0.goal.length c16) x0.goal ∧ Vb w' (Fr 0 w' O') (.slice A18 x0.ops.length c19) x0.ops ∧ Ob 5 w' O' (.pointer (some ⟨g49, 0, none⟩)) s174.2.2.1 ∧ Ob 4 w' O' (.pointer (some ⟨g42, 0, none⟩)) s174.2.2.2 ∧ Rw 11 w' O' 3 (.slice x175.1 s174.1.length x175.2) s174.1 ∧ inI64 s174.2.1) _ (none, 0) ⟨O170, hB, hx1, h26, h8, h11, h14, h17, h79, h80, (Rw.nil 11 (by decide)), (show inI64 (0) from by decide)⟩ ⟨rfl, rfl, rfl, rfl, rfl, rfl, trivial⟩ ?_)
  rintro s174 x175 w178 cc180 ⟨O179, hB, hx1, h26, h8, h11, h14, h17, h195, h196, h192, r194⟩ hf182 hret183 hbrk184
  refine ewp_seq (ewp_seq (ewp_region (o_mv rfl rfl ?_)))
  obtain ⟨O197, v201, S198, ha200, h199, h202⟩ := BxR.opn h195 5 9 (by decide)
  obtain ⟨A203, c204, rfl⟩ := h202.form
  refine o_ld (hc := Blk.cell (i := 0) (h199.1) rfl) rfl rfl ?_
  refine o_ln rfl rfl ?_
  have l207 : s174.2.2.1.l.length ≤ 9223372036854775807 := Nat.le_trans h202.len.2.1 h202.len.2.2
  have r206 : inI64 (s174.2.2.1.l.length : Int) := rngNat l207
  refine o_ltS rfl rfl rfl (fun c208 => ?_) fun c208 => ?_
  ·
   replace hf182 := ip hf182 c208
   refine o_z ?_
   refine ewp_true rfl (ewp_skip (ewp_seq ?_))
   obtain ⟨y209, hy210, hf182⟩ := bs hf182
   refine ewp_join (fun l' w' => ∃ (x212 : (Option Addr × Nat)) (O' : Lab), subs l' [(1, (.slice A20 x1.length c21)), (2, (.pointer (some ⟨g22, 0, none⟩))), (6, (.pointer (some ⟨g49, 0, none⟩))), (7, (.func (.func 52) #[] #[(.pointer (some ⟨g42, 0, none⟩)), (.pointer (some ⟨g49, 0, none⟩))])), (11, (.slice x212.1 y209.1.length x212.2)), (12, (.int .i64 s174.2.1))] ∧ Bs w A w' O' ∧ Vb w' (Fr 0 w' O') (.slice A20 x1.length c21) x1 ∧ Lc 2 w' O' g22 26 [(.slice A9 x0.vars.length c10), (.slice A12 x0.init.length c13), (.slice A15 x0.goal.length c16), (.slice A18 x0.ops.length c19)] ∧ Vb w' (Fr 0 w' O') (.slice A9 x0.vars.length c10) x0.vars ∧ Vb w' (Fr 0 w' O') (.slice A12 x0.init.length c13) x0.init ∧ Vb w' (Fr 0 w' O') (.slice A15 x0.goal.length c16) x0.goal ∧ Vb w' (Fr 0 w' O') (.slice A18 x0.ops.length c19) x0.ops ∧ Ob 5 w' O' (.pointer (some ⟨g49, 0, none⟩)) y209.2.1 ∧ Ob 4 w' O' (.pointer (some ⟨g42, 0, none⟩)) y209.2.2 ∧ Rw 11 w' O' 3 (.slice x212.1 y209.1.length x212.2) y209.1) ?_ ?_
   ·
    refine ewp_block (ewp_seq ?_)
    obtain ⟨a217, e218, hy210⟩ := bs hy210
    obtain ⟨a219, e220, hy210⟩ := bs hy210
    obtain ⟨q221, e222, hy210⟩ := bs hy210
    obtain ⟨y223, hy224, hy210⟩ := bs hy210
    refine ewp_join (fun l' w' => ∃ (x226 : Nat) (O' : Lab), subs l' [(1, (.slice A20 x1.length c21)), (2, (.pointer (some ⟨g22, 0, none⟩))), (6, (.pointer (some ⟨g49, 0, none⟩))), (7, (.func (.func 52) #[] #[(.pointer (some ⟨g42, 0, none⟩)), (.pointer (some ⟨g49, 0, none⟩))])), (11, (.slice x175.1 s174.1.length x175.2)), (12, (.int .i64 s174.2.1)), (13, (.pointer (some ⟨x226, 0, none⟩))), (14, (.bool q221.2))] ∧ Bs w A w' O' ∧ Vb w' (Fr 0 w' O') (.slice A20 x1.length c21) x1 ∧ Lc 2 w' O' g22 26 [(.slice A9 x0.vars.length c10), (.slice A12 x0.init.length c13), (.slice A15 x0.goal.length c16), (.slice A18 x0.ops.length c19)] ∧ Vb w' (Fr 0 w' O') (.slice A9 x0.vars.length c10) x0.vars ∧ Vb w' (Fr 0 w' O') (.slice A12 x0.init.length c13) x0.init ∧ Vb w' (Fr 0 w' O') (.slice A15 x0.goal.length c16) x0.goal ∧ Vb w' (Fr 0 w' O') (.slice A18 x0.ops.length c19) x0.ops ∧ Ob 5 w' O' (.pointer (some ⟨g49, 0, none⟩)) s174.2.2.1 ∧ Ob 4 w' O' (.pointer (some ⟨g42, 0, none⟩)) s174.2.2.2 ∧ Rw 11 w' O' 3 (.slice x175.1 s174.1.length x175.2) s174.1 ∧ Lc 10 w' O' x226 68 [(.int .i64 q221.1.var), (.int .i64 q221.1.val)] ∧ inI64 q221.1.var ∧ inI64 q221.1.val) ?_ ?_
    ·
     refine ewp_drawX [(10, []), (14, []), (15, [10])] O197 ?_
     refine x_pre (fuel := 7) [] [(0, true), (1, true), (2, true), (3, true), (4, true), (5, true), (6, true), (7, true), (8, true), (9, true)] (by kernel_rfl) rfl ?_
     refine h_fa rfl rfl rfl ?_
     replace h26 := h26.st S198
     refine h_ldC (hc := fun w' ⟨O', hq⟩ => Blk.cell (i := 3) ((h26.st hq (by decide)).1) rfl) rfl rfl rfl ?_
     refine h_ldC (hc := fun w' ⟨O', hq⟩ => Blk.cell (i := 0) ((h199.st hq (by decide)).1) rfl) rfl rfl rfl ?_
     refine h_mv rfl rfl rfl ?_
     obtain ⟨p231, x230⟩ := atI_some' e218
     obtain ⟨b232, o233, ce234, hA235, hF238, hl236, hd237, rfl, r239⟩ := h202.elemF x230
     refine h_iaE (hA := hA235) (hj := (Int.toNat_of_nonneg p231).symm) (hlt := hl236) rfl rfl rfl rfl ?_
     refine h_ldC (hc := fun w' ⟨O', hq⟩ => cat0 (cellsAt_agree (hq.agree (i := 9) (by decide)) hF238 hd237)) rfl rfl rfl ?_
     obtain ⟨p241, x240⟩ := atI_some' e220
     replace h17 := h17.st S198
     obtain ⟨b242, o243, ce244, hA245, hF248, hl246, hd247, v249, v250, rfl, h251, h254, r257, z258⟩ := h17.elem x240
     obtain ⟨A252, c253, rfl⟩ := h251.form
     obtain ⟨A255, c256, rfl⟩ := h254.form
     refine h_iaE (hA := hA245) (hj := (Int.toNat_of_nonneg p241).symm) (hlt := hl246) rfl rfl rfl rfl ?_
     refine h_fa rfl rfl rfl (h_ldC (hc := fun w' ⟨O', hq⟩ => cat2 (cellsAt_agree (hq.agree (i := 0) (by decide)) hF248 hd247)) rfl rfl rfl ?_)
     refine h_mv rfl rfl rfl (hwp_nilT ?_)
     refine x_two (i := 10) (j := 14) (by kernel_rfl) rfl rfl ?_ ?_
     ·
      replace hx1 := hx1.st S198
      refine l_callA (O := O197) (A := All w178) (R := fun w' F v => T2 w' F v q221) (c_stubborn_missing (fun _ h => h) (Vb.mono (F := Fr 0 w178 O197) h251 Fr.lt) (Vb.mono (F := Fr 0 w178 O197) hx1 Fr.lt) e222) rfl rfl fun v263 w259 O260 S261 h262 => ?_
      obtain ⟨v264, v265, rfl, h266, h267⟩ := h262
      obtain ⟨cs268, rfl, rfl, r269, r270⟩ := h266
      obtain rfl := h267.bool
      have hZ := S261.lst [] (fun _ h => h.elim)
      refine x_go [(14, []), (15, [10])] hZ (by kernel_rfl) ?_
      refine x_pre (fuel := 4) [] [(11, true), (12, true)] (by kernel_rfl) rfl ?_
      refine h_mv rfl rfl rfl (h_ex rfl rfl rfl rfl (hwp_nilT ?_))
      refine x_pre (fuel := 3) [10] [(13, true)] (by kernel_rfl) rfl ?_
      refine h_ex rfl rfl rfl rfl (hwp_nilT ?_)
      refine x_one (i := 14) (by kernel_rfl) rfl ?_
      refine l_alloc 10 O260 rfl fun g271 w272 O273 S274 h275 => ?_
      have hZ := S274.lst [] (fun _ h => h.elim)
      refine x_go [(15, [10])] hZ (by kernel_rfl) ?_
      refine x_one (i := 15) (by kernel_rfl) rfl ?_
      refine l_store h275 rfl rfl rfl (Nat.le_of_ble_eq_true rfl) (by first | exact allOne rfl | simp [Value.cells, Value.oneCell', errV_one]) fun w276 S277 h275 => ?_
      replace h275 : Lc 10 w276 O273 g271 68 [(.int .i64 q221.1.var), (.int .i64 q221.1.val)] := h275
      have hZ := S277.lst [10] (fun _ h => by cases h; decide)
      refine x_go [] hZ (by kernel_rfl) ?_
      refine x_pre (fuel := 0) [] [(16, true)] (by kernel_rfl) rfl ?_
      refine h_as rfl rfl rfl (hwp_nilT ?_)
      refine x_nil (by kernel_rfl) ?_
      replace h199 := ((h199.st S261).st S274).st S277
      replace h202 := ((h202.st S261).st S274).st S277
      obtain ⟨O278, S279, hz281, ha282, h280⟩ := BxR.shut (x := s174.2.2.1) (l0 := 5) (l1 := 9) (by decide) h199 h202
      obtain rfl := sm hy224
      replace hB := ((((hB.st S198).st S261).st S274).st S277).st S279
      replace hx1 := (((hx1.st S261).st S274).st S277).st S279
      replace h8 := ((((h8.st S198).st S261).st S274).st S277).st S279
      replace h11 := ((((h11.st S198).st S261).st S274).st S277).st S279
      replace h14 := ((((h14.st S198).st S261).st S274).st S277).st S279
      replace h17 := (((h17.st S261).st S274).st S277).st S279
      replace h26 := (((h26.st S261).st S274).st S277).st S279
      replace h192 := ((((h192.st S198).st S261).st S274).st S277).st S279
      replace h196 := ((((h196.st S198).st S261).st S274).st S277).st S279
      replace h275 := h275.st S279
      exact ⟨g271, _, ⟨rfl, rfl, rfl, rfl, rfl, rfl, rfl, rfl, trivial⟩, hB, hx1, h26, h8, h11, h14, h17, h280, h196, h192, h275, r269, r270⟩
     ·
      refine l_alloc 10 O197 rfl fun g283 w284 O285 S286 h287 => ?_
      have hZ := S286.lst [] (fun _ h => h.elim)
      refine x_go [(10, []), (15, [10])] hZ (by kernel_rfl) ?_
      refine x_one (i := 10) (by kernel_rfl) rfl ?_
      replace hx1 := (hx1.st S198).st S286
      replace h251 := h251.st S286
      refine l_callA (O := O285) (A := All w284) (R := fun w' F v => T2 w' F v q221) (c_stubborn_missing (fun _ h => h) (Vb.mono (F := Fr 0 w284 O285) h251 Fr.lt) (Vb.mono (F := Fr 0 w284 O285) hx1 Fr.lt) e222) rfl rfl fun v292 w288 O289 S290 h291 => ?_
      obtain ⟨v293, v294, rfl, h295, h296⟩ := h291
      obtain ⟨cs297, rfl, rfl, r298, r299⟩ := h295
      obtain rfl := h296.bool
      have hZ := S290.lst [] (fun _ h => h.elim)
      refine x_go [(15, [10])] hZ (by kernel_rfl) ?_
      refine x_pre (fuel := 3) [] [(11, true), (12, true)] (by kernel_rfl) rfl ?_
      refine h_mv rfl rfl rfl (h_ex rfl rfl rfl rfl (hwp_nilT ?_))
      refine x_pre (fuel := 2) [10] [(13, true)] (by kernel_rfl) rfl ?_
      refine h_ex rfl rfl rfl rfl (hwp_nilT ?_)
      refine x_one (i := 15) (by kernel_rfl) rfl ?_
      replace h287 := h287.st S290
      refine l_store h287 rfl rfl rfl (Nat.le_of_ble_eq_true rfl) (by first | exact allOne rfl | simp [Value.cells, Value.oneCell', errV_one]) fun w300 S301 h287 => ?_
      replace h287 : Lc 10 w300 O289 g283 68 [(.int .i64 q221.1.var), (.int .i64 q221.1.val)] := h287
      have hZ := S301.lst [10] (fun _ h => by cases h; decide)
      refine x_go [] hZ (by kernel_rfl) ?_
      refine x_pre (fuel := 0) [] [(16, true)] (by kernel_rfl) rfl ?_
      refine h_as rfl rfl rfl (hwp_nilT ?_)
      refine x_nil (by kernel_rfl) ?_
      replace h199 := ((h199.st S286).st S290).st S301
      replace h202 := ((h202.st S286).st S290).st S301
      obtain ⟨O302, S303, hz305, ha306, h304⟩ := BxR.shut (x := s174.2.2.1) (l0 := 5) (l1 := 9) (by decide) h199 h202
      obtain rfl := sm hy224
      replace hB := ((((hB.st S198).st S286).st S290).st S301).st S303
      replace hx1 := ((hx1.st S290).st S301).st S303
      replace h8 := ((((h8.st S198).st S286).st S290).st S301).st S303
      replace h11 := ((((h11.st S198).st S286).st S290).st S301).st S303
      replace h14 := ((((h14.st S198).st S286).st S290).st S301).st S303
      replace h17 := (((h17.st S286).st S290).st S301).st S303
      replace h26 := (((h26.st S286).st S290).st S301).st S303
      replace h192 := ((((h192.st S198).st S286).st S290).st S301).st S303
      replace h196 := ((((h196.st S198).st S286).st S290).st S301).st S303
      replace h287 := h287.st S303
      exact ⟨g283, _, ⟨rfl, rfl, rfl, rfl, rfl, rfl, rfl, rfl, trivial⟩, hB, hx1, h26, h8, h11, h14, h17, h304, h196, h192, h287, r298, r299⟩
    replace hB := hB.st S198
    replace hx1 := hx1.st S198
    replace h8 := h8.st S198
    replace h11 := h11.st S198
    replace h14 := h14.st S198
    replace h17 := h17.st S198
    replace h26 := h26.st S198
    replace h192 := h192.st S198
    replace h196 := h196.st S198
    rintro l307 w308 ⟨x226, O309, hs310, hB, hx1, h26, h8, h11, h14, h17, h273, h196, h192, h227, r228, r229⟩
    refine ewp_sub _ hs310 ?_
    refine ewp_seq (ewp_seq (ewp_region (o_mv rfl rfl (o_z ?_))))
    refine ewp_cond rfl (fun c311 => ?_) (fun c311 => ?_)
    ·
     replace hy210 := ip hy210 c311
     refine ewp_seq (ewp_region (o_mv rfl rfl (o_la (hl := rfl) (hc := (h26.1).cellsAt) rfl rfl ?_)))
     refine o_la (hl := rfl) (hc := (h227.1).cellsAt) rfl rfl ?_
     obtain ⟨q312, e313, hy210⟩ := bs hy210
     refine l_call (O := O309) (R := fun w' F v => Vb w' F v q312) (c_stubborn_writers Fr.lt (Vb.ofAgg (cs := [(.slice A9 x0.vars.length c10), (.slice A12 x0.init.length c13), (.slice A15 x0.goal.length c16), (.slice A18 x0.ops.length c19)]) (x := x0) rfl ⟨_, _, _, _, rfl, h8, h11, h14, h17⟩) (Vb.ofAgg (cs := [(.int .i64 q221.1.var), (.int .i64 q221.1.val)]) (x := q221.1) rfl ⟨rfl, r228, r229⟩) e313) rfl rfl fun v318 w314 O315 S316 h317 => ?_
     obtain ⟨A319, c320, rfl⟩ := h317.form
     obtain ⟨q321, e322, hy210⟩ := bs hy210
     replace h196 := h196.st S316
     replace h273 := h273.st S316
     refine l_callMv (O := O315) (c_stubborn_set_l1 h317 h196 h273 (by decide) e322) rfl rfl rfl rfl fun v327 w323 O324 S325 h326 => ?_
     obtain ⟨h328, h329⟩ := h326
     refine o_z ?_
     refine ewp_exit ?_
     obtain rfl := sm hy210
     replace hB := (hB.st S316).st S325
     replace hx1 := (hx1.st S316).st S325
     replace h8 := (h8.st S316).st S325
     replace h11 := (h11.st S316).st S325
     replace h14 := (h14.st S316).st S325
     replace h17 := (h17.st S316).st S325
     replace h26 := (h26.st S316).st S325
     replace h192 := (h192.st S316).st S325
     exact ⟨(x175.1, x175.2), _, ⟨rfl, rfl, rfl, rfl, rfl, rfl, trivial⟩, hB, hx1, h26, h8, h11, h14, h17, h329, h328, h192⟩
    ·
     replace hy210 := im' hy210 c311
     refine ewp_skip (ewp_seq (ewp_region (o_mv rfl rfl ?_)))
     obtain ⟨O330, v334, S331, ha333, h332, h335⟩ := BxR.opn h273 5 9 (by decide)
     obtain ⟨A336, c337, rfl⟩ := h335.form
     refine o_ld (hc := Blk.cell (i := 0) (h332.1) rfl) rfl rfl ?_
     refine o_mv rfl rfl ?_
     obtain ⟨a339, e340, hy210⟩ := bs hy210
     obtain ⟨p342, x341⟩ := atI_some' e340
     obtain ⟨b343, o344, ce345, hA346, hl347, hd348, rfl, r350⟩ := h335.elem x341
     refine o_iaE (hA := hA346) (hj := (Int.toNat_of_nonneg p342).symm) (hlt := hl347) rfl rfl rfl ?_
     refine o_ld (hc := cat0 hd348) rfl rfl ?_
     obtain ⟨u351, e352, hy210⟩ := bs hy210
     obtain ⟨e352, e353, e354⟩ := appI_some e352
     replace h192 := h192.st S331
     refine l_append1 rfl (a := a339) h192 (vInt r350) (fun _ => rfl) rfl (by decide) (by decide) e353 e354 ⟨rfl, rfl⟩ fun g355 A356 c357 w358 O359 S360 h361 => ?_
     rw [← e352] at h361 ⊢
     refine o_as rfl rfl (o_z ?_)
     refine ewp_drawX [(6, [])] O359 ?_
     refine x_pre (fuel := 2) [] [(0, true), (1, true), (2, true), (3, true), (4, true), (5, true)] (by kernel_rfl) rfl ?_
     refine h_mv rfl rfl rfl ?_
     replace h26 := (h26.st S331).st S360
     refine h_laB (hl := rfl) (hb := fun w' ⟨O', hq⟩ => ((h26.st hq (by decide)).1).cellsAt) rfl rfl rfl ?_
     replace h332 := h332.st S360
     refine h_ldC (hc := fun w' ⟨O', hq⟩ => Blk.cell (i := 0) ((h332.st hq (by decide)).1) rfl) rfl rfl rfl ?_
     refine h_mv rfl rfl rfl ?_
     obtain ⟨a363, e364, hy210⟩ := bs hy210
     obtain ⟨p366, x365⟩ := atI_some' e364
     replace h335 := h335.st S360
     obtain ⟨b367, o368, ce369, hA370, hF373, hl371, hd372, rfl, r374⟩ := h335.elemF x365
     refine h_iaE (hA := hA370) (hj := (Int.toNat_of_nonneg p366).symm) (hlt := hl371) rfl rfl rfl rfl ?_
     refine h_ldC (hc := fun w' ⟨O', hq⟩ => cat0 (cellsAt_agree (hq.agree (i := 9) (by decide)) hF373 hd372)) rfl rfl rfl ?_
     refine hwp_nilT ?_
     refine x_one (i := 6) (by kernel_rfl) rfl ?_
     obtain ⟨q375, e376, hy210⟩ := bs hy210
     replace h8 := (h8.st S331).st S360
     replace h11 := (h11.st S331).st S360
     replace h14 := (h14.st S331).st S360
     replace h17 := (h17.st S331).st S360
     refine l_call (O := O359) (R := fun w' F v => Vb w' F v q375) (c_stubborn_meets Fr.lt (Vb.ofAgg (cs := [(.slice A9 x0.vars.length c10), (.slice A12 x0.init.length c13), (.slice A15 x0.goal.length c16), (.slice A18 x0.ops.length c19)]) (x := x0) rfl ⟨_, _, _, _, rfl, h8, h11, h14, h17⟩) r374 e376) rfl rfl fun v381 w377 O378 S379 h380 => ?_
     obtain ⟨A382, c383, rfl⟩ := h380.form
     have hZ := S379.lst [] (fun _ h => h.elim)
     refine x_go [] hZ (by kernel_rfl) ?_
     refine x_one (i := 7) (by kernel_rfl) rfl ?_
     replace h332 := h332.st S379
     replace h335 := h335.st S379
     obtain ⟨O384, S385, hz387, ha388, h386⟩ := BxR.shut (x := s174.2.2.1) (l0 := 5) (l1 := 9) (by decide) h332 h335
     obtain ⟨q389, e390, hy210⟩ := bs hy210
     replace h196 := (((h196.st S331).st S360).st S379).st S385
     replace h380 := h380.st S385
     refine l_callMv (O := O384) (c_stubborn_set_l1 h380 h196 h386 (by decide) e390) rfl rfl rfl rfl fun v395 w391 O392 S393 h394 => ?_
     obtain ⟨h396, h397⟩ := h394
     refine x_end (by kernel_rfl) ?_
     refine x_nil (by kernel_rfl) ?_
     obtain rfl := sm hy210
     replace hB := ((((hB.st S331).st S360).st S379).st S385).st S393
     replace hx1 := ((((hx1.st S331).st S360).st S379).st S385).st S393
     replace h8 := ((h8.st S379).st S385).st S393
     replace h11 := ((h11.st S379).st S385).st S393
     replace h14 := ((h14.st S379).st S385).st S393
     replace h17 := ((h17.st S379).st S385).st S393
     replace h26 := ((h26.st S379).st S385).st S393
     replace h361 := ((h361.st S379).st S385).st S393
     exact ⟨(A356, c357), _, ⟨rfl, rfl, rfl, rfl, rfl, rfl, trivial⟩, hB, hx1, h26, h8, h11, h14, h17, h397, h396, h361⟩
   replace hB := hB.st S198
   replace hx1 := hx1.st S198
   replace h8 := h8.st S198
   replace h11 := h11.st S198
   replace h14 := h14.st S198
   replace h17 := h17.st S198
   replace h26 := h26.st S198
   rintro l398 w399 ⟨x212, O400, hs401, hB, hx1, h26, h8, h11, h14, h17, h215, h216, h213⟩
   refine ewp_sub _ hs401 ?_
   refine ewp_region (o_mv rfl rfl ?_)
   obtain ⟨n402, e403, hf182⟩ := bs hf182
   have r404 := (chkI_rng e403)
   refine o_adE (he := e403) rfl rfl rfl ?_
   refine o_as rfl rfl (o_z ?_)
   obtain rfl := sm hf182
   refine (?_ : Exists _)
   exact ⟨_, (x212.1, x212.2), rfl, ⟨rfl, rfl, rfl, rfl, rfl, rfl, trivial⟩, _, hB, hx1, h26, h8, h11, h14, h17, h215, h216, h213, r404⟩
  ·
   replace hf182 := im hf182 c208
   refine o_z ?_
   refine ewp_false rfl (ewp_exit ?_)
   obtain ⟨O405, S406, hz408, ha409, h407⟩ := BxR.shut (x := s174.2.2.1) (l0 := 5) (l1 := 9) (by decide) h199 h202
   obtain rfl := sm hf182
   refine (?_ : Exists _)
   replace hB := (hB.st S198).st S406
   replace h192 := (h192.st S198).st S406
   exact ⟨_, (x175.1, x175.2), hbrk184 _ rfl, ⟨rfl, trivial⟩, _, hB, h192, r194⟩
 rintro l410 w411 ⟨s414, x415, rfl, hs413, O412, hB, h192, r194⟩
 replace hm := fin_done hm
 refine ewp_sub _ hs413 ?_
 refine ewp_seq (ewp_region (o_mv rfl rfl ?_))
 obtain ⟨q416, e417, hm⟩ := bs hm
 refine l_callM (O := O412) (c_slices_Sort_Lint_int h192 e417) rfl rfl fun v422 w418 O419 S420 h423 => ?_
 refine o_z ?_
 refine ewp_seq (ewp_region (o_mv rfl rfl (o_as rfl rfl (o_z ?_))))
 refine ewp_ret ?_
 obtain ⟨O424, S425, h423⟩ := h423.freeze
 obtain rfl := sm hm
 replace hB := (hB.st S420).st S425
 exact ret1v rfl (res_tmp rfl) ⟨hB.ext, (Vb.mono (F := Fr 0 w418 O424) h423 hB.out)⟩
noncomputable def m_stubborn_Set (x0 : Tsk) (x1 : List Int) : Option ((List Int) × Err) :=
  bnd (m_task_Check x0) fun q27 => if q27.n ≠ 0 then (some (([] : List Int), (⟨q27.n⟩ : Err))) else (bnd (m_task_Proper x0.vars x1) fun q36 => if q36 = true then bnd (m_stubborn_set x0 x1) fun q43 => some (q43, (⟨0⟩ : Err)) else some (([] : List Int), (⟨2⟩ : Err)))
theorem c_stubborn_Set {w : World} {A : Nat → Prop} (hA : ∀ k, A k → k < w.heap.size) {vx0 : Value} {x0 : Tsk} (hx0 : Vb w A vx0 x0) {vx1 : Value} {x1 : List Int} (hx1 : Vb w A vx1 x1) {r : (List Int) × Err} (hm : m_stubborn_Set x0 x1 = some r) :
    Fn Try.prog 12 [vx0, vx1] w fun v w' => Ext w w' ∧ T2 w' (upA A w w') v r := by
 obtain ⟨O, hB, hA0⟩ := enter hA
 replace hx0 := hx0.mono hA0
 obtain ⟨cs3, rfl, v4, v5, v6, v7, rfl, h8, h11, h14, h17⟩ := hx0
 obtain ⟨A9, c10, rfl⟩ := h8.form
 obtain ⟨A12, c13, rfl⟩ := h11.form
 obtain ⟨A15, c16, rfl⟩ := h14.form
 obtain ⟨A18, c19, rfl⟩ := h17.form
 replace hx1 := hx1.mono hA0
 obtain ⟨A20, c21, rfl⟩ := hx1.form
 refine fn_enter Try.func12 rfl Try.ntmps12 rfl ?_
 unfold m_stubborn_Set at hm
 refine ewp_seq (ewp_region (l_box 2 O rfl rfl fun g22 w23 O24 S25 h26 => ?_))
 replace h26 : Lc 2 w23 O24 g22 26 [(.slice A9 x0.vars.length c10), (.slice A12 x0.init.length c13), (.slice A15 x0.goal.length c16), (.slice A18 x0.ops.length c19)] := h26
 refine o_as rfl rfl (o_as rfl rfl (o_z ?_))
 refine ewp_seq (ewp_seq (ewp_region (o_la (hl := rfl) (hc := (h26.1).cellsAt) rfl rfl ?_)))
 obtain ⟨q27, e28, hm⟩ := bs hm
 replace h8 := h8.st S25
 replace h11 := h11.st S25
 replace h14 := h14.st S25
 replace h17 := h17.st S25
 refine l_callA (O := O24) (A := All w23) (R := fun w' F v => Vb w' F v q27) (c_task_Check (fun _ h => h) (Vb.mono (F := Fr 0 w23 O24) (Vb.ofAgg (cs := [(.slice A9 x0.vars.length c10), (.slice A12 x0.init.length c13), (.slice A15 x0.goal.length c16), (.slice A18 x0.ops.length c19)]) (x := x0) rfl ⟨_, _, _, _, rfl, h8, h11, h14, h17⟩) Fr.lt) e28) rfl rfl fun v33 w29 O30 S31 h32 => ?_
 obtain ⟨rfl, r34⟩ := h32.err
 refine o_as rfl rfl (o_z ?_)
 refine ewp_seq (ewp_region (o_mv rfl rfl (o_rnS rfl rfl (fun c35 => ?_) fun c35 => ?_)))
 ·
  replace hm := ip hm c35
  refine o_z ?_
  refine ewp_true rfl (ewp_seq (ewp_region (o_mv rfl rfl (o_as rfl rfl (o_as rfl rfl (o_z ?_))))))
  refine ewp_ret ?_
  obtain rfl := sm hm
  replace hB := (hB.st S25).st S31
  exact ret2 rfl (res_tmp rfl) (res_tmp rfl) ⟨hB.ext, _, _, rfl, (Vb.mono (F := Fr 0 w29 O30) (Vb.nil _ _) hB.out), (vErr r34)⟩
 ·
  replace hm := im hm c35
  refine o_z ?_
  refine ewp_false rfl (ewp_skip (ewp_seq (ewp_seq (ewp_region (o_fa rfl rfl ?_)))))
  replace h26 := h26.st S31
  refine o_ld (hc := Blk.cell (i := 0) (h26.1) rfl) rfl rfl ?_
  refine o_mv rfl rfl ?_
  obtain ⟨q36, e37, hm⟩ := bs hm
  replace hx1 := (hx1.st S25).st S31
  replace h8 := h8.st S31
  refine l_callA (O := O30) (A := All w29) (R := fun w' F v => Vb w' F v q36) (c_task_Proper (fun _ h => h) (Vb.mono (F := Fr 0 w29 O30) h8 Fr.lt) (Vb.mono (F := Fr 0 w29 O30) hx1 Fr.lt) e37) rfl rfl fun v42 w38 O39 S40 h41 => ?_
  obtain rfl := h41.bool
  cases q36
  case false =>
   replace hm := iF hm
   refine o_nf rfl rfl (o_z ?_)
   refine ewp_true rfl (ewp_seq (ewp_region (o_miE rfl rfl ?_)))
   refine o_as rfl rfl (o_as rfl rfl (o_z ?_))
   refine ewp_ret ?_
   obtain rfl := sm hm
   replace hB := ((hB.st S25).st S31).st S40
   exact ret2 rfl (res_tmp rfl) (res_tmp rfl) ⟨hB.ext, _, _, rfl, (Vb.mono (F := Fr 0 w38 O39) (Vb.nil _ _) hB.out), (vErr (by decide))⟩
  replace hm := iT hm
  refine o_nt rfl rfl (o_z ?_)
  refine ewp_false rfl (ewp_skip (ewp_seq (ewp_region ?_)))
  replace h26 := h26.st S40
  refine o_la (hl := rfl) (hc := (h26.1).cellsAt) rfl rfl ?_
  refine o_mv rfl rfl ?_
  obtain ⟨q43, e44, hm⟩ := bs hm
  replace hx1 := hx1.st S40
  replace h8 := h8.st S40
  replace h11 := (h11.st S31).st S40
  replace h14 := (h14.st S31).st S40
  replace h17 := (h17.st S31).st S40
  refine l_call (O := O39) (R := fun w' F v => Vb w' F v q43) (c_stubborn_set Fr.lt (Vb.ofAgg (cs := [(.slice A9 x0.vars.length c10), (.slice A12 x0.init.length c13), (.slice A15 x0.goal.length c16), (.slice A18 x0.ops.length c19)]) (x := x0) rfl ⟨_, _, _, _, rfl, h8, h11, h14, h17⟩) hx1 e44) rfl rfl fun v49 w45 O46 S47 h48 => ?_
  obtain ⟨A50, c51, rfl⟩ := h48.form
  refine o_as rfl rfl (o_as rfl rfl (o_z ?_))
  refine ewp_ret ?_
  obtain rfl := sm hm
  replace hB := (((hB.st S25).st S31).st S40).st S47
  exact ret2 rfl (res_tmp rfl) (res_tmp rfl) ⟨hB.ext, _, _, rfl, (Vb.mono (F := Fr 0 w45 O46) h48 hB.out), (vErr (show inI64 0 from by decide))⟩
end
section
open Go Go.RowKit
attribute [local irreducible] ewp owp hwp hwq Ev Evg Fn retPost Res1
attribute [local irreducible] hwx loudX
def m_slices_Clone_Luint64_uint64 (xs : List U64) : Option (List U64) := if xs.length * 8 ≤ 140737488355328 ∧ xs.length ≤ 9223372036854775807 then some xs else none
theorem c_slices_Clone_Luint64_uint64 {w : World} {A : Nat → Prop} (hA : ∀ k, A k → k < w.heap.size) {v0 : Value} {x0 : List U64} (h0 : Vb w A v0 x0) {r : List U64} (hm : m_slices_Clone_Luint64_uint64 x0 = some r) :
    Fn Try.prog 100 [v0] w fun v w' => Ext w w' ∧ RowR w w' (upA A w w') 158 v r := by
  obtain ⟨⟨hl, hl2⟩, rfl⟩ := ite_some hm
  obtain ⟨O, hB, hA0⟩ := enter hA
  replace h0 := h0.mono hA0
  obtain ⟨Ad, c, rfl⟩ := h0.form
  refine fn_enter Try.func100 rfl Try.ntmps100 rfl ?_
  cases Ad with
  | none =>
    have hx : x0 = [] := by
      cases x0 with
      | nil => rfl
      | cons x xs => obtain ⟨_, _, _, h, _⟩ := h0.elem (k := 0) (x := x) rfl; cases h
    subst hx
    ((repeat (first | refine ewp_seq ?_ | refine ewp_block ?_ | refine ewp_region ?_ | refine ewp_skip ?_ | refine ewp_exit ?_ | refine ewp_ret ?_ | refine ewp_true rfl ?_ | refine ewp_false rfl ?_)) <;> (refine o_as rfl rfl ?_ <;> (first | refine owp_nilT ?_ | refine owp_nilB ?_ | refine owp_nilBB ?_ | refine owp_nil ?_)) <;> (repeat (first | refine ewp_seq ?_ | refine ewp_block ?_ | refine ewp_region ?_ | refine ewp_skip ?_ | refine ewp_exit ?_ | refine ewp_ret ?_ | refine ewp_true rfl ?_ | refine ewp_false rfl ?_)) <;> (refine o_mv rfl rfl ?_ <;> refine o_sn rfl rfl ?_ <;> (first | refine owp_nilT ?_ | refine owp_nilB ?_ | refine owp_nilBB ?_ | refine owp_nil ?_)) <;> (repeat (first | refine ewp_seq ?_ | refine ewp_block ?_ | refine ewp_region ?_ | refine ewp_skip ?_ | refine ewp_exit ?_ | refine ewp_ret ?_ | refine ewp_true rfl ?_ | refine ewp_false rfl ?_)) <;> (refine o_as rfl rfl ?_ <;> (first | refine owp_nilT ?_ | refine owp_nilB ?_ | refine owp_nilBB ?_ | refine owp_nil ?_)) <;> (repeat (first | refine ewp_seq ?_ | refine ewp_block ?_ | refine ewp_region ?_ | refine ewp_skip ?_ | refine ewp_exit ?_ | refine ewp_ret ?_ | refine ewp_true rfl ?_ | refine ewp_false rfl ?_)))
    exact ret1 rfl rfl ⟨Below.refl _ _, RowR.nil⟩
  | some ad =>
    ((repeat (first | refine ewp_seq ?_ | refine ewp_block ?_ | refine ewp_region ?_ | refine ewp_skip ?_ | refine ewp_exit ?_ | refine ewp_ret ?_ | refine ewp_true rfl ?_ | refine ewp_false rfl ?_)) <;> (refine o_as rfl rfl ?_ <;> (first | refine owp_nilT ?_ | refine owp_nilB ?_ | refine owp_nilBB ?_ | refine owp_nil ?_)) <;> (repeat (first | refine ewp_seq ?_ | refine ewp_block ?_ | refine ewp_region ?_ | refine ewp_skip ?_ | refine ewp_exit ?_ | refine ewp_ret ?_ | refine ewp_true rfl ?_ | refine ewp_false rfl ?_)) <;> (refine o_mv rfl rfl ?_ <;> refine o_sn rfl rfl ?_ <;> (first | refine owp_nilT ?_ | refine owp_nilB ?_ | refine owp_nilBB ?_ | refine owp_nil ?_)) <;> (repeat (first | refine ewp_seq ?_ | refine ewp_block ?_ | refine ewp_region ?_ | refine ewp_skip ?_ | refine ewp_exit ?_ | refine ewp_ret ?_ | refine ewp_true rfl ?_ | refine ewp_false rfl ?_)))
    refine l_bslice 2 (by decide) O (xs := ([] : List U64)) rfl rfl rfl rfl trivial (by decide) (by decide) rfl fun g w1 O1 S1 h1 => ?_
    replace hB := hB.st S1 (fun h => h) (fun h => h)
    replace h0 := h0.st S1 (fun h => h)
    (refine o_mv rfl rfl ?_)
    refine l_append rfl h1 h0.rd rfl rfl (by decide) (by simpa using hl) (by simpa using hl2) rfl fun A2 c2 w2 O2 S2 h2 => ?_
    replace hB := hB.st S2 (by decide) (by decide)
    rw [List.nil_append] at h2 ⊢
    (refine o_as rfl rfl ?_ <;> (first | refine owp_nilT ?_ | refine owp_nilB ?_ | refine owp_nilBB ?_ | refine owp_nil ?_))
    repeat (first | refine ewp_seq ?_ | refine ewp_block ?_ | refine ewp_region ?_ | refine ewp_skip ?_ | refine ewp_exit ?_ | refine ewp_ret ?_ | refine ewp_true rfl ?_ | refine ewp_false rfl ?_)
    exact ret1 rfl rfl ⟨hB.ext, h2.out hB (by decide)⟩
structure PFd where
  word : Int
  bit : Int
  width : Int
  size : Int
instance : Rp PFd where
  isAgg := true
  size := 4
  R w F cs x := cs = [.int .i64 x.word, .int .i64 x.bit, .int .i64 x.width, .int .i64 x.size] ∧ inI64 x.word ∧ inI64 x.bit ∧ inI64 x.width ∧ inI64 x.size
  len := by rintro w F cs x ⟨rfl, h0, h1, h2, h3⟩; rfl
  one := by rintro w F cs x ⟨rfl, h0, h1, h2, h3⟩ u hu; simp at hu; rcases hu with rfl | rfl | rfl | rfl <;> first | rfl | exact Vb.one rfl (by assumption)
  agree := by rintro w w' F cs x ⟨rfl, h0, h1, h2, h3⟩ ha; exact ⟨rfl, h0, h1, h2, h3⟩
  mono := by rintro w F G cs x ⟨rfl, h0, h1, h2, h3⟩ ha; exact ⟨rfl, h0, h1, h2, h3⟩
structure Pkr where
  fields : List PFd
  words : Int
instance : Ow Pkr where
  R w F M v x := ∃ (g : Nat) (L : Lab) (c0 : Value), v = .pointer (some ⟨g, 0, none⟩) ∧ Blk w g 128 [c0, .int .i64 x.words] ∧ M g ∧ L g = 0 ∧ RwM w F (fun k => M k ∧ L k = 1) 130 c0 x.fields ∧ inI64 x.words
  agree := by rintro w w' F M v x ⟨g, L, c0, rfl, hb, hM, hL, h0, h1⟩ a1 a2; exact ⟨g, L, c0, rfl, hb.keep (a2 g hM), hM, hL, h0.agree a1 fun k hk => a2 k hk.1, h1⟩
  mono := by rintro w F M F' M' v x ⟨g, L, c0, rfl, hb, hM, hL, h0, h1⟩ a1 a2 a3; exact ⟨g, L, c0, rfl, hb, a2 g hM, hL, h0.mono a1 (fun k hk => ⟨a2 k hk.1, hk.2⟩) fun k hf hm => a3 k hf hm.1, h1⟩
instance : OwP Pkr := ⟨by rintro w F M v x ⟨g, L, c0, rfl, _⟩; exact ⟨g, rfl⟩⟩
theorem Pkr.opn {i : Nat} {w : World} {O : Lab} {p : Nat} {x : Pkr} (h : Ob i w O (.pointer (some ⟨p, 0, none⟩)) x) (l0 l1 : Nat) (hl : l0 ≠ 0 ∧ l1 ≠ 0) : ∃ (O' : Lab) (c0 : Value), St (eT i) w O w O' ∧ (∀ k, Fr i w O k → ∃ q, q ∈ [l0, l1] ∧ Fr q w O' k) ∧ Lc l0 w O' p 128 [c0, .int .i64 x.words] ∧ Rw l1 w O' 130 c0 x.fields ∧ inI64 x.words := by
  obtain ⟨⟨g, L, c0, hv, hb, hM, hL, h0, h1⟩, hi⟩ := h
  obtain rfl : p = g := by injection hv with hv; injection hv with hv; injection hv
  exact ⟨part O i L [l0, l1], c0, part_st hi, part_all (by simp), ⟨hb, (part_fr (j := 0) rfl p ⟨hM, hL⟩).2⟩, h0.rw (part_fr0 hi) (part_fr (j := 1) rfl) hl.2, h1⟩
theorem Pkr.shut {w : World} {O : Lab} {p : Nat} {x : Pkr} {l0 l1 : Nat} {c0 : Value} (hd : ¬ 0 ∈ [l0, l1] ∧ [l0, l1].idxOf l0 = 0 ∧ [l0, l1].idxOf l1 = 1) (hb : Lc l0 w O p 128 [c0, .int .i64 x.words]) (h0 : Rw l1 w O 130 c0 x.fields) (h1 : inI64 x.words) : ∃ O', St (· ∈ [l0, l1]) w O w O' ∧ (∀ k, Fr 0 w O k → Fr 0 w O' k) ∧ (∀ q, q ∈ [l0, l1] → ∀ k, Fr q w O k → Fr l0 w O' k) ∧ Ob l0 w O' (.pointer (some ⟨p, 0, none⟩)) x := by
  have hb1 : l0 ≠ 0 := fun e => hd.1 (by simp [e])
  have hg := whole_fr (i := l0) hd.2.1 (by simp) p ⟨hb.1.lt, hb.2⟩
  exact ⟨whole O l0 [l0, l1], whole_st, whole_fr0 hd.1, whole_all, ⟨p, fun k => [l0, l1].idxOf (O k), c0, rfl, hb.1, hg.1, hg.2, h0.m (whole_fr0 hd.1) (whole_fr hd.2.2 (by simp)) (fun k a b => frNe0 hb1 k a b.1), h1⟩, hb1⟩
noncomputable def m_pack_New (x0 : List Int) : Option ((Option Pkr) × Err) :=
  if 64 < (x0.length : Int) then (some (none, (⟨5⟩ : Err))) else (bnd (rng (ρ := (Option Pkr) × Err) (fun (k25 : Nat) (a26 : Int) (s23 : Int × Pkr) => bnd (if a26 < 1 then (some true) else (if 64 < a26 then (some true) else (some false)) : Option Bool) fun y48 => if y48 = true then (some (.ret (none, (⟨1⟩ : Err)))) else (bnd (lop (ρ := Ctl (Int × Pkr) ((Option Pkr) × Err)) (fun (s61 : Int) => bnd (shlI 1 s61) fun n76 => if n76 < a26 then (bnd (chkI (s61 + 1)) fun n80 => some (.next n80)) else (some (.brk s61))) 0) fun res59 => fin res59 fun (s87 : Int) => bnd (bnd (chkI (s23.1 + s87)) fun n95 => if 64 < n95 then (bnd (chkI (s23.2.words + 1)) fun n109 => some (0, (⟨s23.2.fields, n109⟩ : Pkr))) else (some (s23.1, s23.2)) : Option (Int × Pkr)) fun y89 => bnd (chkI (y89.2.words - 1)) fun n133 => bnd (appI 32 y89.2.fields [(⟨n133, y89.1, s87, a26⟩ : PFd)]) fun u142 => bnd (chkI (y89.1 + s87)) fun n155 => some (.next (n155, (⟨u142, y89.2.words⟩ : Pkr))))) x0 0 (0, (⟨([] : List PFd), 1⟩ : Pkr))) fun res21 => fin res21 fun (s167 : Int × Pkr) => some ((some s167.2), (⟨0⟩ : Err)))
theorem c_pack_New {w : World} {O : Lab} {vx0 : Value} {x0 : List Int} (hx0 : Vb w (Fr 0 w O) vx0 x0) (j0 : Nat) (hj0 : j0 ≠ 0) {r : (Option Pkr) × Err} (hm : m_pack_New x0 = some r) :
    Fn Try.prog 57 [vx0] w fun v w' => ∃ O', St nT w O w' O' ∧ ∃ v0 v1 : Value, v = .tuple #[v0, v1] ∧ Obo j0 w' O' v0 r.1 ∧ Vb w' (Fr 0 w' O') v1 r.2 := by
 obtain ⟨O0, hE, hz0⟩ := ent0 (w := w) (O := O)
 have hB : Bm w O0 w O0 := Bm.refl
 replace hx0 := hx0.mono hz0
 obtain ⟨A2, c3, rfl⟩ := hx0.form
 refine fn_enter Try.func57 rfl Try.ntmps57 rfl ?_
 unfold m_pack_New at hm
 refine ewp_seq (ewp_region (o_as rfl rfl (o_as rfl rfl (o_z ?_))))
 refine ewp_seq (ewp_seq (ewp_region (o_mv rfl rfl (o_ln rfl rfl ?_))))
 have l5 : x0.length ≤ 9223372036854775807 := Nat.le_trans hx0.len.2.1 hx0.len.2.2
 have r4 : inI64 (x0.length : Int) := rngNat l5
 refine o_gtS rfl rfl rfl (fun c6 => ?_) fun c6 => ?_
 ·
  replace hm := ip hm c6
  refine o_z ?_
  refine ewp_true rfl (ewp_seq (ewp_region (o_miE rfl rfl ?_)))
  refine o_as rfl rfl (o_as rfl rfl (o_z ?_))
  refine ewp_ret ?_
  obtain rfl := sm hm
  obtain ⟨O', hS', hz, hl⟩ := hE.leave (fun _ => 0) rfl hB
  exact ret2 rfl (res_tmp rfl) (res_tmp rfl) ⟨O', hS', _, _, rfl, rfl, (vErr (by decide))⟩
 ·
  replace hm := im hm c6
  refine o_z ?_
  refine ewp_false rfl (ewp_skip (ewp_seq (ewp_region (o_bd rfl rfl rfl ?_))))
  refine l_box 2 O0 rfl rfl fun g7 w8 O9 S10 h11 => ?_
  replace h11 : Lc 2 w8 O9 g7 128 [(.slice none 0 0), (.int .i64 1)] := h11
  refine o_as rfl rfl (o_z ?_)
  refine ewp_seq (ewp_region (o_as rfl rfl (o_z ?_)))
  refine ewp_seq (ewp_seq (ewp_region (o_mv rfl rfl (o_ln rfl rfl ?_))))
  replace hx0 := hx0.st S10
  have l13 : x0.length ≤ 9223372036854775807 := Nat.le_trans hx0.len.2.1 hx0.len.2.2
  have r12 : inI64 (x0.length : Int) := rngNat l13
  refine o_mv rfl rfl (o_z ?_)
  have h14 : Rw 3 w8 O9 130 (.slice none 0 0) ([] : List PFd) := Rw.nil 3 (by decide)
  obtain ⟨O16, S17, hz19, ha20, h18⟩ := Pkr.shut (x := (⟨([] : List PFd), 1⟩ : Pkr)) (l0 := 2) (l1 := 3) (by decide) h11 h14 (show inI64 (1) from by decide)
  obtain ⟨res21, hL22, hm⟩ := bs hm
  refine ewp_join (aft res21 (fun (s23 : Int × Pkr) (x24 : Unit) => [(4, (.pointer (some ⟨g7, 0, none⟩)))]) (fun s23 x24 w' => ∃ O' : Lab, Bm w O0 w' O' ∧ Ob 2 w' O' (.pointer (some ⟨g7, 0, none⟩)) s23.2 ∧ inI64 s23.1)) ?_ ?_
  ·
   refine ewp_block ?_
   replace hB := (hB.st S10).st S17
   replace hx0 := hx0.st S17
   refine ewp_rng (σ := Int × Pkr) (X := Unit) (x0.length) hL22 rfl l13 (fun (s23 : Int × Pkr) (x24 : Unit) => [(4, (.pointer (some ⟨g7, 0, none⟩))), (5, (.int .i64 s23.1)), (15, (.slice A2 x0.length c3))]) _ (fun s23 x24 w' => ∃ O' : Lab, Bm w O0 w' O' ∧ Ob 2 w' O' (.pointer (some ⟨g7, 0, none⟩)) s23.2 ∧ Vb w' (Fr 0 w' O') (.slice A2 x0.length c3) x0 ∧ inI64 s23.1) _ () ⟨O16, hB, h18, hx0, (show inI64 (0) from by decide)⟩ ⟨rfl, rfl, rfl, rfl, rfl, trivial⟩ (fun _ _ => ⟨rfl, rfl⟩) (fun _ _ => ⟨rfl, trivial⟩) (fun _ _ _ ⟨O', hB, h39, hx0, r38⟩ => ⟨O', hB, h39, r38⟩) ⟨rfl, rfl, rfl⟩ ⟨rfl, rfl⟩ ?_
   rintro k25 a26 s23 x24 w27 cc29 hx30 ⟨O28, hB, h39, hx0, r38⟩ hf31 hret32 hbrk33
   have rk25 : inI64 (k25 : Int) := rngK hx30 l13
   refine ewp_seq (ewp_region ?_)
   obtain ⟨b40, o41, ce42, hA43, hl44, hd45, rfl, r47⟩ := hx0.elem' hx30
   refine o_iaE (hA := hA43) (hj := rfl) (hlt := hl44) rfl rfl rfl ?_
   refine o_ld (hc := cat0 hd45) rfl rfl ?_
   refine o_as rfl rfl (o_z ?_)
   refine ewp_seq (ewp_seq ?_)
   obtain ⟨y48, hy49, hf31⟩ := bs hf31
   refine ewp_join (fun l' w' => ∃ (x51 : Unit) (O' : Lab), subs l' [(4, (.pointer (some ⟨g7, 0, none⟩))), (5, (.int .i64 s23.1)), (7, (.int .i64 a26)), (15, (.slice A2 x0.length c3)), (16, (.int .i64 (x0.length : Int))), (17, (.int .i64 (k25 : Int))), (26, (.bool y48))] ∧ Bm w O0 w' O' ∧ Ob 2 w' O' (.pointer (some ⟨g7, 0, none⟩)) s23.2 ∧ Vb w' (Fr 0 w' O') (.slice A2 x0.length c3) x0) ?_ ?_
   ·
    refine ewp_region (o_mv rfl rfl (o_ltS rfl rfl rfl (fun c52 => ?_) fun c52 => ?_))
    ·
     replace hy49 := ip hy49 c52
     refine o_mv rfl rfl (owp_no rfl rfl rfl rfl (owp_no rfl rfl rfl rfl (o_pt rfl rfl rfl (o_z ?_))))
     obtain rfl := sm hy49
     exact ⟨(), _, ⟨rfl, rfl, rfl, rfl, rfl, rfl, rfl, trivial⟩, hB, h39, hx0⟩
    ·
     replace hy49 := im hy49 c52
     refine o_mv rfl rfl (owp_yes rfl rfl (o_mv rfl rfl (owp_yes rfl rfl (o_gtS rfl rfl rfl (fun c53 => ?_) fun c53 => ?_))))
     ·
      replace hy49 := ip hy49 c53
      refine o_pf rfl rfl rfl (o_z ?_)
      obtain rfl := sm hy49
      exact ⟨(), _, ⟨rfl, rfl, rfl, rfl, rfl, rfl, rfl, trivial⟩, hB, h39, hx0⟩
     ·
      replace hy49 := im hy49 c53
      refine o_pf rfl rfl rfl (o_z ?_)
      obtain rfl := sm hy49
      exact ⟨(), _, ⟨rfl, rfl, rfl, rfl, rfl, rfl, rfl, trivial⟩, hB, h39, hx0⟩
   rintro l54 w55 ⟨x51, O56, hs57, hB, h39, hx0⟩
   refine ewp_sub _ hs57 ?_
   refine ewp_cond rfl (fun c58 => ?_) (fun c58 => ?_)
   ·
    replace hf31 := ip hf31 c58
    refine ewp_seq (ewp_region (o_miE rfl rfl ?_))
    refine o_as rfl rfl (o_as rfl rfl (o_z ?_))
    refine ewp_ret ?_
    obtain rfl := sm hf31
    obtain rfl := hret32 _ rfl
    obtain rfl := sm (fin_ret hm)
    obtain ⟨O', hS', hz, hl⟩ := hE.leave (fun _ => 0) rfl hB
    exact ret2 rfl (res_tmp rfl) (res_tmp rfl) ⟨O', hS', _, _, rfl, rfl, (vErr (by decide))⟩
   ·
    replace hf31 := im' hf31 c58
    refine ewp_skip (ewp_seq (ewp_region (o_as rfl rfl (o_z ?_))))
    refine ewp_seq ?_
    obtain ⟨res59, hL60, hf31⟩ := bs hf31
    refine ewp_join (aft res59 (fun (s61 : Int) (x62 : Unit) => [(4, (.pointer (some ⟨g7, 0, none⟩))), (5, (.int .i64 s23.1)), (7, (.int .i64 a26)), (8, (.int .i64 s61)), (15, (.slice A2 x0.length c3)), (16, (.int .i64 (x0.length : Int))), (17, (.int .i64 (k25 : Int)))]) (fun s61 x62 w' => ∃ O' : Lab, Bm w O0 w' O' ∧ Ob 2 w' O' (.pointer (some ⟨g7, 0, none⟩)) s23.2 ∧ Vb w' (Fr 0 w' O') (.slice A2 x0.length c3) x0 ∧ inI64 s61)) ?_ ?_
    ·
     refine ewp_block (ewp_lop (σ := Int) (X := Unit) hL60 (fun (s61 : Int) (x62 : Unit) => [(4, (.pointer (some ⟨g7, 0, none⟩))), (5, (.int .i64 s23.1)), (7, (.int .i64 a26)), (8, (.int .i64 s61)), (15, (.slice A2 x0.length c3)), (16, (.int .i64 (x0.length : Int))), (17, (.int .i64 (k25 : Int)))]) _ (fun s61 x62 w' => ∃ O' : Lab, Bm w O0 w' O' ∧ Ob 2 w' O' (.pointer (some ⟨g7, 0, none⟩)) s23.2 ∧ Vb w' (Fr 0 w' O') (.slice A2 x0.length c3) x0 ∧ inI64 s61) _ () ⟨O56, hB, h39, hx0, (show inI64 (0) from by decide)⟩ ⟨rfl, rfl, rfl, rfl, rfl, rfl, rfl, trivial⟩ ?_)
     rintro s61 x62 w65 cc67 ⟨O66, hB, h39, hx0, r75⟩ hf69 hret70 hbrk71
     refine ewp_seq (ewp_seq (ewp_region (o_mv rfl rfl ?_)))
     obtain ⟨n76, e77, hf69⟩ := bs hf69
     have r78 := shlI_rng e77
     refine o_ish (he := e77) rfl rfl rfl ?_
     refine o_mv rfl rfl (o_ltS rfl rfl rfl (fun c79 => ?_) fun c79 => ?_)
     ·
      replace hf69 := ip hf69 c79
      refine o_z ?_
      refine ewp_true rfl (ewp_skip (ewp_block (ewp_region (o_mv rfl rfl ?_))))
      obtain ⟨n80, e81, hf69⟩ := bs hf69
      have r82 := (chkI_rng e81)
      refine o_adE (he := e81) rfl rfl rfl ?_
      refine o_as rfl rfl (o_z ?_)
      obtain rfl := sm hf69
      refine (?_ : Exists _)
      exact ⟨_, (), rfl, ⟨rfl, rfl, rfl, rfl, rfl, rfl, rfl, trivial⟩, _, hB, h39, hx0, r82⟩
     ·
      replace hf69 := im hf69 c79
      refine o_z ?_
      refine ewp_false rfl (ewp_exit ?_)
      obtain rfl := sm hf69
      refine (?_ : Exists _)
      exact ⟨_, (), hbrk71 _ rfl, ⟨rfl, rfl, rfl, rfl, rfl, rfl, rfl, trivial⟩, _, hB, h39, hx0, r75⟩
    rintro l83 w84 ⟨s87, x88, rfl, hs86, O85, hB, h39, hx0, r75⟩
    replace hf31 := fin_done hf31
    refine ewp_sub _ hs86 ?_
    refine ewp_seq ?_
    obtain ⟨y89, hy90, hf31⟩ := bs hf31
    refine ewp_join (fun l' w' => ∃ (x92 : Unit) (O' : Lab), subs l' [(4, (.pointer (some ⟨g7, 0, none⟩))), (5, (.int .i64 y89.1)), (7, (.int .i64 a26)), (8, (.int .i64 s87)), (15, (.slice A2 x0.length c3)), (16, (.int .i64 (x0.length : Int))), (17, (.int .i64 (k25 : Int)))] ∧ Bm w O0 w' O' ∧ Ob 2 w' O' (.pointer (some ⟨g7, 0, none⟩)) y89.2 ∧ Vb w' (Fr 0 w' O') (.slice A2 x0.length c3) x0 ∧ inI64 y89.1) ?_ ?_
    ·
     refine ewp_seq (ewp_region (o_mv rfl rfl (o_mv rfl rfl ?_)))
     obtain ⟨n95, e96, hy90⟩ := bs hy90
     have r97 := (chkI_rng e96)
     refine o_adE (he := e96) rfl rfl rfl ?_
     refine o_gtS rfl rfl rfl (fun c98 => ?_) fun c98 => ?_
     ·
      replace hy90 := ip hy90 c98
      refine o_z ?_
      refine ewp_true rfl (ewp_seq (ewp_region (o_mv rfl rfl (o_nc rfl rfl ?_))))
      obtain ⟨O99, v103, S100, ha102, h101, h104, r108⟩ := Pkr.opn h39 2 4 (by decide)
      obtain ⟨A105, c106, rfl⟩ := h104.form
      refine o_fa rfl rfl (o_ld (hc := Blk.cell (i := 1) (h101.1) rfl) rfl rfl ?_)
      obtain ⟨n109, e110, hy90⟩ := bs hy90
      have r111 := (chkI_rng e110)
      refine o_adE (he := e110) rfl rfl rfl ?_
      refine o_nc rfl rfl (o_fa rfl rfl (l_store h101 rfl rfl rfl (Nat.le_of_ble_eq_true rfl) (by first | exact allOne rfl | simp [Value.cells, Value.oneCell', errV_one]) fun w112 S113 h101 => ?_))
      replace h101 : Lc 2 w112 O99 g7 128 [(.slice A105 s23.2.fields.length c106), (.int .i64 n109)] := h101
      refine o_z ?_
      refine ewp_region (o_as rfl rfl (o_z ?_))
      replace h104 := h104.st S113
      obtain ⟨O114, S115, hz117, ha118, h116⟩ := Pkr.shut (x := (⟨s23.2.fields, n109⟩ : Pkr)) (l0 := 2) (l1 := 4) (by decide) h101 h104 r111
      obtain rfl := sm hy90
      replace hB := ((hB.st S100).st S113).st S115
      replace hx0 := ((hx0.st S100).st S113).st S115
      exact ⟨(), _, ⟨rfl, rfl, rfl, rfl, rfl, rfl, rfl, trivial⟩, hB, h116, hx0, (show inI64 (0) from by decide)⟩
     ·
      replace hy90 := im hy90 c98
      refine o_z ?_
      refine ewp_false rfl (ewp_skip ?_)
      obtain rfl := sm hy90
      exact ⟨(), _, ⟨rfl, rfl, rfl, rfl, rfl, rfl, rfl, trivial⟩, hB, h39, hx0, r38⟩
    rintro l119 w120 ⟨x92, O121, hs122, hB, h94, hx0, r93⟩
    refine ewp_sub _ hs122 ?_
    refine ewp_seq ?_
    obtain ⟨O123, v127, S124, ha126, h125, h128, r132⟩ := Pkr.opn h94 2 4 (by decide)
    obtain ⟨A129, c130, rfl⟩ := h128.form
    refine ewp_drawX [(14, []), (15, [4])] O123 ?_
    refine x_pre (fuel := 6) [] [(1, true), (2, true), (3, true), (4, true), (5, true), (6, true), (7, true), (8, true), (9, true), (10, true), (11, true), (12, true), (13, true)] (by kernel_rfl) rfl ?_
    refine h_mv rfl rfl rfl (h_nc rfl rfl rfl (h_fa rfl rfl rfl (h_ldC (hc := fun w' ⟨O', hq⟩ => Blk.cell (i := 0) ((h125.st hq (by decide)).1) rfl) rfl rfl rfl ?_)))
    refine h_mv rfl rfl rfl (h_nc rfl rfl rfl (h_fa rfl rfl rfl (h_ldC (hc := fun w' ⟨O', hq⟩ => Blk.cell (i := 1) ((h125.st hq (by decide)).1) rfl) rfl rfl rfl ?_)))
    obtain ⟨n133, e134, hf31⟩ := bs hf31
    have r135 := (chkI_rng e134)
    refine h_sbE (he := e134) rfl rfl rfl rfl ?_
    refine h_mv rfl rfl rfl (h_mv rfl rfl rfl (h_mv rfl rfl rfl (h_bd rfl rfl rfl rfl ?_)))
    refine hwp_nilT ?_
    refine x_pre (fuel := 5) [4] [(0, true)] (by kernel_rfl) rfl ?_
    refine h_mv rfl rfl rfl (hwp_nilT ?_)
    refine x_one (i := 14) (by kernel_rfl) rfl ?_
    refine l_bslice 5 (by decide) O123 (xs := ([(⟨n133, y89.1, s87, a26⟩ : PFd)] : List PFd)) rfl rfl rfl rfl ⟨(Vb.ofAgg (cs := [(.int .i64 n133), (.int .i64 y89.1), (.int .i64 s87), (.int .i64 a26)]) (x := (⟨n133, y89.1, s87, a26⟩ : PFd)) rfl ⟨rfl, r135, r93, r75, r47⟩), trivial⟩ (by decide) (by decide) rfl fun g136 w137 O138 S139 h140 => ?_
    have hZ := S139.lst [] (fun _ h => h.elim)
    refine x_go [(15, [4])] hZ (by kernel_rfl) ?_
    refine x_one (i := 15) (by kernel_rfl) rfl ?_
    obtain ⟨u142, e143, hf31⟩ := bs hf31
    obtain ⟨e143, e144, e145⟩ := appI_some e143
    replace h128 := h128.st S139
    refine l_append rfl h128 (h140.rd) rfl rfl (by decide) e144 e145 rfl fun A146 c147 w148 O149 S150 h151 => ?_
    rw [← e143] at h151 ⊢
    have hZ := S150.lst [4] (fun _ h => by cases h; decide)
    refine x_go [] hZ (by kernel_rfl) ?_
    refine x_pre (fuel := 1) [] [(16, true), (17, true)] (by kernel_rfl) rfl ?_
    refine h_nc rfl rfl rfl (h_fa rfl rfl rfl (hwp_nilT ?_))
    refine x_one (i := 18) (by kernel_rfl) rfl ?_
    replace h125 := (h125.st S139).st S150
    refine l_store h125 rfl rfl rfl (Nat.le_of_ble_eq_true rfl) (by first | exact allOne rfl | simp [Value.cells, Value.oneCell', errV_one]) fun w153 S154 h125 => ?_
    replace h125 : Lc 2 w153 O149 g7 128 [(.slice A146 u142.length c147), (.int .i64 y89.2.words)] := h125
    refine x_end (by kernel_rfl) ?_
    refine x_nil (by kernel_rfl) ?_
    refine ewp_region (o_mv rfl rfl (o_mv rfl rfl ?_))
    obtain ⟨n155, e156, hf31⟩ := bs hf31
    have r157 := (chkI_rng e156)
    refine o_adE (he := e156) rfl rfl rfl ?_
    refine o_as rfl rfl (o_z ?_)
    replace h151 := h151.st S154
    obtain ⟨O158, S159, hz161, ha162, h160⟩ := Pkr.shut (x := (⟨u142, y89.2.words⟩ : Pkr)) (l0 := 2) (l1 := 4) (by decide) h125 h151 r132
    obtain rfl := sm hf31
    refine (?_ : Exists _)
    replace hB := ((((hB.st S124).st S139).st S150).st S154).st S159
    replace hx0 := ((((hx0.st S124).st S139).st S150).st S154).st S159
    exact ⟨_, (), rfl, ⟨rfl, rfl, rfl, rfl, rfl, trivial⟩, _, hB, h160, hx0, r157⟩
  replace hB := (hB.st S10).st S17
  rintro l163 w164 ⟨s167, x168, rfl, hs166, O165, hB, h39, r38⟩
  replace hm := fin_done hm
  refine ewp_sub _ hs166 ?_
  refine ewp_seq (ewp_region (o_mv rfl rfl (o_as rfl rfl (o_as rfl rfl (o_z ?_)))))
  refine ewp_ret ?_
  obtain rfl := sm hm
  obtain ⟨O', hS', hz, hl⟩ := hE.leave (fun q => if q = 2 then j0 else 0) rfl hB
  exact ret2 rfl (res_tmp rfl) (res_tmp rfl) ⟨O', hS', _, _, rfl, (Ob.leave h39 hz (hl 2 (by decide) (by decide)) hj0), (vErr (show inI64 0 from by decide))⟩
noncomputable def m_pack_field_mask (x0 : PFd) : Option U64 :=
  bnd (shlU (1 : U64) x0.width) fun n12 => bnd (shlU (n12 - (1 : U64)) x0.bit) fun n14 => some n14
theorem c_pack_field_mask {w : World} {A : Nat → Prop} (hA : ∀ k, A k → k < w.heap.size) {vx0 : Value} {x0 : PFd} (hx0 : Vb w A vx0 x0) {r : U64} (hm : m_pack_field_mask x0 = some r) :
    Fn Try.prog 102 [vx0] w fun v w' => Ext w w' ∧ Vb w' (upA A w w') v r := by
 obtain ⟨O, hB, hA0⟩ := enter hA
 replace hx0 := hx0.mono hA0
 obtain ⟨cs2, rfl, rfl, r3, r4, r5, r6⟩ := hx0
 refine fn_enter Try.func102 rfl Try.ntmps102 rfl ?_
 unfold m_pack_field_mask at hm
 refine ewp_seq (ewp_region (l_box 2 O rfl rfl fun g7 w8 O9 S10 h11 => ?_))
 replace h11 : Lc 2 w8 O9 g7 130 [(.int .i64 x0.word), (.int .i64 x0.bit), (.int .i64 x0.width), (.int .i64 x0.size)] := h11
 refine o_as rfl rfl (o_z ?_)
 refine ewp_seq (ewp_draw (· = w8) [(0, true), (1, true), (2, true), (3, true), (4, true), (5, true), (6, true), (7, true)] (by kernel_rfl) rfl (by kernel_rfl) rfl ?_)
 refine h_fa rfl rfl rfl (h_ldA (hc := Blk.cell (i := 2) (h11.1) rfl) rfl rfl rfl ?_)
 obtain ⟨n12, e13, hm⟩ := bs hm
 refine h_ush (a := (1 : U64)) (he := e13) rfl rfl rfl rfl ?_
 refine h_usb (a := n12) (b := (1 : U64)) rfl rfl rfl rfl ?_
 refine h_fa rfl rfl rfl (h_ldA (hc := Blk.cell (i := 1) (h11.1) rfl) rfl rfl rfl ?_)
 obtain ⟨n14, e15, hm⟩ := bs hm
 refine h_ush (a := (n12 - (1 : U64))) (he := e15) rfl rfl rfl rfl ?_
 refine h_as rfl rfl rfl (h_z ?_)
 refine ewp_ret ?_
 obtain rfl := sm hm
 replace hB := hB.st S10
 exact ret1v rfl (res_tmp rfl) ⟨hB.ext, vU64⟩
noncomputable def m_pack_field_get (x0 : PFd) (x1 : List U64) : Option Int :=
  bnd (atI x1 x0.word) fun a15 => bnd (m_pack_field_mask x0) fun q26 => bnd (shrU (a15 &&& q26) x0.bit) fun n33 => some n33.toInt
theorem c_pack_field_get {w : World} {A : Nat → Prop} (hA : ∀ k, A k → k < w.heap.size) {vx0 : Value} {x0 : PFd} (hx0 : Vb w A vx0 x0) {vx1 : Value} {x1 : List U64} (hx1 : Vb w A vx1 x1) {r : Int} (hm : m_pack_field_get x0 x1 = some r) :
    Fn Try.prog 101 [vx0, vx1] w fun v w' => Ext w w' ∧ Vb w' (upA A w w') v r := by
 obtain ⟨O, hB, hA0⟩ := enter hA
 replace hx0 := hx0.mono hA0
 obtain ⟨cs3, rfl, rfl, r4, r5, r6, r7⟩ := hx0
 replace hx1 := hx1.mono hA0
 obtain ⟨A8, c9, rfl⟩ := hx1.form
 refine fn_enter Try.func101 rfl Try.ntmps101 rfl ?_
 unfold m_pack_field_get at hm
 refine ewp_seq (ewp_region (l_box 2 O rfl rfl fun g10 w11 O12 S13 h14 => ?_))
 replace h14 : Lc 2 w11 O12 g10 130 [(.int .i64 x0.word), (.int .i64 x0.bit), (.int .i64 x0.width), (.int .i64 x0.size)] := h14
 refine o_as rfl rfl (o_z ?_)
 refine ewp_seq (ewp_drawX [(6, [])] O12 ?_)
 refine x_pre (fuel := 5) [] [(0, true), (1, true), (2, true), (3, true), (4, true), (5, true), (8, true), (9, true)] (by kernel_rfl) rfl ?_
 refine h_mv rfl rfl rfl (h_fa rfl rfl rfl (h_ldC (hc := fun w' ⟨O', hq⟩ => Blk.cell (i := 0) ((h14.st hq (by decide)).1) rfl) rfl rfl rfl ?_))
 obtain ⟨a15, e16, hm⟩ := bs hm
 obtain ⟨p18, x17⟩ := atI_some' e16
 replace hx1 := hx1.st S13
 obtain ⟨b19, o20, ce21, hA22, hF25, hl23, hd24, rfl⟩ := hx1.elem x17
 refine h_iaE (hA := hA22) (hj := (Int.toNat_of_nonneg p18).symm) (hlt := hl23) rfl rfl rfl rfl ?_
 refine h_ldC (hc := fun w' ⟨O', hq⟩ => cat0 (cellsAt_agree (hq.agree (i := 0) (by decide)) hF25 hd24)) rfl rfl rfl ?_
 refine h_laB (hl := rfl) (hb := fun w' ⟨O', hq⟩ => ((h14.st hq (by decide)).1).cellsAt) rfl rfl rfl ?_
 refine h_fa rfl rfl rfl (h_ldC (hc := fun w' ⟨O', hq⟩ => Blk.cell (i := 1) ((h14.st hq (by decide)).1) rfl) rfl rfl rfl ?_)
 refine hwp_nilT ?_
 refine x_one (i := 6) (by kernel_rfl) rfl ?_
 obtain ⟨q26, e27, hm⟩ := bs hm
 refine l_callA (O := O12) (A := All w11) (R := fun w' F v => Vb w' F v q26) (c_pack_field_mask (fun _ h => h) (Vb.mono (F := Fr 0 w11 O12) (Vb.ofAgg (cs := [(.int .i64 x0.word), (.int .i64 x0.bit), (.int .i64 x0.width), (.int .i64 x0.size)]) (x := x0) rfl ⟨rfl, r4, r5, r6, r7⟩) Fr.lt) e27) rfl rfl fun v32 w28 O29 S30 h31 => ?_
 obtain rfl := h31.u64
 have hZ := S30.lst [] (fun _ h => h.elim)
 refine x_go [] hZ (by kernel_rfl) ?_
 refine x_pre (fuel := 0) [] [(7, true), (10, true), (11, true), (12, true)] (by kernel_rfl) rfl ?_
 refine h_uan (a := a15) (b := q26) rfl rfl rfl rfl ?_
 obtain ⟨n33, e34, hm⟩ := bs hm
 refine h_usr (a := (a15 &&& q26)) (he := e34) rfl rfl rfl rfl ?_
 refine h_cvI (a := n33) rfl rfl rfl ?_
 refine h_as rfl rfl rfl (hwp_nilT ?_)
 refine x_nil (by kernel_rfl) ?_
 refine ewp_ret ?_
 obtain rfl := sm hm
 replace hB := (hB.st S13).st S30
 exact ret1v rfl (res_tmp rfl) ⟨hB.ext, (vInt (toIntR _))⟩
noncomputable def m_pack_Packer_Pack (x0 : Pkr) (x1 : List Int) : Option ((List U64) × Err) :=
  if (x1.length : Int) ≠ (x0.fields.length : Int) then (some (([] : List U64), (⟨2⟩ : Err))) else (bnd (mkI 8 ((0 : U64) : U64) x0.words) fun u25 => bnd (rng (ρ := (List U64) × Err) (fun (k50 : Nat) (a51 : PFd) (s48 : (List U64)) => bnd (bnd (x1[k50]?) fun a87 => if a87 < 0 then (some true) else (bnd (x1[k50]?) fun a98 => if a51.size ≤ a98 then (some true) else (some false)) : Option Bool) fun y83 => if y83 = true then (some (.ret (([] : List U64), (⟨2⟩ : Err)))) else (bnd (atI s48 a51.word) fun a114 => bnd (x1[k50]?) fun a125 => bnd (shlU (BitVec.ofInt 64 a125) a51.bit) fun n135 => bnd (atI s48 a51.word) fun a137 => some (.next (s48.set (a51.word : Int).toNat (a114 ||| n135))))) x0.fields 0 u25) fun res46 => fin res46 fun (s154 : (List U64)) => some (s154, (⟨0⟩ : Err)))
theorem c_pack_Packer_Pack {w : World} {O : Lab} {p0 i0 : Nat} {x0 : Pkr} (hx0 : Ob i0 w O (.pointer (some ⟨p0, 0, none⟩)) x0) {vx1 : Value} {x1 : List Int} (hx1 : Vb w (Fr 0 w O) vx1 x1) {r : (List U64) × Err} (hm : m_pack_Packer_Pack x0 x1 = some r) :
    Fn Try.prog 96 [(.pointer (some ⟨p0, 0, none⟩)), vx1] w fun v w' => ∃ O', St (eT i0) w O w' O' ∧ ∃ v0 v1 : Value, Ob i0 w' O' (.pointer (some ⟨p0, 0, none⟩)) x0 ∧ v = .tuple #[v0, v1] ∧ Vb w' (Fr 0 w' O') v0 r.1 ∧ Vb w' (Fr 0 w' O') v1 r.2 := by
 obtain ⟨O0, hE, hz0, hl2⟩ := ent1 (w := w) (O := O) hx0.2
 have hx0' := Ob.leave hx0 hz0 hl2 (j := 2) (by decide)
 have hB : Bm w O0 w O0 := Bm.refl
 replace hx1 := hx1.mono hz0
 obtain ⟨A3, c4, rfl⟩ := hx1.form
 refine fn_enter Try.func96 rfl Try.ntmps96 rfl ?_
 unfold m_pack_Packer_Pack at hm
 refine ewp_seq (ewp_region (o_as rfl rfl (o_as rfl rfl (o_z ?_))))
 refine ewp_seq (ewp_seq (ewp_region (o_mv rfl rfl (o_pn rfl rfl ?_))))
 refine o_z ?_
 refine ewp_false rfl (ewp_skip (ewp_seq (ewp_seq (ewp_region (o_mv rfl rfl (o_ln rfl rfl ?_))))))
 have l6 : x1.length ≤ 9223372036854775807 := Nat.le_trans hx1.len.2.1 hx1.len.2.2
 have r5 : inI64 (x1.length : Int) := rngNat l6
 refine o_mv rfl rfl (o_nc rfl rfl ?_)
 obtain ⟨O7, v11, S8, ha10, h9, h12, r16⟩ := Pkr.opn hx0' 2 3 (by decide)
 obtain ⟨A13, c14, rfl⟩ := h12.form
 refine o_fa rfl rfl (o_ld (hc := Blk.cell (i := 0) (h9.1) rfl) rfl rfl ?_)
 refine o_ln rfl rfl ?_
 have l18 : x0.fields.length ≤ 9223372036854775807 := Nat.le_trans h12.len.2.1 h12.len.2.2
 have r17 : inI64 (x0.fields.length : Int) := rngNat l18
 refine o_neS rfl rfl rfl (fun c19 => ?_) fun c19 => ?_
 ·
  replace hm := ip hm c19
  refine o_z ?_
  refine ewp_true rfl (ewp_seq (ewp_region (o_miE rfl rfl ?_)))
  refine o_as rfl rfl (o_as rfl rfl (o_z ?_))
  refine ewp_ret ?_
  obtain ⟨O20, S21, hz23, ha24, h22⟩ := Pkr.shut (x := x0) (l0 := 2) (l1 := 3) (by decide) h9 h12 r16
  obtain rfl := sm hm
  replace hB := (hB.st S8).st S21
  obtain ⟨O', hS', hz, hl⟩ := hE.leave (fun q => if q = 2 then i0 else 0) rfl hB
  exact ret2 rfl (res_tmp rfl) (res_tmp rfl) ⟨O', hS', _, _, (Ob.leave h22 hz (hl 2 (by decide) (by decide)) hx0.2), rfl, (Vb.mono (Vb.nil _ _) hz), (vErr (by decide))⟩
 ·
  replace hm := im hm c19
  refine o_z ?_
  refine ewp_false rfl (ewp_skip (ewp_seq (ewp_region (o_mv rfl rfl (o_nc rfl rfl (o_fa rfl rfl (o_ld (hc := Blk.cell (i := 1) (h9.1) rfl) rfl rfl ?_)))))))
  obtain ⟨u25, e26, hm⟩ := bs hm
  obtain ⟨m27, e28, e29, e30, e31⟩ := mkI_some e26
  refine l_make 4 (by decide) O7 (z0 := ((0 : U64) : U64)) rfl rfl rfl rfl rfl e28 vU64 e29 e30 rfl fun g32 w33 O34 S35 h36 => ?_
  rw [← e31] at h36 ⊢
  refine o_as rfl rfl (o_z ?_)
  refine ewp_seq (ewp_seq (ewp_region (o_mv rfl rfl (o_nc rfl rfl (o_fa rfl rfl ?_)))))
  replace h9 := h9.st S35
  refine o_ld (hc := Blk.cell (i := 0) (h9.1) rfl) rfl rfl ?_
  refine o_ln rfl rfl ?_
  replace h12 := h12.st S35
  have l39 : x0.fields.length ≤ 9223372036854775807 := Nat.le_trans h12.len.2.1 h12.len.2.2
  have r38 : inI64 (x0.fields.length : Int) := rngNat l39
  refine o_mv rfl rfl (o_z ?_)
  obtain ⟨O40, S41, hz43, ha44, h42⟩ := Pkr.shut (x := x0) (l0 := 2) (l1 := 3) (by decide) h9 h12 r16
  have h45 := (h12.lend [3] (by decide)).shutS S41 hz43 ha44 [2] (by decide)
  obtain ⟨res46, hL47, hm⟩ := bs hm
  refine ewp_join (aft res46 (fun (s48 : (List U64)) (x49 : Unit) => [(6, (.slice (some ⟨g32, 0, none⟩) u25.length m27))]) (fun s48 x49 w' => ∃ O' : Lab, Bm w O0 w' O' ∧ Rw 4 w' O' 158 (.slice (some ⟨g32, 0, none⟩) u25.length m27) s48 ∧ Ob 2 w' O' (.pointer (some ⟨p0, 0, none⟩)) x0)) ?_ ?_
  ·
   refine ewp_block ?_
   replace hB := ((hB.st S8).st S35).st S41
   replace hx1 := ((hx1.st S8).st S35).st S41
   replace h36 := h36.st S41
   refine ewp_rng (σ := (List U64)) (X := Unit) (x0.fields.length) hL47 rfl l39 (fun (s48 : (List U64)) (x49 : Unit) => [(1, (.slice A3 x1.length c4)), (6, (.slice (some ⟨g32, 0, none⟩) u25.length m27)), (29, (.slice A13 x0.fields.length c14))]) _ (fun s48 x49 w' => ∃ O' : Lab, Bm w O0 w' O' ∧ Vb w' (Fr 0 w' O') (.slice A3 x1.length c4) x1 ∧ Rw 4 w' O' 158 (.slice (some ⟨g32, 0, none⟩) u25.length m27) s48 ∧ Vb w' (FrS [2] w' O') (.slice A13 x0.fields.length c14) x0.fields ∧ Ob 2 w' O' (.pointer (some ⟨p0, 0, none⟩)) x0) _ () ⟨O40, hB, hx1, h36, h45, h42⟩ ⟨rfl, rfl, rfl, rfl, rfl, trivial⟩ (fun _ _ => ⟨rfl, rfl⟩) (fun _ _ => ⟨rfl, trivial⟩) (fun _ _ _ ⟨O', hB, hx1, h63, h45, h42⟩ => ⟨O', hB, h63, h42⟩) ⟨rfl, rfl, rfl⟩ ⟨rfl, rfl⟩ ?_
   rintro k50 a51 s48 x49 w52 cc54 hx55 ⟨O53, hB, hx1, h63, h45, h42⟩ hf56 hret57 hbrk58
   have rk50 : inI64 (k50 : Int) := rngK hx55 l39
   refine ewp_seq (ewp_region (o_mv rfl rfl ?_))
   obtain ⟨b65, o66, ce67, hA68, hl69, hd70, rfl, r72, r73, r74, r75⟩ := h45.elem' hx55
   refine o_iaE (hA := hA68) (hj := rfl) (hlt := hl69) rfl rfl rfl ?_
   refine o_la (hl := rfl) (hc := hd70) rfl rfl ?_
   refine l_alloc 5 O53 rfl fun g76 w77 O78 S79 h80 => ?_
   replace h45 := h45.stS S79 id (fun _ _ => id)
   refine o_as rfl rfl (l_store h80 rfl rfl rfl (Nat.le_of_ble_eq_true rfl) (by first | exact allOne rfl | simp [Value.cells, Value.oneCell', errV_one]) fun w81 S82 h80 => ?_)
   replace h80 : Lc 5 w81 O78 g76 130 [(.int .i64 a51.word), (.int .i64 a51.bit), (.int .i64 a51.width), (.int .i64 a51.size)] := h80
   replace h45 := h45.stS S82 (by decide) (by decide)
   refine o_z ?_
   refine ewp_seq (ewp_seq ?_)
   obtain ⟨y83, hy84, hf56⟩ := bs hf56
   refine ewp_join (fun l' w' => ∃ (x86 : Unit) (O' : Lab), subs l' [(1, (.slice A3 x1.length c4)), (6, (.slice (some ⟨g32, 0, none⟩) u25.length m27)), (7, (.int .i64 (k50 : Int))), (8, (.pointer (some ⟨g76, 0, none⟩))), (29, (.slice A13 x0.fields.length c14)), (30, (.int .i64 (x0.fields.length : Int))), (31, (.int .i64 (k50 : Int))), (49, (.bool y83))] ∧ Bm w O0 w' O' ∧ Vb w' (Fr 0 w' O') (.slice A3 x1.length c4) x1 ∧ Rw 4 w' O' 158 (.slice (some ⟨g32, 0, none⟩) u25.length m27) s48 ∧ Lc 5 w' O' g76 130 [(.int .i64 a51.word), (.int .i64 a51.bit), (.int .i64 a51.width), (.int .i64 a51.size)] ∧ Vb w' (FrS [2] w' O') (.slice A13 x0.fields.length c14) x0.fields ∧ Ob 2 w' O' (.pointer (some ⟨p0, 0, none⟩)) x0) ?_ ?_
   ·
    refine ewp_draw (· = w81) [(0, true), (1, true), (2, true), (3, true), (4, true), (5, true), (6, true), (7, true), (8, true), (9, true), (10, true), (11, true), (12, true), (13, true)] (by kernel_rfl) rfl (by kernel_rfl) rfl ?_
    refine h_mv rfl rfl rfl (h_mv rfl rfl rfl ?_)
    obtain ⟨a87, e88, hy84⟩ := bs hy84
    replace hx1 := (hx1.st S79).st S82
    obtain ⟨b89, o90, ce91, hA92, hl93, hd94, rfl, r96⟩ := hx1.elem' e88
    refine h_iaE (hA := hA92) (hj := rfl) (hlt := hl93) rfl rfl rfl rfl ?_
    refine h_ldA (hc := cat0 hd94) rfl rfl rfl ?_
    refine h_ltS rfl rfl rfl rfl (fun c97 => ?_) fun c97 => ?_
    ·
     replace hy84 := ip hy84 c97
     refine h_mv rfl rfl rfl (h_no rfl rfl rfl rfl rfl (h_no rfl rfl rfl rfl rfl (h_no rfl rfl rfl rfl rfl (h_no rfl rfl rfl rfl rfl (h_no rfl rfl rfl rfl rfl (h_no rfl rfl rfl rfl rfl (h_no rfl rfl rfl rfl rfl (h_pt rfl rfl rfl rfl (h_z ?_)))))))))
     obtain rfl := sm hy84
     replace hB := (hB.st S79).st S82
     replace h42 := (h42.st S79).st S82
     replace h63 := (h63.st S79).st S82
     exact ⟨(), _, ⟨rfl, rfl, rfl, rfl, rfl, rfl, rfl, rfl, trivial⟩, hB, hx1, h63, h80, h45, h42⟩
    ·
     replace hy84 := im hy84 c97
     refine h_mv rfl rfl rfl (hwp_o rfl (hwq_yes rfl rfl (g_mv rfl rfl (hwp_o rfl (hwq_yes rfl rfl (g_mv rfl rfl (hwp_o rfl (hwq_yes rfl rfl ?_))))))))
     obtain ⟨a98, e99, hy84⟩ := bs hy84
     obtain ⟨b100, o101, ce102, hA103, hl104, hd105, rfl, r107⟩ := hx1.elem' e99
     refine g_iaE (hA := hA103) (hj := rfl) (hlt := hl104) rfl rfl rfl ?_
     refine hwp_o rfl (hwq_yes rfl rfl (g_ldA (hc := cat0 hd105) rfl rfl ?_))
     refine hwp_o rfl (hwq_yes rfl rfl (g_fa rfl rfl (hwp_o rfl (hwq_yes rfl rfl (g_ldA (hc := Blk.cell (i := 3) (h80.1) rfl) rfl rfl ?_)))))
     refine hwp_o rfl (hwq_yes rfl rfl (hwq_split (fun _ _ => ev_geq rfl rfl) rfl (fun c108 => ?_) (fun c108 => ?_)))
     ·
      replace hy84 := ip hy84 c108
      refine h_pf rfl rfl rfl rfl (h_z ?_)
      obtain rfl := sm hy84
      replace hB := (hB.st S79).st S82
      replace h42 := (h42.st S79).st S82
      replace h63 := (h63.st S79).st S82
      exact ⟨(), _, ⟨rfl, rfl, rfl, rfl, rfl, rfl, rfl, rfl, trivial⟩, hB, hx1, h63, h80, h45, h42⟩
     ·
      replace hy84 := im hy84 c108
      refine h_pf rfl rfl rfl rfl (h_z ?_)
      obtain rfl := sm hy84
      replace hB := (hB.st S79).st S82
      replace h42 := (h42.st S79).st S82
      replace h63 := (h63.st S79).st S82
      exact ⟨(), _, ⟨rfl, rfl, rfl, rfl, rfl, rfl, rfl, rfl, trivial⟩, hB, hx1, h63, h80, h45, h42⟩
   replace hB := (hB.st S79).st S82
   replace hx1 := (hx1.st S79).st S82
   replace h42 := (h42.st S79).st S82
   replace h63 := (h63.st S79).st S82
   rintro l109 w110 ⟨x86, O111, hs112, hB, hx1, h63, h80, h45, h42⟩
   refine ewp_sub _ hs112 ?_
   refine ewp_cond rfl (fun c113 => ?_) (fun c113 => ?_)
   ·
    replace hf56 := ip hf56 c113
    refine ewp_seq (ewp_region (o_miE rfl rfl ?_))
    refine o_as rfl rfl (o_as rfl rfl (o_z ?_))
    refine ewp_ret ?_
    obtain rfl := sm hf56
    obtain rfl := hret57 _ rfl
    obtain rfl := sm (fin_ret hm)
    obtain ⟨O', hS', hz, hl⟩ := hE.leave (fun q => if q = 2 then i0 else 0) rfl hB
    exact ret2 rfl (res_tmp rfl) (res_tmp rfl) ⟨O', hS', _, _, (Ob.leave h42 hz (hl 2 (by decide) (by decide)) hx0.2), rfl, (Vb.mono (Vb.nil _ _) hz), (vErr (by decide))⟩
   ·
    replace hf56 := im' hf56 c113
    refine ewp_skip (ewp_drawX [] O111 ?_)
    refine x_pre (fuel := 1) [] [(0, true), (1, true), (2, true), (3, true), (4, true), (5, true), (6, true), (7, true), (8, true), (9, true), (10, true), (11, true), (12, true), (13, true), (14, true)] (by kernel_rfl) rfl ?_
    refine h_mv rfl rfl rfl (h_fa rfl rfl rfl (h_ldC (hc := fun w' ⟨O', hq⟩ => Blk.cell (i := 0) ((h80.st hq (by decide)).1) rfl) rfl rfl rfl ?_))
    obtain ⟨a114, e115, hf56⟩ := bs hf56
    obtain ⟨p117, x116⟩ := atI_some' e115
    obtain ⟨b118, o119, ce120, hA121, hF124, hl122, hd123, rfl⟩ := h63.elemF x116
    refine h_iaE (hA := hA121) (hj := (Int.toNat_of_nonneg p117).symm) (hlt := hl122) rfl rfl rfl rfl ?_
    refine h_ldC (hc := fun w' ⟨O', hq⟩ => cat0 (cellsAt_agree (hq.agree (i := 4) (by decide)) hF124 hd123)) rfl rfl rfl ?_
    refine h_mv rfl rfl rfl (h_mv rfl rfl rfl ?_)
    obtain ⟨a125, e126, hf56⟩ := bs hf56
    obtain ⟨b127, o128, ce129, hA130, hF133, hl131, hd132, rfl, r134⟩ := hx1.elem e126
    refine h_iaE (hA := hA130) (hj := rfl) (hlt := hl131) rfl rfl rfl rfl ?_
    refine h_ldC (hc := fun w' ⟨O', hq⟩ => cat0 (cellsAt_agree (hq.agree (i := 0) (by decide)) hF133 hd132)) rfl rfl rfl ?_
    refine h_cvU rfl rfl rfl ?_
    refine h_fa rfl rfl rfl (h_ldC (hc := fun w' ⟨O', hq⟩ => Blk.cell (i := 1) ((h80.st hq (by decide)).1) rfl) rfl rfl rfl ?_)
    obtain ⟨n135, e136, hf56⟩ := bs hf56
    refine h_ush (a := (BitVec.ofInt 64 a125)) (he := e136) rfl rfl rfl rfl ?_
    refine h_uor (a := a114) (b := n135) rfl rfl rfl rfl ?_
    obtain ⟨a137, e138, hf56⟩ := bs hf56
    obtain ⟨p140, x139⟩ := atI_some' e138
    obtain ⟨b141, o142, ce143, hA144, hF147, hl145, hd146, rfl⟩ := h63.elemF x139
    refine h_iaE (hA := hA144) (hj := (Int.toNat_of_nonneg p140).symm) (hlt := hl145) rfl rfl rfl rfl ?_
    refine hwp_nilT ?_
    refine x_one (i := 15) (by kernel_rfl) rfl ?_
    refine l_setE rfl h63 (a := (a114 ||| n135)) vU64 hA144 rfl rfl (lt_of_get x139) fun w148 S149 h63 => ?_
    replace h45 := h45.stS S149 (by decide) (by decide)
    refine x_end (by kernel_rfl) ?_
    refine x_nil (by kernel_rfl) ?_
    obtain rfl := sm hf56
    refine (?_ : Exists _)
    replace hB := hB.st S149
    replace hx1 := hx1.st S149
    replace h42 := h42.st S149
    exact ⟨_, (), rfl, ⟨rfl, rfl, rfl, rfl, rfl, trivial⟩, _, hB, hx1, h63, h45, h42⟩
  replace hB := ((hB.st S8).st S35).st S41
  rintro l150 w151 ⟨s154, x155, rfl, hs153, O152, hB, h63, h42⟩
  replace hm := fin_done hm
  refine ewp_sub _ hs153 ?_
  refine ewp_seq (ewp_region (o_mv rfl rfl (o_as rfl rfl (o_as rfl rfl (o_z ?_)))))
  refine ewp_ret ?_
  obtain ⟨O156, S157, h63⟩ := h63.freeze
  obtain rfl := sm hm
  replace hB := hB.st S157
  obtain ⟨O', hS', hz, hl⟩ := hE.leave (fun q => if q = 2 then i0 else 0) rfl hB
  replace h42 := h42.st S157
  exact ret2 rfl (res_tmp rfl) (res_tmp rfl) ⟨O', hS', _, _, (Ob.leave h42 hz (hl 2 (by decide) (by decide)) hx0.2), rfl, (Vb.mono h63 hz), (vErr (show inI64 0 from by decide))⟩
noncomputable def m_pack_Packer_Unpack (x0 : Pkr) (x1 : List U64) : Option ((List Int) × Err) :=
  if (x1.length : Int) ≠ x0.words then (some (([] : List Int), (⟨2⟩ : Err))) else (bnd (mkI 8 (0 : Int) (x0.fields.length : Int)) fun u25 => bnd (m_slices_Clone_Luint64_uint64 x1) fun q38 => bnd (rng (ρ := (List Int) × Err) (fun (k60 : Nat) (a61 : PFd) (s58 : (List Int) × (List U64)) => bnd (m_pack_field_get a61 x1) fun q97 => bnd (s58.1[k60]?) fun a105 => bnd ((s58.1.set k60 q97)[k60]?) fun a117 => if a61.size ≤ a117 then (some (.ret (([] : List Int), (⟨2⟩ : Err)))) else (bnd (atI s58.2 a61.word) fun a128 => bnd (m_pack_field_mask a61) fun q139 => bnd (atI s58.2 a61.word) fun a146 => some (.next ((s58.1.set k60 q97), (s58.2.set (a61.word : Int).toNat (a128 &&& ~~~q139)))))) x0.fields 0 (u25, q38)) fun res56 => fin res56 fun (s163 : (List Int) × (List U64)) => bnd (rng (ρ := (List Int) × Err) (fun (k171 : Nat) (a172 : U64) (s169 : Unit) => bnd (s163.2[k171]?) fun a182 => if (a182.toNat : Int) ≠ ((0 : U64).toNat : Int) then (some (.ret (([] : List Int), (⟨2⟩ : Err)))) else (some (.next ()))) q38 0 ()) fun res167 => fin res167 fun (s196 : Unit) => some (s163.1, (⟨0⟩ : Err)))
theorem c_pack_Packer_Unpack {w : World} {O : Lab} {p0 i0 : Nat} {x0 : Pkr} (hx0 : Ob i0 w O (.pointer (some ⟨p0, 0, none⟩)) x0) {vx1 : Value} {x1 : List U64} (hx1 : Vb w (Fr 0 w O) vx1 x1) {r : (List Int) × Err} (hm : m_pack_Packer_Unpack x0 x1 = some r) :
    Fn Try.prog 79 [(.pointer (some ⟨p0, 0, none⟩)), vx1] w fun v w' => ∃ O', St (eT i0) w O w' O' ∧ ∃ v0 v1 : Value, Ob i0 w' O' (.pointer (some ⟨p0, 0, none⟩)) x0 ∧ v = .tuple #[v0, v1] ∧ Vb w' (Fr 0 w' O') v0 r.1 ∧ Vb w' (Fr 0 w' O') v1 r.2 := by
 obtain ⟨O0, hE, hz0, hl2⟩ := ent1 (w := w) (O := O) hx0.2
 have hx0' := Ob.leave hx0 hz0 hl2 (j := 2) (by decide)
 have hB : Bm w O0 w O0 := Bm.refl
 replace hx1 := hx1.mono hz0
 obtain ⟨A3, c4, rfl⟩ := hx1.form
 refine fn_enter Try.func79 rfl Try.ntmps79 rfl ?_
 unfold m_pack_Packer_Unpack at hm
 refine ewp_seq (ewp_region (o_as rfl rfl (o_as rfl rfl (o_z ?_))))
 refine ewp_seq (ewp_seq (ewp_region (o_mv rfl rfl (o_pn rfl rfl ?_))))
 refine o_z ?_
 refine ewp_false rfl (ewp_skip (ewp_seq (ewp_seq (ewp_region (o_mv rfl rfl (o_ln rfl rfl ?_))))))
 have l6 : x1.length ≤ 9223372036854775807 := Nat.le_trans hx1.len.2.1 hx1.len.2.2
 have r5 : inI64 (x1.length : Int) := rngNat l6
 refine o_mv rfl rfl (o_nc rfl rfl ?_)
 obtain ⟨O7, v11, S8, ha10, h9, h12, r16⟩ := Pkr.opn hx0' 2 3 (by decide)
 obtain ⟨A13, c14, rfl⟩ := h12.form
 refine o_fa rfl rfl (o_ld (hc := Blk.cell (i := 1) (h9.1) rfl) rfl rfl ?_)
 refine o_neS rfl rfl rfl (fun c17 => ?_) fun c17 => ?_
 ·
  replace hm := ip hm c17
  refine o_z ?_
  refine ewp_true rfl (ewp_seq (ewp_region (o_miE rfl rfl ?_)))
  refine o_as rfl rfl (o_as rfl rfl (o_z ?_))
  refine ewp_ret ?_
  obtain ⟨O18, S19, hz21, ha22, h20⟩ := Pkr.shut (x := x0) (l0 := 2) (l1 := 3) (by decide) h9 h12 r16
  obtain rfl := sm hm
  replace hB := (hB.st S8).st S19
  obtain ⟨O', hS', hz, hl⟩ := hE.leave (fun q => if q = 2 then i0 else 0) rfl hB
  exact ret2 rfl (res_tmp rfl) (res_tmp rfl) ⟨O', hS', _, _, (Ob.leave h20 hz (hl 2 (by decide) (by decide)) hx0.2), rfl, (Vb.mono (Vb.nil _ _) hz), (vErr (by decide))⟩
 ·
  replace hm := im hm c17
  refine o_z ?_
  refine ewp_false rfl (ewp_skip (ewp_seq (ewp_region (o_mv rfl rfl (o_nc rfl rfl (o_fa rfl rfl (o_ld (hc := Blk.cell (i := 0) (h9.1) rfl) rfl rfl ?_)))))))
  refine o_ln rfl rfl ?_
  have l24 : x0.fields.length ≤ 9223372036854775807 := Nat.le_trans h12.len.2.1 h12.len.2.2
  have r23 : inI64 (x0.fields.length : Int) := rngNat l24
  obtain ⟨u25, e26, hm⟩ := bs hm
  obtain ⟨m27, e28, e29, e30, e31⟩ := mkI_some e26
  refine l_make 4 (by decide) O7 (z0 := (0 : Int)) rfl rfl rfl rfl rfl e28 (vInt (show inI64 0 from by decide)) e29 e30 rfl fun g32 w33 O34 S35 h36 => ?_
  rw [← e31] at h36 ⊢
  refine o_as rfl rfl (o_z ?_)
  refine ewp_seq (ewp_region (o_mv rfl rfl ?_))
  obtain ⟨q38, e39, hm⟩ := bs hm
  replace hx1 := (hx1.st S8).st S35
  refine l_callRow 5 (by decide) (O := O34) (c_slices_Clone_Luint64_uint64 Fr.lt hx1 e39) rfl rfl fun A45 c46 w40 O41 S42 h43 => ?_
  refine o_as rfl rfl (o_z ?_)
  refine ewp_seq (ewp_seq (ewp_region (o_mv rfl rfl (o_nc rfl rfl (o_fa rfl rfl ?_)))))
  replace h9 := (h9.st S35).st S42
  refine o_ld (hc := Blk.cell (i := 0) (h9.1) rfl) rfl rfl ?_
  refine o_ln rfl rfl ?_
  replace h12 := (h12.st S35).st S42
  have l49 : x0.fields.length ≤ 9223372036854775807 := Nat.le_trans h12.len.2.1 h12.len.2.2
  have r48 : inI64 (x0.fields.length : Int) := rngNat l49
  refine o_mv rfl rfl (o_z ?_)
  obtain ⟨O50, S51, hz53, ha54, h52⟩ := Pkr.shut (x := x0) (l0 := 2) (l1 := 3) (by decide) h9 h12 r16
  have h55 := (h12.lend [3] (by decide)).shutS S51 hz53 ha54 [2] (by decide)
  obtain ⟨res56, hL57, hm⟩ := bs hm
  refine ewp_join (aft res56 (fun (s58 : (List Int) × (List U64)) (x59 : Unit) => [(6, (.slice (some ⟨g32, 0, none⟩) u25.length m27)), (7, (.slice A45 q38.length c46))]) (fun s58 x59 w' => ∃ O' : Lab, Bm w O0 w' O' ∧ Rw 4 w' O' 3 (.slice (some ⟨g32, 0, none⟩) u25.length m27) s58.1 ∧ Rw 5 w' O' 158 (.slice A45 q38.length c46) s58.2 ∧ Ob 2 w' O' (.pointer (some ⟨p0, 0, none⟩)) x0)) ?_ ?_
  ·
   refine ewp_block ?_
   replace hB := (((hB.st S8).st S35).st S42).st S51
   replace hx1 := (hx1.st S42).st S51
   replace h36 := (h36.st S42).st S51
   replace h43 := h43.st S51
   refine ewp_rng (σ := (List Int) × (List U64)) (X := Unit) (x0.fields.length) hL57 rfl l49 (fun (s58 : (List Int) × (List U64)) (x59 : Unit) => [(1, (.slice A3 x1.length c4)), (6, (.slice (some ⟨g32, 0, none⟩) u25.length m27)), (7, (.slice A45 q38.length c46)), (34, (.slice A13 x0.fields.length c14))]) _ (fun s58 x59 w' => ∃ O' : Lab, Bm w O0 w' O' ∧ Vb w' (Fr 0 w' O') (.slice A3 x1.length c4) x1 ∧ Rw 4 w' O' 3 (.slice (some ⟨g32, 0, none⟩) u25.length m27) s58.1 ∧ Rw 5 w' O' 158 (.slice A45 q38.length c46) s58.2 ∧ Vb w' (FrS [2] w' O') (.slice A13 x0.fields.length c14) x0.fields ∧ Ob 2 w' O' (.pointer (some ⟨p0, 0, none⟩)) x0) _ () ⟨O50, hB, hx1, h36, h43, h55, h52⟩ ⟨rfl, rfl, rfl, rfl, rfl, rfl, trivial⟩ (fun _ _ => ⟨rfl, rfl⟩) (fun _ _ => ⟨rfl, rfl, trivial⟩) (fun _ _ _ ⟨O', hB, hx1, h75, h77, h55, h52⟩ => ⟨O', hB, h75, h77, h52⟩) ⟨rfl, rfl, rfl⟩ ⟨rfl, rfl⟩ ?_
   rintro k60 a61 s58 x59 w62 cc64 hx65 ⟨O63, hB, hx1, h75, h77, h55, h52⟩ hf66 hret67 hbrk68
   have rk60 : inI64 (k60 : Int) := rngK hx65 l49
   refine ewp_seq (ewp_region (o_mv rfl rfl ?_))
   obtain ⟨b79, o80, ce81, hA82, hl83, hd84, rfl, r86, r87, r88, r89⟩ := h55.elem' hx65
   refine o_iaE (hA := hA82) (hj := rfl) (hlt := hl83) rfl rfl rfl ?_
   refine o_la (hl := rfl) (hc := hd84) rfl rfl ?_
   refine l_alloc 6 O63 rfl fun g90 w91 O92 S93 h94 => ?_
   replace h55 := h55.stS S93 id (fun _ _ => id)
   refine o_as rfl rfl (l_store h94 rfl rfl rfl (Nat.le_of_ble_eq_true rfl) (by first | exact allOne rfl | simp [Value.cells, Value.oneCell', errV_one]) fun w95 S96 h94 => ?_)
   replace h94 : Lc 6 w95 O92 g90 130 [(.int .i64 a61.word), (.int .i64 a61.bit), (.int .i64 a61.width), (.int .i64 a61.size)] := h94
   replace h55 := h55.stS S96 (by decide) (by decide)
   refine o_z ?_
   refine ewp_seq (ewp_region (o_mv rfl rfl (o_mv rfl rfl (o_la (hl := rfl) (hc := (h94.1).cellsAt) rfl rfl ?_))))
   refine o_mv rfl rfl ?_
   obtain ⟨q97, e98, hf66⟩ := bs hf66
   replace hx1 := (hx1.st S93).st S96
   refine l_callA (O := O92) (A := All w95) (R := fun w' F v => Vb w' F v q97) (c_pack_field_get (fun _ h => h) (Vb.mono (F := Fr 0 w95 O92) (Vb.ofAgg (cs := [(.int .i64 a61.word), (.int .i64 a61.bit), (.int .i64 a61.width), (.int .i64 a61.size)]) (x := a61) rfl ⟨rfl, r86, r87, r88, r89⟩) Fr.lt) (Vb.mono (F := Fr 0 w95 O92) hx1 Fr.lt) e98) rfl rfl fun v103 w99 O100 S101 h102 => ?_
   obtain ⟨rfl, r104⟩ := h102.int
   replace h55 := h55.stS S101 id (fun _ _ => id)
   obtain ⟨a105, e106, hf66⟩ := bs hf66
   replace h75 := ((h75.st S93).st S96).st S101
   obtain ⟨b107, o108, ce109, hA110, hl111, hd112, rfl, r114⟩ := h75.elem e106
   refine o_iaE (hA := hA110) (hj := rfl) (hlt := hl111) rfl rfl rfl ?_
   refine l_setE rfl h75 (a := q97) (vInt r104) hA110 rfl rfl (lt_of_get e106) fun w115 S116 h75 => ?_
   replace h55 := h55.stS S116 (by decide) (by decide)
   refine o_z ?_
   refine ewp_seq (ewp_seq (ewp_draw (· = w115) [(0, true), (1, true), (2, true), (3, true), (4, true), (5, true), (6, true)] (by kernel_rfl) rfl (by kernel_rfl) rfl ?_))
   refine h_mv rfl rfl rfl (h_mv rfl rfl rfl ?_)
   obtain ⟨a117, e118, hf66⟩ := bs hf66
   obtain ⟨b119, o120, ce121, hA122, hl123, hd124, rfl, r126⟩ := h75.elem e118
   refine h_iaE (hA := hA122) (hj := rfl) (hlt := hl123) rfl rfl rfl rfl ?_
   refine h_ldA (hc := cat0 hd124) rfl rfl rfl ?_
   refine h_fa rfl rfl rfl ?_
   replace h94 := (h94.st S101).st S116
   refine h_ldA (hc := Blk.cell (i := 3) (h94.1) rfl) rfl rfl rfl ?_
   refine h_geS rfl rfl rfl rfl (fun c127 => ?_) fun c127 => ?_
   ·
    replace hf66 := ip hf66 c127
    refine h_z ?_
    refine ewp_true rfl (ewp_seq (ewp_region (o_miE rfl rfl ?_)))
    refine o_as rfl rfl (o_as rfl rfl (o_z ?_))
    refine ewp_ret ?_
    obtain rfl := sm hf66
    obtain rfl := hret67 _ rfl
    obtain rfl := sm (fin_ret hm)
    replace hB := (((hB.st S93).st S96).st S101).st S116
    obtain ⟨O', hS', hz, hl⟩ := hE.leave (fun q => if q = 2 then i0 else 0) rfl hB
    replace h52 := (((h52.st S93).st S96).st S101).st S116
    exact ret2 rfl (res_tmp rfl) (res_tmp rfl) ⟨O', hS', _, _, (Ob.leave h52 hz (hl 2 (by decide) (by decide)) hx0.2), rfl, (Vb.mono (Vb.nil _ _) hz), (vErr (by decide))⟩
   ·
    replace hf66 := im hf66 c127
    refine h_z ?_
    refine ewp_false rfl (ewp_skip (ewp_drawX [(6, [])] O100 ?_))
    refine x_pre (fuel := 4) [] [(0, true), (1, true), (2, true), (3, true), (4, true), (5, true)] (by kernel_rfl) rfl ?_
    refine h_mv rfl rfl rfl (h_fa rfl rfl rfl (h_ldC (hc := fun w' ⟨O', hq⟩ => Blk.cell (i := 0) ((h94.st hq (by decide)).1) rfl) rfl rfl rfl ?_))
    obtain ⟨a128, e129, hf66⟩ := bs hf66
    obtain ⟨p131, x130⟩ := atI_some' e129
    replace h77 := (((h77.st S93).st S96).st S101).st S116
    obtain ⟨b132, o133, ce134, hA135, hF138, hl136, hd137, rfl⟩ := h77.elemF x130
    refine h_iaE (hA := hA135) (hj := (Int.toNat_of_nonneg p131).symm) (hlt := hl136) rfl rfl rfl rfl ?_
    refine h_ldC (hc := fun w' ⟨O', hq⟩ => cat0 (cellsAt_agree (hq.agree (i := 5) (by decide)) hF138 hd137)) rfl rfl rfl ?_
    refine h_laB (hl := rfl) (hb := fun w' ⟨O', hq⟩ => ((h94.st hq (by decide)).1).cellsAt) rfl rfl rfl ?_
    refine hwp_nilT ?_
    refine x_one (i := 6) (by kernel_rfl) rfl ?_
    obtain ⟨q139, e140, hf66⟩ := bs hf66
    refine l_callA (O := O100) (A := All w115) (R := fun w' F v => Vb w' F v q139) (c_pack_field_mask (fun _ h => h) (Vb.mono (F := Fr 0 w115 O100) (Vb.ofAgg (cs := [(.int .i64 a61.word), (.int .i64 a61.bit), (.int .i64 a61.width), (.int .i64 a61.size)]) (x := a61) rfl ⟨rfl, r86, r87, r88, r89⟩) Fr.lt) e140) rfl rfl fun v145 w141 O142 S143 h144 => ?_
    obtain rfl := h144.u64
    have hZ := S143.lst [] (fun _ h => h.elim)
    replace h55 := h55.stS S143 id (fun _ _ => id)
    refine x_go [] hZ (by kernel_rfl) ?_
    refine x_pre (fuel := 1) [] [(7, true), (8, true)] (by kernel_rfl) rfl ?_
    refine h_uns (a := a128) (b := q139) rfl rfl rfl rfl ?_
    obtain ⟨a146, e147, hf66⟩ := bs hf66
    obtain ⟨p149, x148⟩ := atI_some' e147
    replace h77 := h77.st S143
    obtain ⟨b150, o151, ce152, hA153, hF156, hl154, hd155, rfl⟩ := h77.elemF x148
    refine h_iaE (hA := hA153) (hj := (Int.toNat_of_nonneg p149).symm) (hlt := hl154) rfl rfl rfl rfl ?_
    refine hwp_nilT ?_
    refine x_one (i := 9) (by kernel_rfl) rfl ?_
    refine l_setE rfl h77 (a := (a128 &&& ~~~q139)) vU64 hA153 rfl rfl (lt_of_get x148) fun w157 S158 h77 => ?_
    replace h55 := h55.stS S158 (by decide) (by decide)
    refine x_end (by kernel_rfl) ?_
    refine x_nil (by kernel_rfl) ?_
    obtain rfl := sm hf66
    refine (?_ : Exists _)
    replace hB := (((((hB.st S93).st S96).st S101).st S116).st S143).st S158
    replace hx1 := (((hx1.st S101).st S116).st S143).st S158
    replace h52 := (((((h52.st S93).st S96).st S101).st S116).st S143).st S158
    replace h75 := (h75.st S143).st S158
    exact ⟨_, (), rfl, ⟨rfl, rfl, rfl, rfl, rfl, rfl, trivial⟩, _, hB, hx1, h75, h77, h55, h52⟩
  replace hB := (((hB.st S8).st S35).st S42).st S51
  rintro l159 w160 ⟨s163, x164, rfl, hs162, O161, hB, h75, h77, h52⟩
  replace hm := fin_done hm
  refine ewp_sub _ hs162 ?_
  refine ewp_seq (ewp_seq (ewp_region (o_mv rfl rfl (o_ln rfl rfl ?_))))
  have l166 : q38.length ≤ 9223372036854775807 := Nat.le_trans h77.len.2.1 h77.len.2.2
  have r165 : inI64 (q38.length : Int) := rngNat l166
  refine o_mv rfl rfl (o_z ?_)
  obtain ⟨res167, hL168, hm⟩ := bs hm
  refine ewp_join (aft res167 (fun (s169 : Unit) (x170 : Unit) => [(6, (.slice (some ⟨g32, 0, none⟩) u25.length m27))]) (fun s169 x170 w' => ∃ O' : Lab, Bm w O0 w' O' ∧ Rw 4 w' O' 3 (.slice (some ⟨g32, 0, none⟩) u25.length m27) s163.1 ∧ Ob 2 w' O' (.pointer (some ⟨p0, 0, none⟩)) x0)) ?_ ?_
  ·
   refine ewp_block (ewp_rng (σ := Unit) (X := Unit) (q38.length) hL168 rfl l166 (fun (s169 : Unit) (x170 : Unit) => [(6, (.slice (some ⟨g32, 0, none⟩) u25.length m27)), (65, (.slice A45 q38.length c46))]) _ (fun s169 x170 w' => ∃ O' : Lab, Bm w O0 w' O' ∧ Rw 4 w' O' 3 (.slice (some ⟨g32, 0, none⟩) u25.length m27) s163.1 ∧ Rw 5 w' O' 158 (.slice A45 q38.length c46) s163.2 ∧ Ob 2 w' O' (.pointer (some ⟨p0, 0, none⟩)) x0) _ () ⟨O161, hB, h75, h77, h52⟩ ⟨rfl, rfl, rfl, rfl, trivial⟩ (fun _ _ => ⟨rfl, rfl⟩) (fun _ _ => ⟨rfl, trivial⟩) (fun _ _ _ ⟨O', hB, h75, h77, h52⟩ => ⟨O', hB, h75, h52⟩) ⟨rfl, rfl, rfl⟩ ⟨rfl, rfl⟩ ?_)
   rintro k171 a172 s169 x170 w173 cc175 hx176 ⟨O174, hB, h75, h77, h52⟩ hf177 hret178 hbrk179
   have rk171 : inI64 (k171 : Int) := rngK hx176 l166
   refine ewp_seq (ewp_region ?_)
   obtain ⟨a182, e183, hf177⟩ := bs hf177
   obtain ⟨b184, o185, ce186, hA187, hl188, hd189, rfl⟩ := h77.elem e183
   refine o_iaE (hA := hA187) (hj := rfl) (hlt := hl188) rfl rfl rfl ?_
   refine o_ld (hc := cat0 hd189) rfl rfl ?_
   refine o_as rfl rfl (o_z ?_)
   refine ewp_seq (ewp_region (o_mv rfl rfl (o_neS rfl rfl rfl (fun c191 => ?_) fun c191 => ?_)))
   ·
    replace hf177 := ip hf177 c191
    refine o_z ?_
    refine ewp_true rfl (ewp_seq (ewp_region (o_miE rfl rfl ?_)))
    refine o_as rfl rfl (o_as rfl rfl (o_z ?_))
    refine ewp_ret ?_
    obtain rfl := sm hf177
    obtain rfl := hret178 _ rfl
    obtain rfl := sm (fin_ret hm)
    obtain ⟨O', hS', hz, hl⟩ := hE.leave (fun q => if q = 2 then i0 else 0) rfl hB
    exact ret2 rfl (res_tmp rfl) (res_tmp rfl) ⟨O', hS', _, _, (Ob.leave h52 hz (hl 2 (by decide) (by decide)) hx0.2), rfl, (Vb.mono (Vb.nil _ _) hz), (vErr (by decide))⟩
   ·
    replace hf177 := im hf177 c191
    refine o_z ?_
    refine ewp_false rfl (ewp_skip ?_)
    obtain rfl := sm hf177
    refine (?_ : Exists _)
    exact ⟨_, (), rfl, ⟨rfl, rfl, rfl, rfl, trivial⟩, _, hB, h75, h77, h52⟩
  rintro l192 w193 ⟨s196, x197, rfl, hs195, O194, hB, h75, h52⟩
  replace hm := fin_done hm
  refine ewp_sub _ hs195 ?_
  refine ewp_seq (ewp_region (o_mv rfl rfl (o_as rfl rfl (o_as rfl rfl (o_z ?_)))))
  refine ewp_ret ?_
  obtain ⟨O198, S199, h75⟩ := h75.freeze
  obtain rfl := sm hm
  replace hB := hB.st S199
  obtain ⟨O', hS', hz, hl⟩ := hE.leave (fun q => if q = 2 then i0 else 0) rfl hB
  replace h52 := h52.st S199
  exact ret2 rfl (res_tmp rfl) (res_tmp rfl) ⟨O', hS', _, _, (Ob.leave h52 hz (hl 2 (by decide) (by decide)) hx0.2), rfl, (Vb.mono h75 hz), (vErr (show inI64 0 from by decide))⟩
noncomputable def m_pack_Packer_Hash (x0 : Pkr) (x1 : List U64) : Option Int :=
  bnd (rng (ρ := Int) (fun (k13 : Nat) (a14 : U64) (s11 : U64) => bnd (shrU ((s11 ^^^ a14) * (13787848793156543929 : U64)) 29) fun n31 => some (.next (((s11 ^^^ a14) * (13787848793156543929 : U64)) ^^^ n31))) x1 0 ((BitVec.ofInt 64 (x1.length : Int)) + (11400714819323198485 : U64))) fun res9 => fin res9 fun (s37 : U64) => bnd (shrU s37 2) fun n39 => some n39.toInt
theorem c_pack_Packer_Hash {w : World} {O : Lab} {p0 i0 : Nat} {x0 : Pkr} (hx0 : Ob i0 w O (.pointer (some ⟨p0, 0, none⟩)) x0) {vx1 : Value} {x1 : List U64} (hx1 : Vb w (Fr 0 w O) vx1 x1) {r : Int} (hm : m_pack_Packer_Hash x0 x1 = some r) :
    Fn Try.prog 97 [(.pointer (some ⟨p0, 0, none⟩)), vx1] w fun v w' => ∃ O', St (eT i0) w O w' O' ∧ Ob i0 w' O' (.pointer (some ⟨p0, 0, none⟩)) x0 ∧ Vb w' (Fr 0 w' O') v r := by
 obtain ⟨O0, hE, hz0, hl2⟩ := ent1 (w := w) (O := O) hx0.2
 have hx0' := Ob.leave hx0 hz0 hl2 (j := 2) (by decide)
 have hB : Bm w O0 w O0 := Bm.refl
 replace hx1 := hx1.mono hz0
 obtain ⟨A3, c4, rfl⟩ := hx1.form
 refine fn_enter Try.func97 rfl Try.ntmps97 rfl ?_
 unfold m_pack_Packer_Hash at hm
 refine ewp_seq (ewp_region (o_as rfl rfl (o_z ?_)))
 refine ewp_seq (ewp_seq (ewp_region (o_mv rfl rfl (o_pn rfl rfl ?_))))
 refine o_z ?_
 refine ewp_false rfl (ewp_skip (ewp_seq (ewp_region (o_mv rfl rfl (o_ln rfl rfl ?_)))))
 have l6 : x1.length ≤ 9223372036854775807 := Nat.le_trans hx1.len.2.1 hx1.len.2.2
 have r5 : inI64 (x1.length : Int) := rngNat l6
 refine o_cvU rfl rfl ?_
 refine o_uad (a := (BitVec.ofInt 64 (x1.length : Int))) (b := (11400714819323198485 : U64)) rfl rfl rfl ?_
 refine o_as rfl rfl (o_z ?_)
 refine ewp_seq (ewp_seq (ewp_region (o_mv rfl rfl (o_ln rfl rfl ?_))))
 have l8 : x1.length ≤ 9223372036854775807 := Nat.le_trans hx1.len.2.1 hx1.len.2.2
 have r7 : inI64 (x1.length : Int) := rngNat l8
 refine o_mv rfl rfl (o_z ?_)
 obtain ⟨res9, hL10, hm⟩ := bs hm
 refine ewp_join (aft res9 (fun (s11 : U64) (x12 : Unit) => [(5, (.int .u64 s11.toNat))]) (fun s11 x12 w' => ∃ O' : Lab, Bm w O0 w' O' ∧ Ob 2 w' O' (.pointer (some ⟨p0, 0, none⟩)) x0)) ?_ ?_
 ·
  refine ewp_block (ewp_rng (σ := U64) (X := Unit) (x1.length) hL10 rfl l8 (fun (s11 : U64) (x12 : Unit) => [(5, (.int .u64 s11.toNat)), (14, (.slice A3 x1.length c4))]) _ (fun s11 x12 w' => ∃ O' : Lab, Bm w O0 w' O' ∧ Vb w' (Fr 0 w' O') (.slice A3 x1.length c4) x1 ∧ Ob 2 w' O' (.pointer (some ⟨p0, 0, none⟩)) x0) _ () ⟨O0, hB, hx1, hx0'⟩ ⟨rfl, rfl, rfl, rfl, trivial⟩ (fun _ _ => ⟨rfl, rfl⟩) (fun _ _ => ⟨rfl, trivial⟩) (fun _ _ _ ⟨O', hB, hx1, hx0'⟩ => ⟨O', hB, hx0'⟩) ⟨rfl, rfl, rfl⟩ ⟨rfl, rfl⟩ ?_)
  rintro k13 a14 s11 x12 w15 cc17 hx18 ⟨O16, hB, hx1, hx0'⟩ hf19 hret20 hbrk21
  have rk13 : inI64 (k13 : Int) := rngK hx18 l8
  refine ewp_seq (ewp_region ?_)
  obtain ⟨b24, o25, ce26, hA27, hl28, hd29, rfl⟩ := hx1.elem' hx18
  refine o_iaE (hA := hA27) (hj := rfl) (hlt := hl28) rfl rfl rfl ?_
  refine o_ld (hc := cat0 hd29) rfl rfl ?_
  refine o_as rfl rfl (o_z ?_)
  refine ewp_seq (ewp_region (o_mv rfl rfl (o_mv rfl rfl (o_uxo (a := s11) (b := a14) rfl rfl rfl ?_))))
  refine o_as rfl rfl (o_z ?_)
  refine ewp_seq (ewp_region (o_mv rfl rfl (o_uml (a := (s11 ^^^ a14)) (b := (13787848793156543929 : U64)) rfl rfl rfl ?_)))
  refine o_as rfl rfl (o_z ?_)
  refine ewp_region (o_mv rfl rfl (o_mv rfl rfl ?_))
  obtain ⟨n31, e32, hf19⟩ := bs hf19
  refine o_usr (a := ((s11 ^^^ a14) * (13787848793156543929 : U64))) (he := e32) rfl rfl rfl ?_
  refine o_uxo (a := ((s11 ^^^ a14) * (13787848793156543929 : U64))) (b := n31) rfl rfl rfl ?_
  refine o_as rfl rfl (o_z ?_)
  obtain rfl := sm hf19
  refine (?_ : Exists _)
  exact ⟨_, (), rfl, ⟨rfl, rfl, rfl, rfl, trivial⟩, _, hB, hx1, hx0'⟩
 rintro l33 w34 ⟨s37, x38, rfl, hs36, O35, hB, hx0'⟩
 replace hm := fin_done hm
 refine ewp_sub _ hs36 ?_
 refine ewp_seq (ewp_region (o_mv rfl rfl ?_))
 obtain ⟨n39, e40, hm⟩ := bs hm
 refine o_usr (a := s37) (he := e40) rfl rfl rfl ?_
 refine o_cvI (a := n39) rfl rfl ?_
 refine o_as rfl rfl (o_z ?_)
 refine ewp_ret ?_
 obtain rfl := sm hm
 obtain ⟨O', hS', hz, hl⟩ := hE.leave (fun q => if q = 2 then i0 else 0) rfl hB
 exact ret1v rfl (res_tmp rfl) ⟨O', hS', (Ob.leave hx0' hz (hl 2 (by decide) (by decide)) hx0.2), (vInt (toIntR _))⟩
noncomputable def m_slices_Equal_Luint64_uint64 (x0 : List U64) (x1 : List U64) : Option Bool :=
  if (x0.length : Int) ≠ (x1.length : Int) then (some false) else (bnd (rng (ρ := Bool) (fun (k18 : Nat) (a19 : U64) (s16 : Unit) => bnd (x1[k18]?) fun a36 => if (a19.toNat : Int) ≠ (a36.toNat : Int) then (some (.ret false)) else (some (.next ()))) x0 0 ()) fun res14 => fin res14 fun (s50 : Unit) => some true)
theorem c_slices_Equal_Luint64_uint64 {w : World} {A : Nat → Prop} (hA : ∀ k, A k → k < w.heap.size) {vx0 : Value} {x0 : List U64} (hx0 : Vb w A vx0 x0) {vx1 : Value} {x1 : List U64} (hx1 : Vb w A vx1 x1) {r : Bool} (hm : m_slices_Equal_Luint64_uint64 x0 x1 = some r) :
    Fn Try.prog 98 [vx0, vx1] w fun v w' => Ext w w' ∧ Vb w' (upA A w w') v r := by
 obtain ⟨O, hB, hA0⟩ := enter hA
 replace hx0 := hx0.mono hA0
 obtain ⟨A3, c4, rfl⟩ := hx0.form
 replace hx1 := hx1.mono hA0
 obtain ⟨A5, c6, rfl⟩ := hx1.form
 refine fn_enter Try.func98 rfl Try.ntmps98 rfl ?_
 unfold m_slices_Equal_Luint64_uint64 at hm
 refine ewp_seq (ewp_region (o_as rfl rfl (o_z ?_)))
 refine ewp_seq (ewp_seq (ewp_region (o_mv rfl rfl (o_ln rfl rfl ?_))))
 have l8 : x0.length ≤ 9223372036854775807 := Nat.le_trans hx0.len.2.1 hx0.len.2.2
 have r7 : inI64 (x0.length : Int) := rngNat l8
 refine o_mv rfl rfl (o_ln rfl rfl ?_)
 have l10 : x1.length ≤ 9223372036854775807 := Nat.le_trans hx1.len.2.1 hx1.len.2.2
 have r9 : inI64 (x1.length : Int) := rngNat l10
 refine o_neS rfl rfl rfl (fun c11 => ?_) fun c11 => ?_
 ·
  replace hm := ip hm c11
  refine o_z ?_
  refine ewp_true rfl (ewp_seq (ewp_region (o_as rfl rfl (o_z ?_))))
  refine ewp_ret ?_
  obtain rfl := sm hm
  exact ret1v rfl (res_tmp rfl) ⟨hB.ext, vBool⟩
 ·
  replace hm := im hm c11
  refine o_z ?_
  refine ewp_false rfl (ewp_skip (ewp_seq (ewp_seq (ewp_region (o_mv rfl rfl (o_ln rfl rfl ?_))))))
  have l13 : x0.length ≤ 9223372036854775807 := Nat.le_trans hx0.len.2.1 hx0.len.2.2
  have r12 : inI64 (x0.length : Int) := rngNat l13
  refine o_mv rfl rfl (o_z ?_)
  obtain ⟨res14, hL15, hm⟩ := bs hm
  refine ewp_join (aft res14 (fun (s16 : Unit) (x17 : Unit) => []) (fun s16 x17 w' => ∃ O' : Lab, Bs w A w' O')) ?_ ?_
  ·
   refine ewp_block (ewp_rng (σ := Unit) (X := Unit) (x0.length) hL15 rfl l13 (fun (s16 : Unit) (x17 : Unit) => [(0, (.slice A3 x0.length c4)), (1, (.slice A5 x1.length c6))]) _ (fun s16 x17 w' => ∃ O' : Lab, Bs w A w' O' ∧ Vb w' (Fr 0 w' O') (.slice A3 x0.length c4) x0 ∧ Vb w' (Fr 0 w' O') (.slice A5 x1.length c6) x1) _ () ⟨O, hB, hx0, hx1⟩ ⟨rfl, rfl, rfl, rfl, trivial⟩ (fun _ _ => ⟨rfl, rfl⟩) (fun _ _ => trivial) (fun _ _ _ ⟨O', hB, hx0, hx1⟩ => ⟨O', hB⟩) ⟨rfl, rfl, rfl⟩ ⟨rfl, rfl⟩ ?_)
   rintro k18 a19 s16 x17 w20 cc22 hx23 ⟨O21, hB, hx0, hx1⟩ hf24 hret25 hbrk26
   have rk18 : inI64 (k18 : Int) := rngK hx23 l13
   refine ewp_seq (ewp_region (o_mv rfl rfl (o_as rfl rfl (o_z ?_))))
   refine ewp_seq (ewp_draw (· = w20) [(0, true), (1, true), (2, true), (3, true), (4, true), (5, true), (6, true), (7, true), (8, true)] (by kernel_rfl) rfl (by kernel_rfl) rfl ?_)
   refine h_mv rfl rfl rfl (h_mv rfl rfl rfl ?_)
   obtain ⟨b29, o30, ce31, hA32, hl33, hd34, rfl⟩ := hx0.elem' hx23
   refine h_iaE (hA := hA32) (hj := rfl) (hlt := hl33) rfl rfl rfl rfl ?_
   refine h_ldA (hc := cat0 hd34) rfl rfl rfl ?_
   refine h_mv rfl rfl rfl (h_mv rfl rfl rfl ?_)
   obtain ⟨a36, e37, hf24⟩ := bs hf24
   obtain ⟨b38, o39, ce40, hA41, hl42, hd43, rfl⟩ := hx1.elem' e37
   refine h_iaE (hA := hA41) (hj := rfl) (hlt := hl42) rfl rfl rfl rfl ?_
   refine h_ldA (hc := cat0 hd43) rfl rfl rfl ?_
   refine h_neS rfl rfl rfl rfl (fun c45 => ?_) fun c45 => ?_
   ·
    replace hf24 := ip hf24 c45
    refine h_z ?_
    refine ewp_true rfl (ewp_seq (ewp_region (o_as rfl rfl (o_z ?_))))
    refine ewp_ret ?_
    obtain rfl := sm hf24
    obtain rfl := hret25 _ rfl
    obtain rfl := sm (fin_ret hm)
    exact ret1v rfl (res_tmp rfl) ⟨hB.ext, vBool⟩
   ·
    replace hf24 := im hf24 c45
    refine h_z ?_
    refine ewp_false rfl (ewp_skip ?_)
    obtain rfl := sm hf24
    refine (?_ : Exists _)
    exact ⟨_, (), rfl, ⟨rfl, rfl, rfl, rfl, trivial⟩, _, hB, hx0, hx1⟩
  rintro l46 w47 ⟨s50, x51, rfl, hs49, O48, hB⟩
  replace hm := fin_done hm
  refine ewp_sub _ hs49 ?_
  refine ewp_seq (ewp_region (o_as rfl rfl (o_z ?_)))
  refine ewp_ret ?_
  obtain rfl := sm hm
  exact ret1v rfl (res_tmp rfl) ⟨hB.ext, vBool⟩
end
section
open Go Go.RowKit
class TMap (P : Program) (t : TypeId) (k e : outParam TypeId) : Prop where eq : P.underlying t = some (.map k e)
/-- Plain data as keys. -/
class MKey (K : Type) where
  dec : DecidableEq K
  enc : K → Value
  desc : TypeDesc
  key : ∀ a, MapKept.IsKey desc (enc a)
  inj : ∀ a b, enc a = enc b → a = b
class TKey (P : Program) (t : TypeId) (K : Type) [MKey K] : Prop where eq : P.underlying t = some (MKey.desc K)
instance : MKey Int where
  dec := inferInstance
  enc a := .int .i64 a
  desc := .int .i64
  key _ := rfl
  inj _ _ h := by injection h
section
variable {K V : Type} [MKey K]
instance keyDec : DecidableEq K := MKey.dec
def mhas : List (K × V) → K → Bool
  | [], _ => false
  | p :: r, k => if p.1 = k then true else mhas r k
def mget (z : V) : List (K × V) → K → V
  | [], _ => z
  | p :: r, k => if p.1 = k then p.2 else mget z r k
def mput : List (K × V) → K → V → List (K × V)
  | [], k, v => [(k, v)]
  | p :: r, k, v => if p.1 = k then (k, v) :: r else p :: mput r k v
def midx : List (K × V) → K → Option Nat
  | [], _ => none
  | p :: r, k => if p.1 = k then some 0 else (midx r k).map (· + 1)
theorem find_spec (a : K) : ∀ (es : List MapEntry) (x : List (K × V)) (i : Nat), es.map (·.key) = x.map (fun p => MKey.enc p.1) →
    (midx x a = none ∧ Instr.findNow (MKey.desc K) (MKey.enc a) es i = some none ∧ mhas x a = false ∧ (∀ z, mget z x a = z) ∧ ∀ v, mput x a v = x ++ [(a, v)]) ∨
    ∃ j e p, midx x a = some j ∧ es[j]? = some e ∧ x[j]? = some p ∧ Instr.findNow (MKey.desc K) (MKey.enc a) es i = some (some (i + j, e.val)) ∧ e.key = MKey.enc a ∧ mhas x a = true ∧ (∀ z, mget z x a = p.2) ∧ ∀ v, mput x a v = x.set j (a, v)
  | [], [], _, _ => .inl ⟨rfl, rfl, rfl, fun _ => rfl, fun _ => rfl⟩
  | [], _ :: _, _, h => by simp at h
  | _ :: _, [], _, h => by simp at h
  | e :: es, p :: x, i, h => by
    rw [List.map_cons, List.map_cons] at h
    injection h with h1 h2
    obtain ⟨r, hr, hiff⟩ := MapKept.sameNow_of_keys (MKey.key a) (MKey.key p.1)
    by_cases hp : p.1 = a
    · have : r = true := hiff.2 (by rw [hp])
      subst this
      refine .inr ⟨0, e, p, by simp [midx, hp], rfl, rfl, ?_, by rw [h1, hp], by simp [mhas, hp], fun z => by simp [mget, hp], fun v => by simp [mput, hp]⟩
      simp [Instr.findNow, h1, hr]
    · have : r = false := by
        cases r with
        | false => rfl
        | true => exact absurd (MKey.inj _ _ (hiff.1 rfl)).symm hp
      subst this
      rcases find_spec a es x (i + 1) h2 with ⟨g0, g1, g2, g3, g4⟩ | ⟨j, e', p', g0, g1, g2, g3, g4, g5, g6, g7⟩
      · exact .inl ⟨by simp [midx, hp, g0], by simp [Instr.findNow, h1, hr, g1], by simp [mhas, hp, g2], fun z => by simp [mget, hp, g3], fun v => by simp [mput, hp, g4]⟩
      · refine .inr ⟨j + 1, e', p', by simp [midx, hp, g0], by simpa using g1, by simpa using g2, ?_, g4, by simp [mhas, hp, g5], fun z => by simp [mget, hp, g6], fun v => by simp [mput, hp, g7]⟩
        simp [Instr.findNow, h1, hr, g3]; omega
end
/-- What a look-up yields. -/
def LkV (d : TypeDesc) (z : Value) (w : World) (r : Nat) (key v : Value) (b : Bool) : Prop := ∃ es ck a, w.heap[r]? = some (.map es ck) ∧ Instr.findNow d key es.toList 0 = some a ∧ v = (match a with | some p => p.2 | none => z) ∧ b = a.isSome
theorem LkV.keep {d : TypeDesc} {z : Value} {w w' : World} {r : Nat} {key v : Value} {b : Bool} (h : LkV d z w r key v b) (e : w'.heap[r]? = w.heap[r]?) : LkV d z w' r key v b := by
  obtain ⟨es, ck, a, h1, h2⟩ := h
  exact ⟨es, ck, a, e.trans h1, h2⟩
section
variable {P : Program} {l : Env} {w : World} {dst : Option Tmp} {ty : TypeId} {pos : String} {aft : Array Edge}
theorem ev_lk {K : Type} [MKey K] {t k e : TypeId} [ht : TMap P t k e] [hk : TKey P k K] {z : Value} {size bytes : Nat} [TInfo P e z size bytes] {x y : Operand} {r : Nat} {a : K} {v : Value} {b : Bool} (hx : opv l x = some (.map (some r))) (hy : opv l y = some (MKey.enc a)) (hv : LkV (MKey.desc K) z w r (MKey.enc a) v b) :
    Ev P ⟨dst, .lookup t x y false, ty, pos, aft, none⟩ l w v := fun _ _ d ha => by
  obtain ⟨es, ck, q, h1, h2, h3, h4⟩ := hv
  have hb : (dr w d).heap[r]? = some (.map es ck) := h1
  subst h3
  cases q with
  | none => simp [execOp, ha.eval hx, ha.eval hy, Instr.lookup, run_underlying ht.eq, MapKept.run_getObj_map hb, MapKept.run_checkKey hk.eq (MKey.key a), MapKept.run_findKey hk.eq h2, Result.andThen, run_zero (P := P) (t := e)]
  | some p => simp [execOp, ha.eval hx, ha.eval hy, Instr.lookup, run_underlying ht.eq, MapKept.run_getObj_map hb, MapKept.run_checkKey hk.eq (MKey.key a), MapKept.run_findKey hk.eq h2, Result.andThen]
end
/-- Entries behind an update. -/
def putEs (es : List MapEntry) (ck : Nat) (key v : Value) : Option Nat → List MapEntry
  | none => es ++ [{ key := key, val := v, born := ck }]
  | some j => es.modify j fun e => { e with key := key, val := v }
section
variable {P : Program} {n : Nat} {ops : Array Oper} {Q : Post} {rest : List Oper} {l : Env} {w : World} {d : Tmp} {ty : TypeId} {pos : String} {aft : Array Edge}
theorem owp_mput {K V : Type} [MKey K] {t k e : TypeId} [ht : TMap P t k e] [hk : TKey P k K] {x y u : Operand} {r ck : Nat} {a : K} {v : Value} {es : List MapEntry} {xs : List (K × V)} (hb : w.heap[r]? = some (.map es.toArray ck)) (hks : es.map (·.key) = xs.map (fun p => MKey.enc p.1)) (hx : opv l x = some (.map (some r))) (hy : opv l y = some (MKey.enc a)) (hu : opv l u = some v)
    (h : ∀ w' ck', w'.os = w.os → w'.tape = w.tape → w'.output = w.output → w'.heap.size = w.heap.size → w'.heap[r]? = some (.map (putEs es ck (MKey.enc a) v (midx xs a)).toArray ck') → (∀ q, q ≠ r → w'.heap[q]? = w.heap[q]?) → owp P n ops Q rest l w') : owp P n ops Q (⟨none, .mapUpdate t x y u, ty, pos, aft, none⟩ :: rest) l w := fun ac d ha => by
  refine wpList_plain rfl fun K' hK => ?_
  have hbd : (dr w d).heap[r]? = some (.map es.toArray ck) := hb
  unfold Oper.wp
  rcases find_spec a es xs 0 hks with ⟨g0, g1, _⟩ | ⟨j, e', p, g0, g1, g2, g3, g4, _⟩
  · have hr : (execOp ac.eval ⟨none, .mapUpdate t x y u, ty, pos, aft, none⟩).run P (dr w d) = .ok .skip { (dr w d) with heap := (dr w d).heap.setIfInBounds r (.map (es.toArray.push { key := MKey.enc a, val := v, born := ck }) (ck + 1)) } := by
      simp [execOp, ha.eval hx, ha.eval hy, ha.eval hu, Instr.mapUpdate, run_underlying ht.eq, MapKept.run_getObj_map hbd, MapKept.run_checkKey hk.eq (MKey.key a), MapKept.run_findKey hk.eq g1, MapKept.run_setObj_map _ hbd, Result.andThen]
    rw [hr]
    refine hK _ _ (h { w with heap := w.heap.setIfInBounds r (.map (es.toArray.push { key := MKey.enc a, val := v, born := ck }) (ck + 1)) } (ck + 1) rfl rfl rfl (by simp) ?_ (fun q hq => (MapKept.heap_set hb).2 q hq) _ d ha)
    rw [g0]
    simpa [putEs] using (MapKept.heap_set hb).1
  · have hj : es.toArray[j]? = some e' := by simpa using g1
    have hj' : es[j]? = some e' := g1
    rw [Nat.zero_add] at g3
    have hr : (execOp ac.eval ⟨none, .mapUpdate t x y u, ty, pos, aft, none⟩).run P (dr w d) = .ok .skip { (dr w d) with heap := (dr w d).heap.setIfInBounds r (.map (es.toArray.modify j fun e => { e with key := MKey.enc a, val := v }) ck) } := by
      simp [execOp, ha.eval hx, ha.eval hy, ha.eval hu, Instr.mapUpdate, run_underlying ht.eq, MapKept.run_getObj_map hbd, MapKept.run_checkKey hk.eq (MKey.key a), MapKept.run_findKey hk.eq g3, hj', g4, MapKept.run_keyThatStays (MKey.key a), MapKept.run_setObj_map _ hbd, Result.andThen]
    rw [hr]
    refine hK _ _ (h { w with heap := w.heap.setIfInBounds r (.map (es.toArray.modify j fun e => { e with key := MKey.enc a, val := v }) ck) } ck rfl rfl rfl (by simp) ?_ (fun q hq => (MapKept.heap_set hb).2 q hq) _ d ha)
    rw [g0]
    have := (MapKept.heap_set (o' := .map (es.toArray.modify j fun e => { e with key := MKey.enc a, val := v }) ck) hb).1
    simpa [putEs] using this
theorem owp_mkmap {t : TypeId} (hd : Nat.blt d n = true) (h : ∀ w', Ext w w' → w'.heap.size = w.heap.size + 1 → w'.heap[w.heap.size]? = some (.map #[] 0) → owp P n ops Q rest ((d, .map (some w.heap.size)) :: l) w') : owp P n ops Q (⟨some d, .makeMap t none, ty, pos, aft, none⟩ :: rest) l w :=
  owp_eff (w' := w.alloc (.map #[] 0)) (fun a e ha => .inl ⟨.map (some w.heap.size), e, by simp [execOp, Instr.makeMap]; exact ⟨rfl, rfl⟩, ha.put hd _⟩)
    (h _ ((Below.refl _ _).alloc (Nat.le_refl _) _) (by simp) (by show (w.heap.push _)[_]? = _; simp))
end
theorem putEs_keys {K V : Type} [MKey K] {es : List MapEntry} {xs : List (K × V)} (ck : Nat) (a : K) (v : Value) (y : V) (h : es.map (·.key) = xs.map (fun p => MKey.enc p.1)) : (putEs es ck (MKey.enc a) v (midx xs a)).map (·.key) = (mput xs a y).map (fun p => MKey.enc p.1) := by
  rcases find_spec a es xs 0 h with ⟨g0, _, _, _, g4⟩ | ⟨j, e', p, g0, g1, g2, g3, g4, _, _, g7⟩
  · rw [g0, g4]; simp [putEs, h]
  · rw [g0, g7]
    simp only [putEs, List.map_set, ← h]
    apply List.ext_getElem?
    intro q
    rw [List.getElem?_map, List.getElem?_modify, List.getElem?_set]
    by_cases hq : j = q
    · subst hq
      have hlt : j < es.length := lt_of_get g1
      simp [g1, hlt]
    · simp [hq]
class OwM (α : Type) [Ow α] : Prop where
  mptr : ∀ {w : World} {F M : Nat → Prop} {v : Value} {x : α}, Ow.R w F M v x → ∃ r, v = .map (some r)
theorem Ob.mptr {α : Type} [Ow α] [OwM α] {i : Nat} {w : World} {O : Lab} {v : Value} {x : α} (h : Ob i w O v x) : ∃ r, v = .map (some r) := OwM.mptr h.1
/-- Maps to rows that they own; e is the type of the rows' elements. -/
structure MapR (e : TypeId) (K V : Type) where
  l : List (K × List V)
def RA {K V : Type} [Rp V] (w : World) (F M : Nat → Prop) (L : Lab) (e : TypeId) (es : List MapEntry) (xs : List (K × List V)) (skip : Option Nat) : Prop := ∀ (j : Nat) (en : MapEntry) (p : K × List V), es[j]? = some en → xs[j]? = some p → skip ≠ some j → RwM w F (fun k => M k ∧ L k = j + 1) e en.val p.2
instance {e : TypeId} {K V : Type} [MKey K] [Rp V] : Ow (MapR e K V) where
  R w F M v x := ∃ (r : Nat) (L : Lab) (es : List MapEntry) (ck : Nat), v = .map (some r) ∧ w.heap[r]? = some (.map es.toArray ck) ∧ M r ∧ L r = 0 ∧ es.map (·.key) = x.l.map (fun p => MKey.enc p.1) ∧ RA w F M L e es x.l none
  agree := by rintro w w' F M v x ⟨r, L, es, ck, rfl, hb, hM, hL, hk, hv⟩ a1 a2; exact ⟨r, L, es, ck, rfl, (a2 r hM).trans hb, hM, hL, hk, fun j en p h1 h2 h3 => (hv j en p h1 h2 h3).agree a1 fun k hk => a2 k hk.1⟩
  mono := by rintro w F M F' M' v x ⟨r, L, es, ck, rfl, hb, hM, hL, hk, hv⟩ a1 a2 a3; exact ⟨r, L, es, ck, rfl, hb, a2 r hM, hL, hk, fun j en p h1 h2 h3 => (hv j en p h1 h2 h3).mono a1 (fun k hk => ⟨a2 k hk.1, hk.2⟩) fun k hf hm => a3 k hf hm.1⟩
instance {e : TypeId} {K V : Type} [MKey K] [Rp V] : OwM (MapR e K V) := ⟨by rintro w F M v x ⟨r, L, es, ck, rfl, _⟩; exact ⟨r, rfl⟩⟩
/-- A map of which one row is taken out. -/
def MapH {K V : Type} [MKey K] [Rp V] (i : Nat) (w : World) (O : Lab) (r : Nat) (e : TypeId) (x : MapR e K V) (a : K) : Prop :=
  (∃ (L : Lab) (es : List MapEntry) (ck : Nat), w.heap[r]? = some (.map es.toArray ck) ∧ Fr i w O r ∧ es.map (·.key) = x.l.map (fun p => MKey.enc p.1) ∧ RA w (Fr 0 w O) (Fr i w O) L e es x.l (midx x.l a)) ∧ i ≠ 0
section
variable {e : TypeId} {K V : Type} [MKey K] [Rp V] {i j : Nat} {T : Nat → Prop} {w w' : World} {O O' : Lab} {r : Nat} {x : MapR e K V} {a : K}
theorem MapH.st (h : MapH i w O r e x a) (hS : St T w O w' O') (h0 : ¬ T 0 := by decide) (hi : ¬ T i := by decide) : MapH i w' O' r e x a := by
  obtain ⟨⟨L, es, ck, hb, hM, hk, hr⟩, h1⟩ := h
  refine ⟨⟨L, es, ck, (hS.agree hi r hM).trans hb, hS.fr hi r hM, hk, fun q en p g1 g2 g3 => ?_⟩, h1⟩
  exact ((hr q en p g1 g2 g3).agree (hS.agree h0) fun k hk => hS.agree hi k hk.1).mono (hS.fr h0) (fun k hk => ⟨hS.fr hi k hk.1, hk.2⟩) fun k hf hm => frNe0 h1 k hf hm.1
theorem MapR.at (h : Ob i w O (.map (some r)) x) : Fr i w O r := by
  obtain ⟨⟨r', L, es, ck, hv, hb, hM, _⟩, _⟩ := h
  injection hv with hv
  injection hv with hv
  subst hv
  exact hM
theorem MapR.get (h : Ob i w O (.map (some r)) x) (a : K) : ∃ A c, LkV (MKey.desc K) (.slice none 0 0) w r (MKey.enc a) (.slice A (mget ([] : List V) x.l a).length c) (mhas x.l a) ∧ Vb w (FrS [i] w O) (.slice A (mget ([] : List V) x.l a).length c) (mget ([] : List V) x.l a) := by
  obtain ⟨⟨r', L, es, ck, hv, hb, hM, hL, hk, hra⟩, hi⟩ := h
  injection hv with hv
  injection hv with hv
  subst hv
  rcases find_spec a es x.l 0 hk with ⟨g0, g1, g2, g3, g4⟩ | ⟨q, e', p, g0, g1, g2, g3, g4, g5, g6, g7⟩
  · rw [g3, g2]
    exact ⟨none, 0, ⟨_, ck, none, hb, by simpa using g1, rfl, rfl⟩, Vb.nil _ _⟩
  · rw [g6, g5]
    have h1 := hra q e' p g1 g2 (by simp)
    have h2 : Rw i w O e e'.val p.2 := h1.rw (fun _ h => h) (fun _ h => h.1) hi
    obtain ⟨A, c, hA⟩ := h2.form
    refine ⟨A, c, ⟨_, ck, some (0 + q, e'.val), hb, by simpa using g3, hA.symm, rfl⟩, ?_⟩
    rw [← hA]
    exact h2.lend [i] (by simp)
theorem MapR.take (h : Ob i w O (.map (some r)) x) {v : Value} {b : Bool} (hl : LkV (MKey.desc K) (.slice none 0 0) w r (MKey.enc a) v b) (j : Nat) (hj : j ≠ 0) (hij : j ≠ i) : ∃ O', St (eT i) w O w O' ∧ MapH i w O' r e x a ∧ Rw j w O' e v (mget ([] : List V) x.l a) := by
  obtain ⟨⟨r', L, es, ck, hv, hb, hM, hL, hk, hra⟩, hi⟩ := h
  injection hv with hv
  injection hv with hv
  subst hv
  obtain ⟨es', ck', q, h1, h2, h3, h4⟩ := hl
  rw [hb] at h1
  injection h1 with h1
  injection h1 with h1 h1'
  subst h1
  rw [List.toList_toArray] at h2
  rcases find_spec a es x.l 0 hk with ⟨g0, g1, g2, g3, g4⟩ | ⟨n, e', p, g0, g1, g2, g3, g4, g5, g6, g7⟩
  · rw [g1] at h2
    have := sm h2
    subst this
    rw [g3, h3]
    exact ⟨O, St.refl _ _ _, ⟨⟨L, es, ck, hb, hM, hk, fun q en p a1 a2 _ => hra q en p a1 a2 (by simp)⟩, hi⟩, Rw.nil j hj⟩
  · rw [g3] at h2
    have := sm h2
    subst this
    rw [g6, h3]
    have hrow := hra n e' p g1 g2 (by simp)
    refine ⟨fun k => if O k = i ∧ L k = n + 1 then j else O k, ⟨rfl, rfl, rfl, Nat.le_refl _, fun k _ hk => ⟨rfl, if_neg fun h => hk h.1⟩⟩, ⟨⟨L, es, ck, hb, ⟨hM.1, ?_⟩, hk, fun q en p' a1 a2 a3 => ?_⟩, hi⟩, hrow.rw (fun k hk => ⟨hk.1, ?_⟩) (fun k hk => ⟨hk.1.1, if_pos ⟨hk.1.2, hk.2⟩⟩) hj⟩
    · show (if _ then _ else _) = _
      rw [if_neg (by rw [hL]; omega)]; exact hM.2
    · rw [g0] at a3
      have hne : n ≠ q := fun e => a3 (by rw [e])
      refine (hra q en p' a1 a2 (by simp)).mono (fun k hk => ⟨hk.1, ?_⟩) (fun k hk => ⟨⟨hk.1.1, ?_⟩, hk.2⟩) (fun k hf hm => frNe0 hi k hf hm.1)
      · show (if _ then _ else _) = _
        rw [if_neg (by rw [hk.2]; exact fun h => hi h.1.symm)]; exact hk.2
      · show (if _ then _ else _) = _
        rw [if_neg (by rw [hk.2]; omega)]; exact hk.1.2
    · show (if _ then _ else _) = _
      rw [if_neg (by rw [hk.2]; exact fun h => hi h.1.symm)]; exact hk.2
end
section
variable {P : Program} {n : Nat} {ops : Array Oper} {Q : Post} {rest : List Oper} {l : Env} {w : World} {d : Tmp} {ty : TypeId} {pos : String} {aft : Array Edge} {K V : Type} [MKey K] [Rp V] {i j : Nat} {O : Lab} {r : Nat}
theorem l_mputR {e' : TypeId} {x : MapR e' K V} {t k e : TypeId} [TMap P t k e] [TKey P k K] {m y u : Operand} {a : K} {v : Value} {ys : List V} (hM : MapH i w O r e' x a) (hv : Rw j w O e' v ys) (hij : j ≠ i) (hx : opv l m = some (.map (some r))) (hy : opv l y = some (MKey.enc a)) (hu : opv l u = some v)
    (h : ∀ w' O', St (fun q => q = i ∨ q = j) w O w' O' → Ob i w' O' (.map (some r)) (⟨mput x.l a ys⟩ : MapR e' K V) → owp P n ops Q rest l w') : owp P n ops Q (⟨none, .mapUpdate t m y u, ty, pos, aft, none⟩ :: rest) l w := by
  obtain ⟨⟨L, es, ck, hb, hM', hk, hra⟩, hi⟩ := hM
  refine owp_mput hb hk hx hy hu fun w' ck' e1 e2 e3 e4 e5 e6 => ?_
  have hlen : es.length = x.l.length := by have := congrArg List.length hk; simpa using this
  have hj0 : j ≠ 0 := hv.2.2
  have hrj : O r ≠ j := by rw [hM'.2]; exact Ne.symm hij
  let n0 : Nat := match midx x.l a with | some q => q | none => es.length
  have hS : St (fun q => q = i ∨ q = j) w O w' (fun k => if O k = j then i else O k) := ⟨e1, e2, e3, by omega, fun q hq hT => ⟨e6 q fun e => hT (by rw [e]; exact .inl hM'.2), if_neg fun e => hT (.inr e)⟩⟩
  have hF : ∀ k, Fr 0 w O k → Fr 0 w' (fun k => if O k = j then i else O k) k := fun k hk => ⟨by rw [e4]; exact hk.1, by show (if _ then _ else _) = _; rw [if_neg (by rw [hk.2]; exact Ne.symm hj0)]; exact hk.2⟩
  have hA0 : Agree (Fr 0 w O) w w' := fun k hk => e6 k fun e => by rw [e] at hk; exact hi (hM'.2.symm.trans hk.2)
  have hdis : ∀ m : Nat, ∀ k, Fr 0 w' (fun k => if O k = j then i else O k) k → ¬ (Fr i w' (fun k => if O k = j then i else O k) k ∧ (if O k = j then n0 + 1 else if k = r then 0 else L k) = m) := fun m k hf hm => frNe0 hi k hf hm.1
  have hnew : RwM w' (Fr 0 w' (fun k => if O k = j then i else O k)) (fun k => Fr i w' (fun k => if O k = j then i else O k) k ∧ (if O k = j then n0 + 1 else if k = r then 0 else L k) = n0 + 1) e' v ys := by
    have h1 : RwM w (Fr 0 w O) (Fr j w O) e' v ys := hv.m (fun _ h => h) (fun _ h => h) (frNe0 hj0)
    have h2 := h1.agree hA0 (fun k hk => e6 k fun e => by rw [e] at hk; exact hrj hk.2)
    exact h2.mono hF (fun k hk => ⟨⟨by rw [e4]; exact hk.1, if_pos hk.2⟩, if_pos hk.2⟩) (hdis _)
  have hkeep : ∀ q en (p : K × List V), es[q]? = some en → x.l[q]? = some p → midx x.l a ≠ some q → RwM w' (Fr 0 w' (fun k => if O k = j then i else O k)) (fun k => Fr i w' (fun k => if O k = j then i else O k) k ∧ (if O k = j then n0 + 1 else if k = r then 0 else L k) = q + 1) e' en.val p.2 := fun q en p g1 g2 g3 => by
    have h1 := hra q en p g1 g2 g3
    have hnr : ∀ g, en.val.ownBlock = some g → g ≠ r := fun g hg e => by
      subst e
      have h2 := h1.1
      obtain ⟨cells, o1, o2, o3⟩ := h2
      rcases o1.2 with ⟨hv0, _⟩ | ⟨g', cap, cur, hv0, _, hh, _⟩
      · rw [hv0] at hg; simp [Value.ownBlock] at hg
      · rw [hv0] at hg
        have : g' = g := by simpa [Value.ownBlock] using hg
        subst this
        rw [hb] at hh; cases hh
    have h2 : RwM w (Fr 0 w O) (fun k => (Fr i w O k ∧ L k = q + 1) ∧ k ≠ r) e' en.val p.2 := ⟨h1.1, fun g hg => ⟨h1.2 g hg, hnr g hg⟩⟩
    have h3 := h2.agree hA0 (fun k hk => e6 k hk.2)
    refine h3.mono hF (fun k hk => ?_) (hdis _)
    have hkj : O k ≠ j := by rw [hk.1.1.2]; exact Ne.symm hij
    exact ⟨⟨by rw [e4]; exact hk.1.1.1, by show (if _ then _ else _) = _; rw [if_neg hkj]; exact hk.1.1.2⟩, by rw [if_neg hkj, if_neg hk.2]; exact hk.1.2⟩
  refine h w' _ hS ⟨⟨r, fun k => if O k = j then n0 + 1 else if k = r then 0 else L k, _, ck', rfl, e5, ⟨by rw [e4]; exact hM'.1, by show (if _ then _ else _) = _; rw [if_neg hrj]; exact hM'.2⟩, by show (if _ then _ else _) = _; rw [if_neg hrj, if_pos rfl], putEs_keys ck a v ys hk, ?_⟩, hi⟩
  intro q en p h1 h2 _
  rcases find_spec a es x.l 0 hk with ⟨g0, _, _, _, g4⟩ | ⟨m, e'', p', g0, g1, g2, g3, g4, _, _, g7⟩
  · have hn0 : n0 = es.length := by show (match midx x.l a with | some q => q | none => es.length) = _; rw [g0]
    rw [g0] at h1
    rw [g4] at h2
    simp only [putEs] at h1
    by_cases hq : q < es.length
    · rw [List.getElem?_append_left hq] at h1
      rw [List.getElem?_append_left (by omega)] at h2
      exact hkeep q en p h1 h2 (by rw [g0]; simp)
    · rw [List.getElem?_append_right (by omega)] at h1
      rw [List.getElem?_append_right (by omega)] at h2
      cases hz : q - es.length with
      | zero =>
        rw [hz] at h1
        rw [show q - x.l.length = 0 from by omega] at h2
        simp at h1 h2
        subst h1; subst h2
        have hqe : q = n0 := by rw [hn0]; omega
        rw [hqe]
        exact hnew
      | succ m => rw [hz] at h1; simp at h1
  · have hn0 : n0 = m := by show (match midx x.l a with | some q => q | none => es.length) = _; rw [g0]
    rw [g0] at h1
    rw [g7] at h2
    simp only [putEs] at h1
    rw [List.getElem?_modify] at h1
    rw [List.getElem?_set] at h2
    by_cases hq : m = q
    · subst hq
      have hlt := lt_of_get g2
      rw [g1] at h1
      simp [hlt] at h1 h2
      subst h1; subst h2
      rw [← hn0]
      exact hnew
    · simp [hq] at h1 h2
      exact hkeep q en p h1 h2 (by rw [g0]; simpa using hq)
theorem l_mkmapR {t : TypeId} (e : TypeId) (i : Nat) (hi : i ≠ 0) (O : Lab) (hd : Nat.blt d n = true) (h : ∀ g w' O', St nT w O w' O' → Ob i w' O' (.map (some g)) (⟨[]⟩ : MapR e K V) → owp P n ops Q rest ((d, .map (some g)) :: l) w') : owp P n ops Q (⟨some d, .makeMap t none, ty, pos, aft, none⟩ :: rest) l w :=
  owp_mkmap hd fun w' hE hs hb => h _ w' _ (hE.st O fun _ => i) ⟨⟨w.heap.size, fun _ => 0, [], 0, rfl, hb, ⟨by omega, upO_new (Nat.le_refl _)⟩, rfl, rfl, fun j e p h1 _ => by simp at h1⟩, hi⟩
end
section
variable {P : Program} {n : Nat} {ops : Array Oper} {Q : Post} {rest : List Oper} {l : Env} {w : World} {d : Tmp} {ty : TypeId} {pos : String} {aft : Array Edge} {S : World → Prop} {rr : List (Nat × Bool)} {i' : Nat}
theorem o_lk {K : Type} [MKey K] {t k e : TypeId} [TMap P t k e] [TKey P k K] {z : Value} {size bytes : Nat} [TInfo P e z size bytes] {x y : Operand} {r : Nat} {v : Value} {b : Bool} (a : K) (hv : LkV (MKey.desc K) z w r (MKey.enc a) v b) (hx : opv l x = some (.map (some r))) (hy : opv l y = some (MKey.enc a)) (hd : Nat.blt d n = true) (h : owp P n ops Q rest ((d, v) :: l) w) : owp P n ops Q (⟨some d, .lookup t x y false, ty, pos, aft, none⟩ :: rest) l w := owp_ev (ev_lk hx hy hv) hd h
theorem h_lk {K : Type} [MKey K] {t k e : TypeId} [TMap P t k e] [TKey P k K] {z : Value} {size bytes : Nat} [TInfo P e z size bytes] {x y : Operand} {r : Nat} {v : Value} {b : Bool} (a : K) (hv : ∀ w', S w' → LkV (MKey.desc K) z w' r (MKey.enc a) v b) (hi : ops[i']? = some ⟨some d, .lookup t x y false, ty, pos, aft, none⟩) (hx : opv l x = some (.map (some r))) (hy : opv l y = some (MKey.enc a)) (hd : Nat.blt d n = true) (h : hwp P n ops Q S rr ((d, v) :: l) w) : hwp P n ops Q S ((i', true) :: rr) l w := hwp_o hi (hwq_ev (fun w' hS => ev_lk hx hy (hv w' hS)) hd h)
end
end
section
open Go Go.RowKit
attribute [local irreducible] ewp owp hwp hwq Ev Evg Fn retPost Res1
attribute [local irreducible] hwx loudX
instance : TMap Try.prog 103 3 22 := ⟨Try.underlying103⟩
instance : TKey Try.prog 3 Int := ⟨Try.underlying3⟩
structure RLk where
  parent : Int
  op : Int
  cost : Int
structure REn where
  words : List U64
  link : RLk
instance : Rp REn where
  isAgg := true
  size := 4
  R w F cs x := ∃ v0, cs = [v0, .int .i64 x.link.parent, .int .i64 x.link.op, .int .i64 x.link.cost] ∧ Vb w F v0 x.words ∧ inI64 x.link.parent ∧ inI64 x.link.op ∧ inI64 x.link.cost
  len := by rintro w F cs x ⟨v0, rfl, h0, h1, h2, h3⟩; rfl
  one := by rintro w F cs x ⟨v0, rfl, h0, h1, h2, h3⟩ u hu; simp at hu; rcases hu with rfl | rfl | rfl | rfl <;> first | rfl | exact Vb.one rfl (by assumption)
  agree := by rintro w w' F cs x ⟨v0, rfl, h0, h1, h2, h3⟩ ha; exact ⟨v0, rfl, h0.agree ha, h1, h2, h3⟩
  mono := by rintro w F G cs x ⟨v0, rfl, h0, h1, h2, h3⟩ ha; exact ⟨v0, rfl, h0.mono ha, h1, h2, h3⟩
structure Reg where
  packer : Pkr
  entries : List REn
  table : MapR 3 Int Int
instance : Ow Reg where
  R w F M v x := ∃ (g : Nat) (L : Lab) (c0 c1 c2 : Value), v = .pointer (some ⟨g, 0, none⟩) ∧ Blk w g 106 [c0, c1, c2] ∧ M g ∧ L g = 0 ∧ Ow.R w F (fun k => M k ∧ L k = 1) c0 x.packer ∧ RwM w F (fun k => M k ∧ L k = 2) 137 c1 x.entries ∧ Ow.R w F (fun k => M k ∧ L k = 3) c2 x.table
  agree := by rintro w w' F M v x ⟨g, L, c0, c1, c2, rfl, hb, hM, hL, h0, h1, h2⟩ a1 a2; exact ⟨g, L, c0, c1, c2, rfl, hb.keep (a2 g hM), hM, hL, Ow.agree h0 a1 fun k hk => a2 k hk.1, h1.agree a1 fun k hk => a2 k hk.1, Ow.agree h2 a1 fun k hk => a2 k hk.1⟩
  mono := by rintro w F M F' M' v x ⟨g, L, c0, c1, c2, rfl, hb, hM, hL, h0, h1, h2⟩ a1 a2 a3; exact ⟨g, L, c0, c1, c2, rfl, hb, a2 g hM, hL, Ow.mono h0 a1 (fun k hk => ⟨a2 k hk.1, hk.2⟩) fun k hf hm => a3 k hf hm.1, h1.mono a1 (fun k hk => ⟨a2 k hk.1, hk.2⟩) fun k hf hm => a3 k hf hm.1, Ow.mono h2 a1 (fun k hk => ⟨a2 k hk.1, hk.2⟩) fun k hf hm => a3 k hf hm.1⟩
instance : OwP Reg := ⟨by rintro w F M v x ⟨g, L, c0, c1, c2, rfl, _⟩; exact ⟨g, rfl⟩⟩
theorem Reg.opn {i : Nat} {w : World} {O : Lab} {p : Nat} {x : Reg} (h : Ob i w O (.pointer (some ⟨p, 0, none⟩)) x) (l0 l1 l2 l3 : Nat) (hl : l0 ≠ 0 ∧ l1 ≠ 0 ∧ l2 ≠ 0 ∧ l3 ≠ 0) : ∃ (O' : Lab) (c0 c1 c2 : Value), St (eT i) w O w O' ∧ (∀ k, Fr i w O k → ∃ q, q ∈ [l0, l1, l2, l3] ∧ Fr q w O' k) ∧ Lc l0 w O' p 106 [c0, c1, c2] ∧ Ob l1 w O' c0 x.packer ∧ Rw l2 w O' 137 c1 x.entries ∧ Ob l3 w O' c2 x.table := by
  obtain ⟨⟨g, L, c0, c1, c2, hv, hb, hM, hL, h0, h1, h2⟩, hi⟩ := h
  obtain rfl : p = g := by injection hv with hv; injection hv with hv; injection hv
  exact ⟨part O i L [l0, l1, l2, l3], c0, c1, c2, part_st hi, part_all (by simp), ⟨hb, (part_fr (j := 0) rfl p ⟨hM, hL⟩).2⟩, ⟨Ow.mono h0 (part_fr0 hi) (part_fr (j := 1) rfl) (frNe0 hl.2.1), hl.2.1⟩, h1.rw (part_fr0 hi) (part_fr (j := 2) rfl) hl.2.2.1, ⟨Ow.mono h2 (part_fr0 hi) (part_fr (j := 3) rfl) (frNe0 hl.2.2.2), hl.2.2.2⟩⟩
theorem Reg.shut {w : World} {O : Lab} {p : Nat} {x : Reg} {l0 l1 l2 l3 : Nat} {c0 c1 c2 : Value} (hd : ¬ 0 ∈ [l0, l1, l2, l3] ∧ [l0, l1, l2, l3].idxOf l0 = 0 ∧ [l0, l1, l2, l3].idxOf l1 = 1 ∧ [l0, l1, l2, l3].idxOf l2 = 2 ∧ [l0, l1, l2, l3].idxOf l3 = 3) (hb : Lc l0 w O p 106 [c0, c1, c2]) (h0 : Ob l1 w O c0 x.packer) (h1 : Rw l2 w O 137 c1 x.entries) (h2 : Ob l3 w O c2 x.table) : ∃ O', St (· ∈ [l0, l1, l2, l3]) w O w O' ∧ (∀ k, Fr 0 w O k → Fr 0 w O' k) ∧ (∀ q, q ∈ [l0, l1, l2, l3] → ∀ k, Fr q w O k → Fr l0 w O' k) ∧ Ob l0 w O' (.pointer (some ⟨p, 0, none⟩)) x := by
  have hb1 : l0 ≠ 0 := fun e => hd.1 (by simp [e])
  have hg := whole_fr (i := l0) hd.2.1 (by simp) p ⟨hb.1.lt, hb.2⟩
  exact ⟨whole O l0 [l0, l1, l2, l3], whole_st, whole_fr0 hd.1, whole_all, ⟨p, fun k => [l0, l1, l2, l3].idxOf (O k), c0, c1, c2, rfl, hb.1, hg.1, hg.2, Ow.mono h0.1 (whole_fr0 hd.1) (whole_fr hd.2.2.1 (by simp)) (fun k a b => frNe0 hb1 k a b.1), h1.m (whole_fr0 hd.1) (whole_fr hd.2.2.2.1 (by simp)) (fun k a b => frNe0 hb1 k a b.1), Ow.mono h2.1 (whole_fr0 hd.1) (whole_fr hd.2.2.2.2 (by simp)) (fun k a b => frNe0 hb1 k a b.1)⟩, hb1⟩
noncomputable def m_registry_New (x0 : List Int) : Option ((Option Reg) × Err) :=
  bnd (m_pack_New x0) fun q4 => if q4.2.n ≠ 0 then (some (none, (⟨q4.2.n⟩ : Err))) else (bnd q4.1 fun o22 => some ((some (⟨o22, ([] : List REn), (⟨[]⟩ : MapR 3 Int Int)⟩ : Reg)), (⟨0⟩ : Err)))
theorem c_registry_New {w : World} {O : Lab} {vx0 : Value} {x0 : List Int} (hx0 : Vb w (Fr 0 w O) vx0 x0) (j0 : Nat) (hj0 : j0 ≠ 0) {r : (Option Reg) × Err} (hm : m_registry_New x0 = some r) :
    Fn Try.prog 39 [vx0] w fun v w' => ∃ O', St nT w O w' O' ∧ ∃ v0 v1 : Value, v = .tuple #[v0, v1] ∧ Obo j0 w' O' v0 r.1 ∧ Vb w' (Fr 0 w' O') v1 r.2 := by
 obtain ⟨O0, hE, hz0⟩ := ent0 (w := w) (O := O)
 have hB : Bm w O0 w O0 := Bm.refl
 replace hx0 := hx0.mono hz0
 obtain ⟨A2, c3, rfl⟩ := hx0.form
 refine fn_enter Try.func39 rfl Try.ntmps39 rfl ?_
 unfold m_registry_New at hm
 refine ewp_seq (ewp_region (o_as rfl rfl (o_as rfl rfl (o_z ?_))))
 refine ewp_seq (ewp_region (o_mv rfl rfl ?_))
 obtain ⟨q4, e5, hm⟩ := bs hm
 refine l_callM (O := O0) (c_pack_New hx0 2 (by decide) e5) rfl rfl fun v10 w6 O7 S8 h9 => ?_
 obtain ⟨v11, v12, rfl, h13, h14⟩ := h9
 obtain ⟨rfl, r15⟩ := h14.err
 refine o_mv rfl rfl (o_ex rfl rfl rfl (o_ex rfl rfl rfl (o_as rfl rfl (o_as rfl rfl (o_z ?_)))))
 refine ewp_seq (ewp_seq (ewp_region (o_mv rfl rfl (o_rnS rfl rfl (fun c16 => ?_) fun c16 => ?_))))
 ·
  replace hm := ip hm c16
  refine o_z ?_
  refine ewp_true rfl (ewp_seq (ewp_region (o_mv rfl rfl (o_as rfl rfl (o_as rfl rfl (o_z ?_))))))
  refine ewp_ret ?_
  obtain rfl := sm hm
  replace hB := hB.st S8
  obtain ⟨O', hS', hz, hl⟩ := hE.leave (fun _ => 0) rfl hB
  exact ret2 rfl (res_tmp rfl) (res_tmp rfl) ⟨O', hS', _, _, rfl, rfl, (vErr r15)⟩
 ·
  replace hm := im hm c16
  refine o_z ?_
  refine ewp_false rfl (ewp_skip (ewp_seq (ewp_region (o_mv rfl rfl (l_mkmapR (K := Int) (V := Int) 3 3 (by decide) O7 rfl fun p17 w18 O19 S20 h21 => ?_)))))
  obtain ⟨o22, e23, hm⟩ := bs hm
  replace h13 := h13.st S20
  rw [e23] at h13
  obtain ⟨p24, rfl⟩ := Ob.ptr h13
  refine o_bd rfl rfl rfl ?_
  refine l_box 4 O19 rfl rfl fun g25 w26 O27 S28 h29 => ?_
  replace h29 : Lc 4 w26 O27 g25 106 [(.pointer (some ⟨p24, 0, none⟩)), (.slice none 0 0), (.map (some p17))] := h29
  refine o_as rfl rfl (o_as rfl rfl (o_z ?_))
  refine ewp_ret ?_
  have h30 : Rw 5 w26 O27 137 (.slice none 0 0) ([] : List REn) := Rw.nil 5 (by decide)
  replace h13 := h13.st S28
  replace h21 := h21.st S28
  obtain ⟨O32, S33, hz35, ha36, h34⟩ := Reg.shut (x := (⟨o22, ([] : List REn), (⟨[]⟩ : MapR 3 Int Int)⟩ : Reg)) (l0 := 4) (l1 := 2) (l2 := 5) (l3 := 3) (by decide) h29 h13 h30 h21
  obtain rfl := sm hm
  replace hB := (((hB.st S8).st S20).st S28).st S33
  obtain ⟨O', hS', hz, hl⟩ := hE.leave (fun q => if q = 4 then j0 else 0) rfl hB
  exact ret2 rfl (res_tmp rfl) (res_tmp rfl) ⟨O', hS', _, _, rfl, (Ob.leave h34 hz (hl 4 (by decide) (by decide)) hj0), (vErr (show inI64 0 from by decide))⟩
noncomputable def m_registry_Registry_find (x0 : Reg) (x1 : List Int) : Option ((List U64) × Int × Int × Err) :=
  bnd (m_pack_Packer_Pack x0.packer x1) fun q20 => if q20.2.n ≠ 0 then (some (([] : List U64), 0, (-1), (⟨2⟩ : Err))) else (bnd (m_pack_Packer_Hash x0.packer q20.1) fun q41 => bnd (rng (ρ := (List U64) × Int × Int × Err) (fun (k66 : Nat) (a67 : Int) (s64 : Unit) => bnd (atI x0.entries a67) fun a100 => bnd (m_slices_Equal_Luint64_uint64 a100.words q20.1) fun q118 => if q118 = true then some (.ret (q20.1, q41, a67, (⟨0⟩ : Err))) else some (.next ())) (mget ([] : List Int) x0.table.l q41) 0 ()) fun res62 => fin res62 fun (s139 : Unit) => some (q20.1, q41, (-1), (⟨0⟩ : Err)))
theorem c_registry_Registry_find {w : World} {O : Lab} {p0 i0 : Nat} {x0 : Reg} (hx0 : Ob i0 w O (.pointer (some ⟨p0, 0, none⟩)) x0) {vx1 : Value} {x1 : List Int} (hx1 : Vb w (Fr 0 w O) vx1 x1) {r : (List U64) × Int × Int × Err} (hm : m_registry_Registry_find x0 x1 = some r) :
    Fn Try.prog 74 [(.pointer (some ⟨p0, 0, none⟩)), vx1] w fun v w' => ∃ O', St (eT i0) w O w' O' ∧ ∃ v0 v1 v2 v3 : Value, Ob i0 w' O' (.pointer (some ⟨p0, 0, none⟩)) x0 ∧ v = .tuple #[v0, v1, v2, v3] ∧ Vb w' (Fr 0 w' O') v0 r.1 ∧ Vb w' (Fr 0 w' O') v1 r.2.1 ∧ Vb w' (Fr 0 w' O') v2 r.2.2.1 ∧ Vb w' (Fr 0 w' O') v3 r.2.2.2 := by
 obtain ⟨O0, hE, hz0, hl2⟩ := ent1 (w := w) (O := O) hx0.2
 have hx0' := Ob.leave hx0 hz0 hl2 (j := 2) (by decide)
 have hB : Bm w O0 w O0 := Bm.refl
 replace hx1 := hx1.mono hz0
 obtain ⟨A3, c4, rfl⟩ := hx1.form
 refine fn_enter Try.func74 rfl Try.ntmps74 rfl ?_
 unfold m_registry_Registry_find at hm
 refine ewp_seq (ewp_region (o_as rfl rfl (o_as rfl rfl (o_as rfl rfl (o_as rfl rfl (o_z ?_))))))
 refine ewp_seq (ewp_region (o_mv rfl rfl (o_nc rfl rfl ?_)))
 obtain ⟨O5, v9, v12, v17, S6, ha8, h7, h10, h13, h18⟩ := Reg.opn hx0' 2 3 4 5 (by decide)
 obtain ⟨p11, rfl⟩ := h10.ptr
 obtain ⟨A14, c15, rfl⟩ := h13.form
 obtain ⟨p19, rfl⟩ := h18.mptr
 refine o_fa rfl rfl (o_ld (hc := Blk.cell (i := 0) (h7.1) rfl) rfl rfl ?_)
 refine o_mv rfl rfl ?_
 obtain ⟨q20, e21, hm⟩ := bs hm
 replace hx1 := hx1.st S6
 refine l_callM (O := O5) (c_pack_Packer_Pack h10 hx1 e21) rfl rfl fun v26 w22 O23 S24 h25 => ?_
 obtain ⟨v28, v29, h27, rfl, h30, h31⟩ := h25
 obtain ⟨A32, c33, rfl⟩ := h30.form
 obtain ⟨rfl, r34⟩ := h31.err
 refine o_mv rfl rfl (o_ex rfl rfl rfl (o_ex rfl rfl rfl (o_as rfl rfl (o_as rfl rfl (o_z ?_)))))
 refine ewp_seq (ewp_seq (ewp_region (o_mv rfl rfl (o_rnS rfl rfl (fun c35 => ?_) fun c35 => ?_))))
 ·
  replace hm := ip hm c35
  refine o_z ?_
  refine ewp_true rfl (ewp_seq (ewp_region (o_miE rfl rfl ?_)))
  refine o_as rfl rfl (o_as rfl rfl (o_as rfl rfl (o_as rfl rfl (o_z ?_))))
  refine ewp_ret ?_
  replace h7 := h7.st S24
  replace h13 := h13.st S24
  replace h18 := h18.st S24
  obtain ⟨O36, S37, hz39, ha40, h38⟩ := Reg.shut (x := x0) (l0 := 2) (l1 := 3) (l2 := 4) (l3 := 5) (by decide) h7 h27 h13 h18
  obtain rfl := sm hm
  replace hB := ((hB.st S6).st S24).st S37
  obtain ⟨O', hS', hz, hl⟩ := hE.leave (fun q => if q = 2 then i0 else 0) rfl hB
  exact ret4 rfl (res_tmp rfl) (res_tmp rfl) (res_tmp rfl) (res_tmp rfl) ⟨O', hS', _, _, _, _, (Ob.leave h38 hz (hl 2 (by decide) (by decide)) hx0.2), rfl, (Vb.mono (Vb.nil _ _) hz), (vInt (show inI64 (0) from by decide)), (vInt (show inI64 (-1) from by decide)), (vErr (by decide))⟩
 ·
  replace hm := im hm c35
  refine o_z ?_
  refine ewp_false rfl (ewp_skip (ewp_seq (ewp_region (o_mv rfl rfl (o_nc rfl rfl (o_fa rfl rfl ?_))))))
  replace h7 := h7.st S24
  refine o_ld (hc := Blk.cell (i := 0) (h7.1) rfl) rfl rfl ?_
  refine o_mv rfl rfl ?_
  obtain ⟨q41, e42, hm⟩ := bs hm
  refine l_callM (O := O23) (c_pack_Packer_Hash h27 h30 e42) rfl rfl fun v47 w43 O44 S45 h46 => ?_
  obtain ⟨h48, h49⟩ := h46
  obtain ⟨rfl, r50⟩ := h49.int
  refine o_as rfl rfl (o_z ?_)
  refine ewp_seq (ewp_seq (ewp_region (o_mv rfl rfl (o_nc rfl rfl (o_fa rfl rfl ?_)))))
  replace h7 := h7.st S45
  refine o_ld (hc := Blk.cell (i := 2) (h7.1) rfl) rfl rfl ?_
  refine o_mv rfl rfl ?_
  replace h18 := (h18.st S24).st S45
  obtain ⟨A53, c54, hl51, h52⟩ := MapR.get h18 q41
  refine o_lk q41 hl51 rfl rfl rfl ?_
  refine o_ln rfl rfl ?_
  have l56 : (mget ([] : List Int) x0.table.l q41).length ≤ 9223372036854775807 := Nat.le_trans h52.len.2.1 h52.len.2.2
  have r55 : inI64 ((mget ([] : List Int) x0.table.l q41).length : Int) := rngNat l56
  refine o_mv rfl rfl (o_z ?_)
  replace h13 := (h13.st S24).st S45
  obtain ⟨O57, S58, hz60, ha61, h59⟩ := Reg.shut (x := x0) (l0 := 2) (l1 := 3) (l2 := 4) (l3 := 5) (by decide) h7 h48 h13 h18
  replace h52 := h52.shutS S58 hz60 ha61 [2] (by decide)
  obtain ⟨res62, hL63, hm⟩ := bs hm
  refine ewp_join (aft res62 (fun (s64 : Unit) (x65 : Unit) => [(8, (.slice A32 q20.1.length c33)), (10, (.int .i64 q41))]) (fun s64 x65 w' => ∃ O' : Lab, Bm w O0 w' O' ∧ Vb w' (Fr 0 w' O') (.slice A32 q20.1.length c33) q20.1 ∧ Ob 2 w' O' (.pointer (some ⟨p0, 0, none⟩)) x0)) ?_ ?_
  ·
   refine ewp_block ?_
   replace hB := (((hB.st S6).st S24).st S45).st S58
   replace h30 := (h30.st S45).st S58
   refine ewp_rng (σ := Unit) (X := Unit) ((mget ([] : List Int) x0.table.l q41).length) hL63 rfl l56 (fun (s64 : Unit) (x65 : Unit) => [(0, (.pointer (some ⟨p0, 0, none⟩))), (8, (.slice A32 q20.1.length c33)), (10, (.int .i64 q41)), (36, (.slice A53 (mget ([] : List Int) x0.table.l q41).length c54))]) _ (fun s64 x65 w' => ∃ O' : Lab, Bm w O0 w' O' ∧ Ob 2 w' O' (.pointer (some ⟨p0, 0, none⟩)) x0 ∧ Vb w' (Fr 0 w' O') (.slice A32 q20.1.length c33) q20.1 ∧ Vb w' (FrS [2] w' O') (.slice A53 (mget ([] : List Int) x0.table.l q41).length c54) (mget ([] : List Int) x0.table.l q41)) _ () ⟨O57, hB, h59, h30, h52⟩ ⟨rfl, rfl, rfl, rfl, rfl, rfl, trivial⟩ (fun _ _ => ⟨rfl, rfl⟩) (fun _ _ => ⟨rfl, rfl, trivial⟩) (fun _ _ _ ⟨O', hB, h59, h30, h52⟩ => ⟨O', hB, h30, h59⟩) ⟨rfl, rfl, rfl⟩ ⟨rfl, rfl⟩ ?_
   rintro k66 a67 s64 x65 w68 cc70 hx71 ⟨O69, hB, h59, h30, h52⟩ hf72 hret73 hbrk74
   have rk66 : inI64 (k66 : Int) := rngK hx71 l56
   refine ewp_seq (ewp_region ?_)
   obtain ⟨b77, o78, ce79, hA80, hl81, hd82, rfl, r84⟩ := h52.elem' hx71
   refine o_iaE (hA := hA80) (hj := rfl) (hlt := hl81) rfl rfl rfl ?_
   refine o_ld (hc := cat0 hd82) rfl rfl ?_
   refine o_as rfl rfl (o_z ?_)
   refine ewp_seq (ewp_region (o_mv rfl rfl (o_nc rfl rfl ?_)))
   obtain ⟨O85, v89, v92, v97, S86, ha88, h87, h90, h93, h98⟩ := Reg.opn h59 2 3 4 5 (by decide)
   obtain ⟨p91, rfl⟩ := h90.ptr
   obtain ⟨A94, c95, rfl⟩ := h93.form
   obtain ⟨p99, rfl⟩ := h98.mptr
   replace h52 := h52.opnS S86 (by decide) ha88 [2, 3, 4, 5] (by decide)
   refine o_fa rfl rfl (o_ld (hc := Blk.cell (i := 1) (h87.1) rfl) rfl rfl ?_)
   refine o_mv rfl rfl ?_
   obtain ⟨a100, e101, hf72⟩ := bs hf72
   obtain ⟨p103, x102⟩ := atI_some' e101
   obtain ⟨b104, o105, ce106, hA107, hl108, hd109, v111, rfl, h112, r115, r116, r117⟩ := h93.elem x102
   obtain ⟨A113, c114, rfl⟩ := h112.form
   refine o_iaE (hA := hA107) (hj := (Int.toNat_of_nonneg p103).symm) (hlt := hl108) rfl rfl rfl ?_
   refine o_fa rfl rfl (o_ld (hc := cat0 hd109) rfl rfl ?_)
   refine o_mv rfl rfl ?_
   obtain ⟨q118, e119, hf72⟩ := bs hf72
   replace h30 := h30.st S86
   refine l_callA (O := O85) (A := All w68) (R := fun w' F v => Vb w' F v q118) (c_slices_Equal_Luint64_uint64 (fun _ h => h) (Vb.mono (F := Fr 0 w68 O85) h112 Fr.lt) (Vb.mono (F := Fr 0 w68 O85) h30 Fr.lt) e119) rfl rfl fun v124 w120 O121 S122 h123 => ?_
   obtain rfl := h123.bool
   replace h52 := h52.stS S122 id (fun _ _ => id)
   cases q118
   case false =>
    replace hf72 := iF hf72
    refine o_z ?_
    refine ewp_false rfl (ewp_skip ?_)
    replace h87 := h87.st S122
    replace h90 := h90.st S122
    replace h93 := h93.st S122
    replace h98 := h98.st S122
    obtain ⟨O125, S126, hz128, ha129, h127⟩ := Reg.shut (x := x0) (l0 := 2) (l1 := 3) (l2 := 4) (l3 := 5) (by decide) h87 h90 h93 h98
    replace h52 := h52.shutS S126 hz128 ha129 [2] (by decide)
    obtain rfl := sm hf72
    refine (?_ : Exists _)
    replace hB := ((hB.st S86).st S122).st S126
    replace h30 := (h30.st S122).st S126
    exact ⟨_, (), rfl, ⟨rfl, rfl, rfl, rfl, rfl, rfl, trivial⟩, _, hB, h127, h30, h52⟩
   replace hf72 := iT hf72
   refine o_z ?_
   refine ewp_true rfl (ewp_seq (ewp_region (o_mv rfl rfl (o_mv rfl rfl (o_mv rfl rfl (o_as rfl rfl (o_as rfl rfl (o_as rfl rfl (o_as rfl rfl (o_z ?_))))))))))
   refine ewp_ret ?_
   replace h87 := h87.st S122
   replace h90 := h90.st S122
   replace h93 := h93.st S122
   replace h98 := h98.st S122
   obtain ⟨O130, S131, hz133, ha134, h132⟩ := Reg.shut (x := x0) (l0 := 2) (l1 := 3) (l2 := 4) (l3 := 5) (by decide) h87 h90 h93 h98
   obtain rfl := sm hf72
   obtain rfl := hret73 _ rfl
   obtain rfl := sm (fin_ret hm)
   replace hB := ((hB.st S86).st S122).st S131
   obtain ⟨O', hS', hz, hl⟩ := hE.leave (fun q => if q = 2 then i0 else 0) rfl hB
   replace h30 := (h30.st S122).st S131
   exact ret4 rfl (res_tmp rfl) (res_tmp rfl) (res_tmp rfl) (res_tmp rfl) ⟨O', hS', _, _, _, _, (Ob.leave h132 hz (hl 2 (by decide) (by decide)) hx0.2), rfl, (Vb.mono h30 hz), (vInt r50), (vInt r84), (vErr (show inI64 0 from by decide))⟩
  replace hB := (((hB.st S6).st S24).st S45).st S58
  replace h30 := (h30.st S45).st S58
  rintro l135 w136 ⟨s139, x140, rfl, hs138, O137, hB, h30, h59⟩
  replace hm := fin_done hm
  refine ewp_sub _ hs138 ?_
  refine ewp_seq (ewp_region (o_mv rfl rfl (o_mv rfl rfl (o_as rfl rfl (o_as rfl rfl (o_as rfl rfl (o_as rfl rfl (o_z ?_))))))))
  refine ewp_ret ?_
  obtain rfl := sm hm
  obtain ⟨O', hS', hz, hl⟩ := hE.leave (fun q => if q = 2 then i0 else 0) rfl hB
  exact ret4 rfl (res_tmp rfl) (res_tmp rfl) (res_tmp rfl) (res_tmp rfl) ⟨O', hS', _, _, _, _, (Ob.leave h59 hz (hl 2 (by decide) (by decide)) hx0.2), rfl, (Vb.mono h30 hz), (vInt r50), (vInt (show inI64 (-1) from by decide)), (vErr (show inI64 0 from by decide))⟩
noncomputable def m_registry_Registry_Add (x0 : Reg) (x1 : List Int) : Option (Int × Bool × Err × Reg) :=
  bnd (m_registry_Registry_find x0 x1) fun q5 => if q5.2.2.2.n ≠ 0 then (some (0, false, (⟨q5.2.2.2.n⟩ : Err), x0)) else (if 0 ≤ q5.2.2.1 then (some (q5.2.2.1, false, (⟨0⟩ : Err), x0)) else (if 65536 ≤ (x0.entries.length : Int) then (some (0, false, (⟨10⟩ : Err), x0)) else (bnd (appI 48 x0.entries [(⟨q5.1, (⟨(-1), (-1), 0⟩ : RLk)⟩ : REn)]) fun u53 => bnd (appI 8 (mget ([] : List Int) x0.table.l q5.2.1) [(x0.entries.length : Int)]) fun u82 => some ((x0.entries.length : Int), true, (⟨0⟩ : Err), (⟨x0.packer, u53, (⟨mput x0.table.l q5.2.1 u82⟩ : MapR 3 Int Int)⟩ : Reg)))))
theorem c_registry_Registry_Add {w : World} {O : Lab} {p0 i0 : Nat} {x0 : Reg} (hx0 : Ob i0 w O (.pointer (some ⟨p0, 0, none⟩)) x0) {vx1 : Value} {x1 : List Int} (hx1 : Vb w (Fr 0 w O) vx1 x1) {r : Int × Bool × Err × Reg} (hm : m_registry_Registry_Add x0 x1 = some r) :
    Fn Try.prog 58 [(.pointer (some ⟨p0, 0, none⟩)), vx1] w fun v w' => ∃ O', St (eT i0) w O w' O' ∧ ∃ v0 v1 v2 : Value, Ob i0 w' O' (.pointer (some ⟨p0, 0, none⟩)) r.2.2.2 ∧ v = .tuple #[v0, v1, v2] ∧ Vb w' (Fr 0 w' O') v0 r.1 ∧ Vb w' (Fr 0 w' O') v1 r.2.1 ∧ Vb w' (Fr 0 w' O') v2 r.2.2.1 := by
 obtain ⟨O0, hE, hz0, hl2⟩ := ent1 (w := w) (O := O) hx0.2
 have hx0' := Ob.leave hx0 hz0 hl2 (j := 2) (by decide)
 have hB : Bm w O0 w O0 := Bm.refl
 replace hx1 := hx1.mono hz0
 obtain ⟨A3, c4, rfl⟩ := hx1.form
 refine fn_enter Try.func58 rfl Try.ntmps58 rfl ?_
 unfold m_registry_Registry_Add at hm
 refine ewp_seq (ewp_region (o_as rfl rfl (o_as rfl rfl (o_as rfl rfl (o_z ?_)))))
 refine ewp_seq (ewp_seq (ewp_region (o_mv rfl rfl (o_pn rfl rfl ?_))))
 refine o_z ?_
 refine ewp_false rfl (ewp_skip (ewp_seq (ewp_region (o_mv rfl rfl (o_mv rfl rfl ?_)))))
 obtain ⟨q5, e6, hm⟩ := bs hm
 refine l_callM (O := O0) (c_registry_Registry_find hx0' hx1 e6) rfl rfl fun v11 w7 O8 S9 h10 => ?_
 obtain ⟨v13, v14, v15, v16, h12, rfl, h17, h18, h19, h20⟩ := h10
 obtain ⟨A21, c22, rfl⟩ := h17.form
 obtain ⟨rfl, r23⟩ := h18.int
 obtain ⟨rfl, r24⟩ := h19.int
 obtain ⟨rfl, r25⟩ := h20.err
 refine o_mv rfl rfl (o_ex rfl rfl rfl (o_ex rfl rfl rfl (o_ex rfl rfl rfl (o_ex rfl rfl rfl (o_as rfl rfl (o_as rfl rfl (o_as rfl rfl (o_as rfl rfl (o_z ?_)))))))))
 refine ewp_seq (ewp_block (ewp_seq (ewp_region (o_mv rfl rfl (o_rnS rfl rfl (fun c26 => ?_) fun c26 => ?_)))))
 ·
  replace hm := ip hm c26
  refine o_as rfl rfl (o_z ?_)
  refine ewp_true rfl (ewp_seq (ewp_region (o_mv rfl rfl (o_as rfl rfl (o_as rfl rfl (o_as rfl rfl (o_z ?_)))))))
  refine ewp_ret ?_
  obtain rfl := sm hm
  replace hB := hB.st S9
  obtain ⟨O', hS', hz, hl⟩ := hE.leave (fun q => if q = 2 then i0 else 0) rfl hB
  exact ret3 rfl (res_tmp rfl) (res_tmp rfl) (res_tmp rfl) ⟨O', hS', _, _, _, (Ob.leave h12 hz (hl 2 (by decide) (by decide)) hx0.2), rfl, (vInt (show inI64 (0) from by decide)), vBool, (vErr r25)⟩
 ·
  replace hm := im hm c26
  refine o_as rfl rfl (o_z ?_)
  refine ewp_false rfl (ewp_seq (ewp_region (o_mv rfl rfl (o_geS rfl rfl rfl (fun c27 => ?_) fun c27 => ?_))))
  ·
   replace hm := ip hm c27
   refine o_as rfl rfl (o_z ?_)
   refine ewp_true rfl (ewp_seq (ewp_region (o_mv rfl rfl (o_as rfl rfl (o_as rfl rfl (o_as rfl rfl (o_z ?_)))))))
   refine ewp_ret ?_
   obtain rfl := sm hm
   replace hB := hB.st S9
   obtain ⟨O', hS', hz, hl⟩ := hE.leave (fun q => if q = 2 then i0 else 0) rfl hB
   exact ret3 rfl (res_tmp rfl) (res_tmp rfl) (res_tmp rfl) ⟨O', hS', _, _, _, (Ob.leave h12 hz (hl 2 (by decide) (by decide)) hx0.2), rfl, (vInt r24), vBool, (vErr (show inI64 0 from by decide))⟩
  ·
   replace hm := im hm c27
   refine o_as rfl rfl (o_z ?_)
   refine ewp_false rfl (ewp_seq (ewp_region (o_mv rfl rfl (o_nc rfl rfl ?_))))
   obtain ⟨O28, v32, v35, v40, S29, ha31, h30, h33, h36, h41⟩ := Reg.opn h12 2 3 4 5 (by decide)
   obtain ⟨p34, rfl⟩ := h33.ptr
   obtain ⟨A37, c38, rfl⟩ := h36.form
   obtain ⟨p42, rfl⟩ := h41.mptr
   refine o_fa rfl rfl (o_ld (hc := Blk.cell (i := 1) (h30.1) rfl) rfl rfl ?_)
   refine o_ln rfl rfl ?_
   have l44 : x0.entries.length ≤ 9223372036854775807 := Nat.le_trans h36.len.2.1 h36.len.2.2
   have r43 : inI64 (x0.entries.length : Int) := rngNat l44
   refine o_geS rfl rfl rfl (fun c45 => ?_) fun c45 => ?_
   ·
    replace hm := ip hm c45
    refine o_as rfl rfl (o_z ?_)
    refine ewp_true rfl (ewp_seq (ewp_region (o_miE rfl rfl ?_)))
    refine o_as rfl rfl (o_as rfl rfl (o_as rfl rfl (o_z ?_)))
    refine ewp_ret ?_
    obtain ⟨O46, S47, hz49, ha50, h48⟩ := Reg.shut (x := x0) (l0 := 2) (l1 := 3) (l2 := 4) (l3 := 5) (by decide) h30 h33 h36 h41
    obtain rfl := sm hm
    replace hB := ((hB.st S9).st S29).st S47
    obtain ⟨O', hS', hz, hl⟩ := hE.leave (fun q => if q = 2 then i0 else 0) rfl hB
    exact ret3 rfl (res_tmp rfl) (res_tmp rfl) (res_tmp rfl) ⟨O', hS', _, _, _, (Ob.leave h48 hz (hl 2 (by decide) (by decide)) hx0.2), rfl, (vInt (show inI64 (0) from by decide)), vBool, (vErr (by decide))⟩
   ·
    replace hm := im hm c45
    refine o_as rfl rfl (o_z ?_)
    refine ewp_false rfl (ewp_skip (ewp_seq (ewp_region (o_mv rfl rfl (o_nc rfl rfl (o_fa rfl rfl (o_ld (hc := Blk.cell (i := 1) (h30.1) rfl) rfl rfl ?_)))))))
    refine o_ln rfl rfl ?_
    have l52 : x0.entries.length ≤ 9223372036854775807 := Nat.le_trans h36.len.2.1 h36.len.2.2
    have r51 : inI64 (x0.entries.length : Int) := rngNat l52
    refine o_as rfl rfl (o_z ?_)
    refine ewp_seq (ewp_region (o_mv rfl rfl (o_mv rfl rfl (o_nc rfl rfl (o_fa rfl rfl (o_ld (hc := Blk.cell (i := 1) (h30.1) rfl) rfl rfl ?_))))))
    refine o_mv rfl rfl (o_bd rfl rfl rfl ?_)
    refine o_bd rfl rfl rfl ?_
    obtain ⟨u53, e54, hm⟩ := bs hm
    obtain ⟨e54, e55, e56⟩ := appI_some e54
    replace h17 := h17.st S29
    refine l_append1 rfl (a := (⟨q5.1, (⟨(-1), (-1), 0⟩ : RLk)⟩ : REn)) h36 (Vb.ofAgg (cs := [(.slice A21 q5.1.length c22), (.int .i64 (-1)), (.int .i64 (-1)), (.int .i64 0)]) (x := (⟨q5.1, (⟨(-1), (-1), 0⟩ : RLk)⟩ : REn)) rfl ⟨_, rfl, h17, (show inI64 (-1) from by decide), (show inI64 (-1) from by decide), (show inI64 (0) from by decide)⟩) (fun _ => rfl) rfl (by decide) (by decide) e55 e56 ⟨rfl, rfl⟩ fun g57 A58 c59 w60 O61 S62 h63 => ?_
    rw [← e54] at h63 ⊢
    refine o_nc rfl rfl (o_fa rfl rfl ?_)
    replace h30 := h30.st S62
    refine l_store h30 rfl rfl rfl (Nat.le_of_ble_eq_true rfl) (by first | exact allOne rfl | simp [Value.cells, Value.oneCell', errV_one]) fun w65 S66 h30 => ?_
    replace h30 : Lc 2 w65 O61 p0 106 [(.pointer (some ⟨p34, 0, none⟩)), (.slice A58 u53.length c59), (.map (some p42))] := h30
    refine o_z ?_
    refine ewp_seq (ewp_drawX [(12, []), (13, [5, 7])] O61 ?_)
    refine x_pre (fuel := 8) [] [(5, true), (6, true), (7, true), (8, true), (9, true), (10, true), (11, true)] (by kernel_rfl) rfl ?_
    refine h_mv rfl rfl rfl (h_nc rfl rfl rfl (h_fa rfl rfl rfl (h_ldC (hc := fun w' ⟨O', hq⟩ => Blk.cell (i := 2) ((h30.st hq (by decide)).1) rfl) rfl rfl rfl ?_)))
    refine h_mv rfl rfl rfl ?_
    replace h41 := (h41.st S62).st S66
    obtain ⟨A69, c70, hl67, h68⟩ := MapR.get h41 q5.2.1
    refine h_lk q5.2.1 (fun w' ⟨O', hq⟩ => hl67.keep (hq.agree (i := 5) (by decide) _ (MapR.at h41))) rfl rfl rfl rfl ?_
    refine h_mv rfl rfl rfl (hwp_nilT ?_)
    refine x_pre (fuel := 3) [5, 7] [(0, true), (1, true), (2, true), (3, true), (4, true)] (by kernel_rfl) rfl ?_
    refine h_mv rfl rfl rfl (h_nc rfl rfl rfl (h_fa rfl rfl rfl (h_ldC (hc := fun w' ⟨O', hq⟩ => Blk.cell (i := 2) ((h30.st hq (by decide)).1) rfl) rfl rfl rfl ?_)))
    refine h_mv rfl rfl rfl (hwp_nilT ?_)
    refine x_one (i := 12) (by kernel_rfl) rfl ?_
    refine l_bslice 6 (by decide) O61 (xs := ([(x0.entries.length : Int)] : List Int)) rfl rfl rfl rfl ⟨(vInt r51), trivial⟩ (by decide) (by decide) rfl fun g71 w72 O73 S74 h75 => ?_
    have hZ := S74.lst [] (fun _ h => h.elim)
    replace hl67 := hl67.keep (S74.agree (i := 5) id _ (MapR.at h41))
    replace h68 := h68.stS S74 id (fun _ _ => id)
    refine x_go [(13, [5, 7])] hZ (by kernel_rfl) ?_
    refine x_one (i := 13) (by kernel_rfl) rfl ?_
    replace h41 := h41.st S74
    obtain ⟨O77, S78, h79, h80⟩ := MapR.take h41 hl67 7 (by decide) (by decide)
    have hZ := S78.lst [5] (fun _ h => by cases h; decide)
    obtain ⟨u82, e83, hm⟩ := bs hm
    obtain ⟨e83, e84, e85⟩ := appI_some e83
    replace h75 := h75.st S78
    refine l_append rfl h80 (h75.rd) rfl rfl (by decide) e84 e85 rfl fun A86 c87 w88 O89 S90 h91 => ?_
    rw [← e83] at h91 ⊢
    replace hZ := hZ.cmp S90 [5, 7] (fun _ h => by cases h; decide) rfl
    refine x_go [] hZ (by kernel_rfl) ?_
    refine x_one (i := 14) (by kernel_rfl) rfl ?_
    replace h79 := h79.st S90
    refine l_mputR h79 h91 (by decide) rfl rfl rfl fun w93 O94 S95 h96 => ?_
    refine x_end (by kernel_rfl) ?_
    refine x_nil (by kernel_rfl) ?_
    refine ewp_seq (ewp_region (o_mv rfl rfl (o_as rfl rfl (o_as rfl rfl (o_as rfl rfl (o_z ?_))))))
    refine ewp_ret ?_
    replace h30 := (((h30.st S74).st S78).st S90).st S95
    replace h33 := (((((h33.st S62).st S66).st S74).st S78).st S90).st S95
    replace h63 := ((((h63.st S66).st S74).st S78).st S90).st S95
    obtain ⟨O97, S98, hz100, ha101, h99⟩ := Reg.shut (x := (⟨x0.packer, u53, (⟨mput x0.table.l q5.2.1 u82⟩ : MapR 3 Int Int)⟩ : Reg)) (l0 := 2) (l1 := 3) (l2 := 4) (l3 := 5) (by decide) h30 h33 h63 h96
    obtain rfl := sm hm
    replace hB := ((((((((hB.st S9).st S29).st S62).st S66).st S74).st S78).st S90).st S95).st S98
    obtain ⟨O', hS', hz, hl⟩ := hE.leave (fun q => if q = 2 then i0 else 0) rfl hB
    exact ret3 rfl (res_tmp rfl) (res_tmp rfl) (res_tmp rfl) ⟨O', hS', _, _, _, (Ob.leave h99 hz (hl 2 (by decide) (by decide)) hx0.2), rfl, (vInt r51), vBool, (vErr (show inI64 0 from by decide))⟩
noncomputable def m_registry_Registry_has (x0 : Reg) (x1 : Int) : Option Bool :=
  bnd (if 0 ≤ x1 then (if x1 < (x0.entries.length : Int) then (some true) else (some false)) else (some false) : Option Bool) fun y3 => some y3
theorem c_registry_Registry_has {w : World} {O : Lab} {p0 i0 : Nat} {x0 : Reg} (hx0 : Ob i0 w O (.pointer (some ⟨p0, 0, none⟩)) x0) {x1 : Int} (rx1 : inI64 x1) {r : Bool} (hm : m_registry_Registry_has x0 x1 = some r) :
    Fn Try.prog 75 [(.pointer (some ⟨p0, 0, none⟩)), (.int .i64 x1)] w fun v w' => ∃ O', St (eT i0) w O w' O' ∧ Ob i0 w' O' (.pointer (some ⟨p0, 0, none⟩)) x0 ∧ Vb w' (Fr 0 w' O') v r := by
 obtain ⟨O0, hE, hz0, hl2⟩ := ent1 (w := w) (O := O) hx0.2
 have hx0' := Ob.leave hx0 hz0 hl2 (j := 2) (by decide)
 have hB : Bm w O0 w O0 := Bm.refl
 refine fn_enter Try.func75 rfl Try.ntmps75 rfl ?_
 unfold m_registry_Registry_has at hm
 refine ewp_seq (ewp_region (o_as rfl rfl (o_z ?_)))
 refine ewp_seq ?_
 obtain ⟨y3, hy4, hm⟩ := bs hm
 refine ewp_join (fun l' w' => ∃ (x6 : Unit) (O' : Lab), subs l' [(4, (.bool y3))] ∧ Bm w O0 w' O' ∧ Ob 2 w' O' (.pointer (some ⟨p0, 0, none⟩)) x0) ?_ ?_
 ·
  refine ewp_region (o_mv rfl rfl (o_geS rfl rfl rfl (fun c7 => ?_) fun c7 => ?_))
  ·
   replace hy4 := ip hy4 c7
   refine o_mv rfl rfl (owp_yes rfl rfl (o_mv rfl rfl (owp_yes rfl rfl (o_mv rfl rfl (owp_yes rfl rfl (o_nc rfl rfl (owp_yes rfl rfl ?_)))))))
   obtain ⟨O8, v12, v15, v20, S9, ha11, h10, h13, h16, h21⟩ := Reg.opn hx0' 2 3 4 5 (by decide)
   obtain ⟨p14, rfl⟩ := h13.ptr
   obtain ⟨A17, c18, rfl⟩ := h16.form
   obtain ⟨p22, rfl⟩ := h21.mptr
   refine o_fa rfl rfl (owp_yes rfl rfl (o_ld (hc := Blk.cell (i := 1) (h10.1) rfl) rfl rfl ?_))
   refine owp_yes rfl rfl (o_ln rfl rfl ?_)
   have l24 : x0.entries.length ≤ 9223372036854775807 := Nat.le_trans h16.len.2.1 h16.len.2.2
   have r23 : inI64 (x0.entries.length : Int) := rngNat l24
   refine owp_yes rfl rfl (o_ltS rfl rfl rfl (fun c25 => ?_) fun c25 => ?_)
   ·
    replace hy4 := ip hy4 c25
    refine o_pt rfl rfl rfl (o_as rfl rfl (o_z ?_))
    obtain ⟨O26, S27, hz29, ha30, h28⟩ := Reg.shut (x := x0) (l0 := 2) (l1 := 3) (l2 := 4) (l3 := 5) (by decide) h10 h13 h16 h21
    obtain rfl := sm hy4
    replace hB := (hB.st S9).st S27
    exact ⟨(), _, ⟨rfl, trivial⟩, hB, h28⟩
   ·
    replace hy4 := im hy4 c25
    refine o_pt rfl rfl rfl (o_as rfl rfl (o_z ?_))
    obtain ⟨O31, S32, hz34, ha35, h33⟩ := Reg.shut (x := x0) (l0 := 2) (l1 := 3) (l2 := 4) (l3 := 5) (by decide) h10 h13 h16 h21
    obtain rfl := sm hy4
    replace hB := (hB.st S9).st S32
    exact ⟨(), _, ⟨rfl, trivial⟩, hB, h33⟩
  ·
   replace hy4 := im hy4 c7
   refine o_mv rfl rfl (owp_no rfl rfl rfl rfl (owp_no rfl rfl rfl rfl (owp_no rfl rfl rfl rfl (owp_no rfl rfl rfl rfl (owp_no rfl rfl rfl rfl (owp_no rfl rfl rfl rfl (owp_no rfl rfl rfl rfl (o_pf rfl rfl rfl (o_as rfl rfl (o_z ?_))))))))))
   obtain rfl := sm hy4
   exact ⟨(), _, ⟨rfl, trivial⟩, hB, hx0'⟩
 rintro l36 w37 ⟨x6, O38, hs39, hB, h24⟩
 refine ewp_sub _ hs39 ?_
 refine ewp_ret ?_
 obtain rfl := sm hm
 obtain ⟨O', hS', hz, hl⟩ := hE.leave (fun q => if q = 2 then i0 else 0) rfl hB
 exact ret1v rfl (res_tmp rfl) ⟨O', hS', (Ob.leave h24 hz (hl 2 (by decide) (by decide)) hx0.2), vBool⟩
noncomputable def m_registry_Registry_State (x0 : Reg) (x1 : Int) : Option ((List Int) × Err) :=
  bnd (m_registry_Registry_has x0 x1) fun q3 => if q3 = true then bnd (atI x0.entries x1) fun a27 => bnd (m_pack_Packer_Unpack x0.packer a27.words) fun q45 => some (q45.1, (⟨q45.2.n⟩ : Err)) else some (([] : List Int), (⟨1⟩ : Err))
theorem c_registry_Registry_State {w : World} {O : Lab} {p0 i0 : Nat} {x0 : Reg} (hx0 : Ob i0 w O (.pointer (some ⟨p0, 0, none⟩)) x0) {x1 : Int} (rx1 : inI64 x1) {r : (List Int) × Err} (hm : m_registry_Registry_State x0 x1 = some r) :
    Fn Try.prog 63 [(.pointer (some ⟨p0, 0, none⟩)), (.int .i64 x1)] w fun v w' => ∃ O', St (eT i0) w O w' O' ∧ ∃ v0 v1 : Value, Ob i0 w' O' (.pointer (some ⟨p0, 0, none⟩)) x0 ∧ v = .tuple #[v0, v1] ∧ Vb w' (Fr 0 w' O') v0 r.1 ∧ Vb w' (Fr 0 w' O') v1 r.2 := by
 obtain ⟨O0, hE, hz0, hl2⟩ := ent1 (w := w) (O := O) hx0.2
 have hx0' := Ob.leave hx0 hz0 hl2 (j := 2) (by decide)
 have hB : Bm w O0 w O0 := Bm.refl
 refine fn_enter Try.func63 rfl Try.ntmps63 rfl ?_
 unfold m_registry_Registry_State at hm
 refine ewp_seq (ewp_region (o_as rfl rfl (o_as rfl rfl (o_z ?_))))
 refine ewp_seq (ewp_block (ewp_seq (ewp_region (o_mv rfl rfl (o_pn rfl rfl ?_)))))
 refine o_as rfl rfl (o_z ?_)
 refine ewp_false rfl (ewp_seq (ewp_region (o_mv rfl rfl (o_mv rfl rfl ?_))))
 obtain ⟨q3, e4, hm⟩ := bs hm
 refine l_callM (O := O0) (c_registry_Registry_has hx0' rx1 e4) rfl rfl fun v9 w5 O6 S7 h8 => ?_
 obtain ⟨h10, h11⟩ := h8
 obtain rfl := h11.bool
 cases q3
 case false =>
  replace hm := iF hm
  refine o_nf rfl rfl (o_as rfl rfl (o_z ?_))
  refine ewp_true rfl (ewp_seq (ewp_region (o_miE rfl rfl ?_)))
  refine o_as rfl rfl (o_as rfl rfl (o_z ?_))
  refine ewp_ret ?_
  obtain rfl := sm hm
  replace hB := hB.st S7
  obtain ⟨O', hS', hz, hl⟩ := hE.leave (fun q => if q = 2 then i0 else 0) rfl hB
  exact ret2 rfl (res_tmp rfl) (res_tmp rfl) ⟨O', hS', _, _, (Ob.leave h10 hz (hl 2 (by decide) (by decide)) hx0.2), rfl, (Vb.mono (Vb.nil _ _) hz), (vErr (by decide))⟩
 replace hm := iT hm
 refine o_nt rfl rfl (o_as rfl rfl (o_z ?_))
 refine ewp_false rfl (ewp_skip (ewp_seq ?_))
 obtain ⟨O12, v16, v19, v24, S13, ha15, h14, h17, h20, h25⟩ := Reg.opn h10 2 3 4 5 (by decide)
 obtain ⟨p18, rfl⟩ := h17.ptr
 obtain ⟨A21, c22, rfl⟩ := h20.form
 obtain ⟨p26, rfl⟩ := h25.mptr
 refine ewp_drawX [(12, [3])] O12 ?_
 refine x_pre (fuel := 5) [] [(0, true), (1, true), (2, true), (3, true), (4, true), (5, true), (6, true), (7, true), (8, true), (9, true), (10, true), (11, true)] (by kernel_rfl) rfl ?_
 refine h_mv rfl rfl rfl (h_nc rfl rfl rfl (h_fa rfl rfl rfl (h_ldC (hc := fun w' ⟨O', hq⟩ => Blk.cell (i := 0) ((h14.st hq (by decide)).1) rfl) rfl rfl rfl ?_)))
 refine h_mv rfl rfl rfl (h_nc rfl rfl rfl (h_fa rfl rfl rfl (h_ldC (hc := fun w' ⟨O', hq⟩ => Blk.cell (i := 1) ((h14.st hq (by decide)).1) rfl) rfl rfl rfl ?_)))
 refine h_mv rfl rfl rfl ?_
 obtain ⟨a27, e28, hm⟩ := bs hm
 obtain ⟨p30, x29⟩ := atI_some' e28
 obtain ⟨b31, o32, ce33, hA34, hF37, hl35, hd36, v38, rfl, h39, r42, r43, r44⟩ := h20.elemF x29
 obtain ⟨A40, c41, rfl⟩ := h39.form
 refine h_iaE (hA := hA34) (hj := (Int.toNat_of_nonneg p30).symm) (hlt := hl35) rfl rfl rfl rfl ?_
 refine h_fa rfl rfl rfl (h_ldC (hc := fun w' ⟨O', hq⟩ => cat0 (cellsAt_agree (hq.agree (i := 4) (by decide)) hF37 hd36)) rfl rfl rfl ?_)
 refine hwp_nilT ?_
 refine x_one (i := 12) (by kernel_rfl) rfl ?_
 obtain ⟨q45, e46, hm⟩ := bs hm
 refine l_callM (O := O12) (c_pack_Packer_Unpack h17 h39 e46) rfl rfl fun v51 w47 O48 S49 h50 => ?_
 obtain ⟨v53, v54, h52, rfl, h55, h56⟩ := h50
 obtain ⟨A57, c58, rfl⟩ := h55.form
 obtain ⟨rfl, r59⟩ := h56.err
 have hZ := S49.lst [3] (fun _ h => by cases h; decide)
 refine x_go [] hZ (by kernel_rfl) ?_
 refine x_pre (fuel := 0) [] [(13, true), (14, true), (15, true), (16, true)] (by kernel_rfl) rfl ?_
 refine h_ex rfl rfl rfl rfl (h_ex rfl rfl rfl rfl (h_as rfl rfl rfl (h_as rfl rfl rfl (hwp_nilT ?_))))
 refine x_nil (by kernel_rfl) ?_
 refine ewp_ret ?_
 replace h14 := h14.st S49
 replace h20 := h20.st S49
 replace h25 := h25.st S49
 obtain ⟨O60, S61, hz63, ha64, h62⟩ := Reg.shut (x := x0) (l0 := 2) (l1 := 3) (l2 := 4) (l3 := 5) (by decide) h14 h52 h20 h25
 obtain rfl := sm hm
 replace hB := (((hB.st S7).st S13).st S49).st S61
 obtain ⟨O', hS', hz, hl⟩ := hE.leave (fun q => if q = 2 then i0 else 0) rfl hB
 replace h55 := h55.st S61
 exact ret2 rfl (res_tmp rfl) (res_tmp rfl) ⟨O', hS', _, _, (Ob.leave h62 hz (hl 2 (by decide) (by decide)) hx0.2), rfl, (Vb.mono h55 hz), (vErr r59)⟩
noncomputable def m_registry_Registry_SetLink (x0 : Reg) (x1 : Int) (x2 : Int) (x3 : Int) (x4 : Int) : Option (Err × Reg) :=
  bnd (bnd (m_registry_Registry_has x0 x1) fun q10 => if q10 = true then if x2 ≠ (-1) then (bnd (m_registry_Registry_has x0 x2) fun q20 => if q20 = true then some false else some true) else (some false) else some true : Option Bool) fun y6 => if y6 = true then (some ((⟨1⟩ : Err), x0)) else (bnd (atI x0.entries x1) fun a49 => some ((⟨0⟩ : Err), (⟨x0.packer, (x0.entries.set (x1 : Int).toNat ({ a49 with link := (⟨x2, x3, x4⟩ : RLk) } : REn)), x0.table⟩ : Reg)))
theorem c_registry_Registry_SetLink {w : World} {O : Lab} {p0 i0 : Nat} {x0 : Reg} (hx0 : Ob i0 w O (.pointer (some ⟨p0, 0, none⟩)) x0) {x1 : Int} (rx1 : inI64 x1) {x2 : Int} (rx2 : inI64 x2) {x3 : Int} (rx3 : inI64 x3) {x4 : Int} (rx4 : inI64 x4) {r : Err × Reg} (hm : m_registry_Registry_SetLink x0 x1 x2 x3 x4 = some r) :
    Fn Try.prog 59 [(.pointer (some ⟨p0, 0, none⟩)), (.int .i64 x1), (.int .i64 x2), (.int .i64 x3), (.int .i64 x4)] w fun v w' => ∃ O', St (eT i0) w O w' O' ∧ Ob i0 w' O' (.pointer (some ⟨p0, 0, none⟩)) r.2 ∧ Vb w' (Fr 0 w' O') v r.1 := by
 obtain ⟨O0, hE, hz0, hl2⟩ := ent1 (w := w) (O := O) hx0.2
 have hx0' := Ob.leave hx0 hz0 hl2 (j := 2) (by decide)
 have hB : Bm w O0 w O0 := Bm.refl
 refine fn_enter Try.func59 rfl Try.ntmps59 rfl ?_
 unfold m_registry_Registry_SetLink at hm
 refine ewp_seq (ewp_region (o_as rfl rfl (o_z ?_)))
 refine ewp_seq (ewp_block (ewp_seq (ewp_region (o_mv rfl rfl (o_pn rfl rfl ?_)))))
 refine o_as rfl rfl (o_z ?_)
 refine ewp_false rfl (ewp_seq ?_)
 obtain ⟨y6, hy7, hm⟩ := bs hm
 refine ewp_join (fun l' w' => ∃ (x9 : Unit) (O' : Lab), subs l' [(0, (.pointer (some ⟨p0, 0, none⟩))), (1, (.int .i64 x1)), (2, (.int .i64 x2)), (3, (.int .i64 x3)), (4, (.int .i64 x4)), (15, (.bool y6))] ∧ Bm w O0 w' O' ∧ Ob 2 w' O' (.pointer (some ⟨p0, 0, none⟩)) x0) ?_ ?_
 ·
  refine ewp_region (o_mv rfl rfl (o_mv rfl rfl ?_))
  obtain ⟨q10, e11, hy7⟩ := bs hy7
  refine l_callM (O := O0) (c_registry_Registry_has hx0' rx1 e11) rfl rfl fun v16 w12 O13 S14 h15 => ?_
  obtain ⟨h17, h18⟩ := h15
  obtain rfl := h18.bool
  cases q10
  case false =>
   replace hy7 := iF hy7
   refine o_nf rfl rfl (o_mv rfl rfl (owp_no rfl rfl rfl rfl (owp_no rfl rfl rfl rfl (owp_no rfl rfl rfl rfl (owp_no rfl rfl rfl rfl (owp_no rfl rfl rfl rfl (owp_no rfl rfl rfl rfl (owp_no rfl rfl rfl rfl (owp_no rfl rfl rfl rfl (o_pt rfl rfl rfl (o_as rfl rfl (o_z ?_))))))))))))
   obtain rfl := sm hy7
   replace hB := hB.st S14
   exact ⟨(), _, ⟨rfl, rfl, rfl, rfl, rfl, rfl, trivial⟩, hB, h17⟩
  replace hy7 := iT hy7
  refine o_nt rfl rfl (o_mv rfl rfl (owp_yes rfl rfl (o_mv rfl rfl (owp_yes rfl rfl (o_neS rfl rfl rfl (fun c19 => ?_) fun c19 => ?_)))))
  ·
   replace hy7 := ip hy7 c19
   refine owp_yes rfl rfl (o_mv rfl rfl (owp_yes rfl rfl (o_mv rfl rfl (owp_yes rfl rfl (o_mv rfl rfl (owp_yes rfl rfl ?_))))))
   obtain ⟨q20, e21, hy7⟩ := bs hy7
   refine l_callM (O := O13) (c_registry_Registry_has h17 rx2 e21) rfl rfl fun v26 w22 O23 S24 h25 => ?_
   obtain ⟨h27, h28⟩ := h25
   obtain rfl := h28.bool
   cases q20
   case false =>
    replace hy7 := iF hy7
    refine owp_yes rfl rfl (o_nf rfl rfl (owp_yes rfl rfl (o_pt rfl rfl rfl (o_pf rfl rfl rfl (o_as rfl rfl (o_z ?_))))))
    obtain rfl := sm hy7
    replace hB := (hB.st S14).st S24
    exact ⟨(), _, ⟨rfl, rfl, rfl, rfl, rfl, rfl, trivial⟩, hB, h27⟩
   replace hy7 := iT hy7
   refine owp_yes rfl rfl (o_nt rfl rfl (owp_yes rfl rfl (o_pt rfl rfl rfl (o_pf rfl rfl rfl (o_as rfl rfl (o_z ?_))))))
   obtain rfl := sm hy7
   replace hB := (hB.st S14).st S24
   exact ⟨(), _, ⟨rfl, rfl, rfl, rfl, rfl, rfl, trivial⟩, hB, h27⟩
  ·
   replace hy7 := im hy7 c19
   refine owp_yes rfl rfl (o_mv rfl rfl (owp_no rfl rfl rfl rfl (owp_no rfl rfl rfl rfl (owp_no rfl rfl rfl rfl (owp_no rfl rfl rfl rfl (owp_yes rfl rfl (o_pf rfl rfl rfl (o_pf rfl rfl rfl (o_as rfl rfl (o_z ?_))))))))))
   obtain rfl := sm hy7
   replace hB := hB.st S14
   exact ⟨(), _, ⟨rfl, rfl, rfl, rfl, rfl, rfl, trivial⟩, hB, h17⟩
 rintro l29 w30 ⟨x9, O31, hs32, hB, h13⟩
 refine ewp_sub _ hs32 ?_
 refine ewp_cond rfl (fun c33 => ?_) (fun c33 => ?_)
 ·
  replace hm := ip hm c33
  refine ewp_seq (ewp_region (o_miE rfl rfl ?_))
  refine o_as rfl rfl (o_z ?_)
  refine ewp_ret ?_
  obtain rfl := sm hm
  obtain ⟨O', hS', hz, hl⟩ := hE.leave (fun q => if q = 2 then i0 else 0) rfl hB
  exact ret1v rfl (res_tmp rfl) ⟨O', hS', (Ob.leave h13 hz (hl 2 (by decide) (by decide)) hx0.2), (vErr (by decide))⟩
 ·
  replace hm := im' hm c33
  refine ewp_skip (ewp_seq (ewp_region (o_mv rfl rfl (o_nc rfl rfl ?_))))
  obtain ⟨O34, v38, v41, v46, S35, ha37, h36, h39, h42, h47⟩ := Reg.opn h13 2 3 4 5 (by decide)
  obtain ⟨p40, rfl⟩ := h39.ptr
  obtain ⟨A43, c44, rfl⟩ := h42.form
  obtain ⟨p48, rfl⟩ := h47.mptr
  refine o_fa rfl rfl (o_ld (hc := Blk.cell (i := 1) (h36.1) rfl) rfl rfl ?_)
  refine o_mv rfl rfl (o_mv rfl rfl (o_mv rfl rfl (o_mv rfl rfl (o_bd rfl rfl rfl ?_))))
  obtain ⟨a49, e50, hm⟩ := bs hm
  obtain ⟨p52, x51⟩ := atI_some' e50
  obtain ⟨b53, o54, ce55, hA56, hl57, hd58, v60, rfl, h61, r64, r65, r66⟩ := h42.elem x51
  obtain ⟨A62, c63, rfl⟩ := h61.form
  refine o_iaE (hA := hA56) (hj := (Int.toNat_of_nonneg p52).symm) (hlt := hl57) rfl rfl rfl ?_
  refine o_fa rfl rfl (l_setPart (a := a49) (a' := ({ a49 with link := (⟨x2, x3, x4⟩ : RLk) } : REn)) (off := 1) h42 hA56 x51 rfl rfl rfl (Nat.le_of_ble_eq_true rfl) (by first | exact allOne rfl | simp [Value.cells, Value.oneCell', errV_one]) (by rintro ce ⟨v69, rfl, h70, r73, r74, r75⟩; exact ⟨_, rfl, h70, rx2, rx3, rx4⟩) fun w67 S68 h42 => ?_)
  refine o_z ?_
  refine ewp_seq (ewp_region (o_as rfl rfl (o_z ?_)))
  refine ewp_ret ?_
  replace h36 := h36.st S68
  replace h39 := h39.st S68
  replace h47 := h47.st S68
  obtain ⟨O76, S77, hz79, ha80, h78⟩ := Reg.shut (x := (⟨x0.packer, (x0.entries.set (x1 : Int).toNat ({ a49 with link := (⟨x2, x3, x4⟩ : RLk) } : REn)), x0.table⟩ : Reg)) (l0 := 2) (l1 := 3) (l2 := 4) (l3 := 5) (by decide) (by have q := h36; rw [← ((by simp : (x0.entries.set (x1 : Int).toNat ({ a49 with link := (⟨x2, x3, x4⟩ : RLk) } : REn)).length = x0.entries.length).trans rfl)] at q; exact q) h39 h42.relen h47
  obtain rfl := sm hm
  replace hB := ((hB.st S35).st S68).st S77
  obtain ⟨O', hS', hz, hl⟩ := hE.leave (fun q => if q = 2 then i0 else 0) rfl hB
  exact ret1v rfl (res_tmp rfl) ⟨O', hS', (Ob.leave h78 hz (hl 2 (by decide) (by decide)) hx0.2), (vErr (show inI64 0 from by decide))⟩
noncomputable def m_slices_Reverse_Lint_int (x0 : List Int) : Option (List Int) :=
  bnd (chkI ((x0.length : Int) - 1)) fun n4 => bnd (lop (ρ := (List Int)) (fun (s9 : (List Int) × Int × Int) => if s9.2.1 < s9.2.2 then (bnd (atI s9.1 s9.2.2) fun a31 => bnd (atI s9.1 s9.2.1) fun a43 => bnd (atI s9.1 s9.2.1) fun a55 => bnd (atI (s9.1.set (s9.2.1 : Int).toNat a31) s9.2.2) fun a69 => bnd (chkI (s9.2.1 + 1)) fun n83 => bnd (chkI (s9.2.2 - 1)) fun n86 => some (.next (((s9.1.set (s9.2.1 : Int).toNat a31).set (s9.2.2 : Int).toNat a43), n83, n86))) else (some (.brk (s9.1, s9.2.1, s9.2.2)))) (x0, 0, n4)) fun res7 => fin res7 fun (s93 : (List Int) × Int × Int) => some s93.1
theorem c_slices_Reverse_Lint_int {w : World} {O : Lab} {A0 : Option Addr} {m0 c0 i0 : Nat} {x0 : List Int} (hx0 : Rw i0 w O 3 (.slice A0 m0 c0) x0) {r : (List Int)} (hm : m_slices_Reverse_Lint_int x0 = some r) :
    Fn Try.prog 80 [(.slice A0 m0 c0)] w fun v w' => ∃ O', St (eT i0) w O w' O' ∧ Rw i0 w' O' 3 (.slice A0 m0 c0) r := by
 obtain ⟨O0, hE, hz0, hl2⟩ := ent1 (w := w) (O := O) hx0.2.2
 obtain rfl : m0 = x0.length := hx0.len.1
 have hx0' := Rw.leave hx0 hz0 hl2 (j := 2) (by decide)
 have hB : Bm w O0 w O0 := Bm.refl
 refine fn_enter Try.func80 rfl Try.ntmps80 rfl ?_
 unfold m_slices_Reverse_Lint_int at hm
 refine ewp_seq (ewp_region (o_mv rfl rfl (o_ln rfl rfl ?_)))
 have l3 : x0.length ≤ 9223372036854775807 := Nat.le_trans hx0'.len.2.1 hx0'.len.2.2
 have r2 : inI64 (x0.length : Int) := rngNat l3
 obtain ⟨n4, e5, hm⟩ := bs hm
 have r6 := (chkI_rng e5)
 refine o_sbE (he := e5) rfl rfl rfl ?_
 refine o_as rfl rfl (o_as rfl rfl (o_z ?_))
 obtain ⟨res7, hL8, hm⟩ := bs hm
 refine ewp_join (aft res7 (fun (s9 : (List Int) × Int × Int) (x10 : Unit) => [(0, (.slice A0 x0.length c0))]) (fun s9 x10 w' => ∃ O' : Lab, Bm w O0 w' O' ∧ Rw 2 w' O' 3 (.slice A0 x0.length c0) s9.1 ∧ inI64 s9.2.1 ∧ inI64 s9.2.2)) ?_ ?_
 ·
  refine ewp_block (ewp_lop (σ := (List Int) × Int × Int) (X := Unit) hL8 (fun (s9 : (List Int) × Int × Int) (x10 : Unit) => [(0, (.slice A0 x0.length c0)), (2, (.int .i64 s9.2.1)), (3, (.int .i64 s9.2.2))]) _ (fun s9 x10 w' => ∃ O' : Lab, Bm w O0 w' O' ∧ Rw 2 w' O' 3 (.slice A0 x0.length c0) s9.1 ∧ inI64 s9.2.1 ∧ inI64 s9.2.2) _ () ⟨O0, hB, hx0', (show inI64 (0) from by decide), r6⟩ ⟨rfl, rfl, rfl, trivial⟩ ?_)
  rintro s9 x10 w13 cc15 ⟨O14, hB, h26, r28, r29⟩ hf17 hret18 hbrk19
  refine ewp_seq (ewp_seq (ewp_region (o_mv rfl rfl (o_mv rfl rfl (o_ltS rfl rfl rfl (fun c30 => ?_) fun c30 => ?_)))))
  ·
   replace hf17 := ip hf17 c30
   refine o_z ?_
   refine ewp_true rfl (ewp_skip (ewp_seq (ewp_block (ewp_drawX [(13, [2])] O14 ?_))))
   refine x_pre (fuel := 5) [] [(0, true), (1, true), (4, true), (5, true), (6, true), (7, true), (8, true), (9, true), (10, true), (11, true), (12, true)] (by kernel_rfl) rfl ?_
   refine h_mv rfl rfl rfl (h_mv rfl rfl rfl (h_mv rfl rfl rfl (h_mv rfl rfl rfl ?_)))
   obtain ⟨a31, e32, hf17⟩ := bs hf17
   obtain ⟨p34, x33⟩ := atI_some' e32
   obtain ⟨b35, o36, ce37, hA38, hF41, hl39, hd40, rfl, r42⟩ := h26.elemF x33
   refine h_iaE (hA := hA38) (hj := (Int.toNat_of_nonneg p34).symm) (hlt := hl39) rfl rfl rfl rfl ?_
   refine h_ldC (hc := fun w' ⟨O', hq⟩ => cat0 (cellsAt_agree (hq.agree (i := 2) (by decide)) hF41 hd40)) rfl rfl rfl ?_
   refine h_mv rfl rfl rfl (h_mv rfl rfl rfl ?_)
   obtain ⟨a43, e44, hf17⟩ := bs hf17
   obtain ⟨p46, x45⟩ := atI_some' e44
   obtain ⟨b47, o48, ce49, hA50, hF53, hl51, hd52, rfl, r54⟩ := h26.elemF x45
   refine h_iaE (hA := hA50) (hj := (Int.toNat_of_nonneg p46).symm) (hlt := hl51) rfl rfl rfl rfl ?_
   refine h_ldC (hc := fun w' ⟨O', hq⟩ => cat0 (cellsAt_agree (hq.agree (i := 2) (by decide)) hF53 hd52)) rfl rfl rfl ?_
   obtain ⟨a55, e56, hf17⟩ := bs hf17
   obtain ⟨p58, x57⟩ := atI_some' e56
   obtain ⟨b59, o60, ce61, hA62, hF65, hl63, hd64, rfl, r66⟩ := h26.elemF x57
   refine h_iaE (hA := hA62) (hj := (Int.toNat_of_nonneg p58).symm) (hlt := hl63) rfl rfl rfl rfl ?_
   refine hwp_nilT ?_
   refine x_pre (fuel := 3) [2] [(2, true), (3, true)] (by kernel_rfl) rfl ?_
   refine h_mv rfl rfl rfl (h_mv rfl rfl rfl (hwp_nilT ?_))
   refine x_one (i := 13) (by kernel_rfl) rfl ?_
   refine l_setE rfl h26 (a := a31) (vInt r42) hA62 rfl rfl (lt_of_get x57) fun w67 S68 h26 => ?_
   have hZ := S68.lst [2] (fun _ h => by cases h; decide)
   refine x_go [] hZ (by kernel_rfl) ?_
   refine x_pre (fuel := 1) [] [(14, true)] (by kernel_rfl) rfl ?_
   obtain ⟨a69, e70, hf17⟩ := bs hf17
   obtain ⟨p72, x71⟩ := atI_some' e70
   obtain ⟨b73, o74, ce75, hA76, hF79, hl77, hd78, rfl, r80⟩ := h26.elemF x71
   refine h_iaE (hA := hA76) (hj := (Int.toNat_of_nonneg p72).symm) (hlt := hl77) rfl rfl rfl rfl ?_
   refine hwp_nilT ?_
   refine x_one (i := 15) (by kernel_rfl) rfl ?_
   refine l_setE rfl h26 (a := a43) (vInt r54) hA76 rfl rfl (lt_of_get x71) fun w81 S82 h26 => ?_
   refine x_end (by kernel_rfl) ?_
   refine x_nil (by kernel_rfl) ?_
   refine ewp_region (o_mv rfl rfl ?_)
   obtain ⟨n83, e84, hf17⟩ := bs hf17
   have r85 := (chkI_rng e84)
   refine o_adE (he := e84) rfl rfl rfl ?_
   refine o_mv rfl rfl ?_
   obtain ⟨n86, e87, hf17⟩ := bs hf17
   have r88 := (chkI_rng e87)
   refine o_sbE (he := e87) rfl rfl rfl ?_
   refine o_as rfl rfl (o_as rfl rfl (o_z ?_))
   obtain rfl := sm hf17
   refine (?_ : Exists _)
   replace hB := (hB.st S68).st S82
   exact ⟨_, (), rfl, ⟨rfl, rfl, rfl, trivial⟩, _, hB, h26, r85, r88⟩
  ·
   replace hf17 := im hf17 c30
   refine o_z ?_
   refine ewp_false rfl (ewp_exit ?_)
   obtain rfl := sm hf17
   refine (?_ : Exists _)
   exact ⟨_, (), hbrk19 _ rfl, ⟨rfl, trivial⟩, _, hB, h26, r28, r29⟩
 rintro l89 w90 ⟨s93, x94, rfl, hs92, O91, hB, h26, r28, r29⟩
 replace hm := fin_done hm
 obtain rfl := sm hm
 obtain ⟨O', hS', hz, hl⟩ := hE.leave (fun q => if q = 2 then i0 else 0) rfl hB
 exact ret0n rfl  ⟨O', hS', (Rw.leave h26 hz (hl 2 (by decide) (by decide)) hx0.2.2)⟩
noncomputable def m_registry_Registry_Path (x0 : Reg) (x1 : Int) : Option ((List Int) × Err) :=
  bnd (m_registry_Registry_has x0 x1) fun q3 => if q3 = true then bnd (lop (ρ := (List Int) × Err) (fun (s14 : Int × (List Int)) => bnd (atI x0.entries s14.1) fun a48 => if a48.link.parent < 0 then (bnd (m_slices_Reverse_Lint_int s14.2) fun q74 => some (.ret (q74, (⟨0⟩ : Err)))) else (bnd (appI 8 s14.2 [a48.link.op]) fun u89 => if (x0.entries.length : Int) < (u89.length : Int) then (some (.ret (([] : List Int), (⟨21⟩ : Err)))) else (some (.next (a48.link.parent, u89))))) (x1, ([] : List Int))) fun res12 => fin res12 fun (_ : Int × (List Int)) => none else some (([] : List Int), (⟨1⟩ : Err))
theorem c_registry_Registry_Path {w : World} {O : Lab} {p0 i0 : Nat} {x0 : Reg} (hx0 : Ob i0 w O (.pointer (some ⟨p0, 0, none⟩)) x0) {x1 : Int} (rx1 : inI64 x1) {r : (List Int) × Err} (hm : m_registry_Registry_Path x0 x1 = some r) :
    Fn Try.prog 65 [(.pointer (some ⟨p0, 0, none⟩)), (.int .i64 x1)] w fun v w' => ∃ O', St (eT i0) w O w' O' ∧ ∃ v0 v1 : Value, Ob i0 w' O' (.pointer (some ⟨p0, 0, none⟩)) x0 ∧ v = .tuple #[v0, v1] ∧ Vb w' (Fr 0 w' O') v0 r.1 ∧ Vb w' (Fr 0 w' O') v1 r.2 := by
 obtain ⟨O0, hE, hz0, hl2⟩ := ent1 (w := w) (O := O) hx0.2
 have hx0' := Ob.leave hx0 hz0 hl2 (j := 2) (by decide)
 have hB : Bm w O0 w O0 := Bm.refl
 refine fn_enter Try.func65 rfl Try.ntmps65 rfl ?_
 unfold m_registry_Registry_Path at hm
 refine ewp_seq (ewp_region (o_as rfl rfl (o_as rfl rfl (o_z ?_))))
 refine ewp_seq (ewp_block (ewp_seq (ewp_region (o_mv rfl rfl (o_pn rfl rfl ?_)))))
 refine o_as rfl rfl (o_z ?_)
 refine ewp_false rfl (ewp_seq (ewp_region (o_mv rfl rfl (o_mv rfl rfl ?_))))
 obtain ⟨q3, e4, hm⟩ := bs hm
 refine l_callM (O := O0) (c_registry_Registry_has hx0' rx1 e4) rfl rfl fun v9 w5 O6 S7 h8 => ?_
 obtain ⟨h10, h11⟩ := h8
 obtain rfl := h11.bool
 cases q3
 case false =>
  replace hm := iF hm
  refine o_nf rfl rfl (o_as rfl rfl (o_z ?_))
  refine ewp_true rfl (ewp_seq (ewp_region (o_miE rfl rfl ?_)))
  refine o_as rfl rfl (o_as rfl rfl (o_z ?_))
  refine ewp_ret ?_
  obtain rfl := sm hm
  replace hB := hB.st S7
  obtain ⟨O', hS', hz, hl⟩ := hE.leave (fun q => if q = 2 then i0 else 0) rfl hB
  exact ret2 rfl (res_tmp rfl) (res_tmp rfl) ⟨O', hS', _, _, (Ob.leave h10 hz (hl 2 (by decide) (by decide)) hx0.2), rfl, (Vb.mono (Vb.nil _ _) hz), (vErr (by decide))⟩
 replace hm := iT hm
 refine o_nt rfl rfl (o_as rfl rfl (o_z ?_))
 refine ewp_false rfl (ewp_skip (ewp_seq (ewp_region (o_as rfl rfl (o_z ?_)))))
 obtain ⟨res12, hL13, hm⟩ := bs hm
 refine ewp_join (aft res12 (fun (s14 : Int × (List Int)) (x15 : (Option Addr × Nat)) => []) (fun s14 x15 w' => False)) ?_ ?_
 ·
  refine ewp_block ?_
  replace hB := hB.st S7
  refine ewp_lop (σ := Int × (List Int)) (X := (Option Addr × Nat)) hL13 (fun (s14 : Int × (List Int)) (x15 : (Option Addr × Nat)) => [(0, (.pointer (some ⟨p0, 0, none⟩))), (1, (.int .i64 s14.1)), (6, (.slice x15.1 s14.2.length x15.2))]) _ (fun s14 x15 w' => ∃ O' : Lab, Bm w O0 w' O' ∧ Ob 2 w' O' (.pointer (some ⟨p0, 0, none⟩)) x0 ∧ Rw 8 w' O' 3 (.slice x15.1 s14.2.length x15.2) s14.2 ∧ inI64 s14.1) _ (none, 0) ⟨O6, hB, h10, (Rw.nil 8 (by decide)), rx1⟩ ⟨rfl, rfl, rfl, trivial⟩ ?_
  rintro s14 x15 w18 cc20 ⟨O19, hB, h10, h31, r30⟩ hf22 hret23 hbrk24
  refine ewp_block (ewp_seq (ewp_region (o_mv rfl rfl (o_nc rfl rfl ?_))))
  obtain ⟨O33, v37, v40, v45, S34, ha36, h35, h38, h41, h46⟩ := Reg.opn h10 2 3 4 5 (by decide)
  obtain ⟨p39, rfl⟩ := h38.ptr
  obtain ⟨A42, c43, rfl⟩ := h41.form
  obtain ⟨p47, rfl⟩ := h46.mptr
  refine o_fa rfl rfl (o_ld (hc := Blk.cell (i := 1) (h35.1) rfl) rfl rfl ?_)
  refine o_mv rfl rfl ?_
  obtain ⟨a48, e49, hf22⟩ := bs hf22
  obtain ⟨p51, x50⟩ := atI_some' e49
  obtain ⟨b52, o53, ce54, hA55, hl56, hd57, v59, rfl, h60, r63, r64, r65⟩ := h41.elem x50
  obtain ⟨A61, c62, rfl⟩ := h60.form
  refine o_iaE (hA := hA55) (hj := (Int.toNat_of_nonneg p51).symm) (hlt := hl56) rfl rfl rfl ?_
  refine o_fa rfl rfl (o_la (hl := rfl) (hc := (cellsAt_part 1 3 hd57)) rfl rfl ?_)
  refine l_alloc 6 O33 rfl fun g66 w67 O68 S69 h70 => ?_
  refine l_store h70 rfl rfl rfl (Nat.le_of_ble_eq_true rfl) (by first | exact allOne rfl | simp [Value.cells, Value.oneCell', errV_one]) fun w71 S72 h70 => ?_
  replace h70 : Lc 6 w71 O68 g66 135 [(.int .i64 a48.link.parent), (.int .i64 a48.link.op), (.int .i64 a48.link.cost)] := h70
  refine o_z ?_
  refine ewp_seq (ewp_seq (ewp_region (o_fa rfl rfl (o_ld (hc := Blk.cell (i := 0) (h70.1) rfl) rfl rfl ?_))))
  refine o_ltS rfl rfl rfl (fun c73 => ?_) fun c73 => ?_
  ·
   replace hf22 := ip hf22 c73
   refine o_z ?_
   refine ewp_true rfl (ewp_seq (ewp_region (o_mv rfl rfl ?_)))
   obtain ⟨q74, e75, hf22⟩ := bs hf22
   replace h31 := ((h31.st S34).st S69).st S72
   refine l_callM (O := O68) (c_slices_Reverse_Lint_int h31 e75) rfl rfl fun v80 w76 O77 S78 h81 => ?_
   refine o_z ?_
   refine ewp_seq (ewp_region (o_mv rfl rfl (o_as rfl rfl (o_as rfl rfl (o_z ?_)))))
   refine ewp_ret ?_
   obtain ⟨O82, S83, h81⟩ := h81.freeze
   replace h35 := (((h35.st S69).st S72).st S78).st S83
   replace h38 := (((h38.st S69).st S72).st S78).st S83
   replace h41 := (((h41.st S69).st S72).st S78).st S83
   replace h46 := (((h46.st S69).st S72).st S78).st S83
   obtain ⟨O84, S85, hz87, ha88, h86⟩ := Reg.shut (x := x0) (l0 := 2) (l1 := 3) (l2 := 4) (l3 := 5) (by decide) h35 h38 h41 h46
   obtain rfl := sm hf22
   obtain rfl := hret23 _ rfl
   obtain rfl := sm (fin_ret hm)
   replace hB := (((((hB.st S34).st S69).st S72).st S78).st S83).st S85
   obtain ⟨O', hS', hz, hl⟩ := hE.leave (fun q => if q = 2 then i0 else 0) rfl hB
   replace h81 := h81.st S85
   exact ret2 rfl (res_tmp rfl) (res_tmp rfl) ⟨O', hS', _, _, (Ob.leave h86 hz (hl 2 (by decide) (by decide)) hx0.2), rfl, (Vb.mono h81 hz), (vErr (show inI64 0 from by decide))⟩
  ·
   replace hf22 := im hf22 c73
   refine o_z ?_
   refine ewp_false rfl (ewp_skip (ewp_seq (ewp_region (o_mv rfl rfl (o_fa rfl rfl (o_ld (hc := Blk.cell (i := 1) (h70.1) rfl) rfl rfl ?_))))))
   obtain ⟨u89, e90, hf22⟩ := bs hf22
   obtain ⟨e90, e91, e92⟩ := appI_some e90
   replace h31 := ((h31.st S34).st S69).st S72
   refine l_append1 rfl (a := a48.link.op) h31 (vInt r64) (fun _ => rfl) rfl (by decide) (by decide) e91 e92 ⟨rfl, rfl⟩ fun g93 A94 c95 w96 O97 S98 h99 => ?_
   rw [← e90] at h99 ⊢
   refine o_as rfl rfl (o_z ?_)
   refine ewp_seq (ewp_seq (ewp_region (o_mv rfl rfl (o_ln rfl rfl ?_))))
   have l102 : u89.length ≤ 9223372036854775807 := Nat.le_trans h99.len.2.1 h99.len.2.2
   have r101 : inI64 (u89.length : Int) := rngNat l102
   refine o_mv rfl rfl (o_nc rfl rfl (o_fa rfl rfl ?_))
   replace h35 := ((h35.st S69).st S72).st S98
   refine o_ld (hc := Blk.cell (i := 1) (h35.1) rfl) rfl rfl ?_
   refine o_ln rfl rfl ?_
   replace h41 := ((h41.st S69).st S72).st S98
   have l104 : x0.entries.length ≤ 9223372036854775807 := Nat.le_trans h41.len.2.1 h41.len.2.2
   have r103 : inI64 (x0.entries.length : Int) := rngNat l104
   refine o_gtS rfl rfl rfl (fun c105 => ?_) fun c105 => ?_
   ·
    replace hf22 := ip hf22 c105
    refine o_z ?_
    refine ewp_true rfl (ewp_seq (ewp_region (o_miE rfl rfl ?_)))
    refine o_as rfl rfl (o_as rfl rfl (o_z ?_))
    refine ewp_ret ?_
    replace h38 := ((h38.st S69).st S72).st S98
    replace h46 := ((h46.st S69).st S72).st S98
    obtain ⟨O106, S107, hz109, ha110, h108⟩ := Reg.shut (x := x0) (l0 := 2) (l1 := 3) (l2 := 4) (l3 := 5) (by decide) h35 h38 h41 h46
    obtain rfl := sm hf22
    obtain rfl := hret23 _ rfl
    obtain rfl := sm (fin_ret hm)
    replace hB := ((((hB.st S34).st S69).st S72).st S98).st S107
    obtain ⟨O', hS', hz, hl⟩ := hE.leave (fun q => if q = 2 then i0 else 0) rfl hB
    exact ret2 rfl (res_tmp rfl) (res_tmp rfl) ⟨O', hS', _, _, (Ob.leave h108 hz (hl 2 (by decide) (by decide)) hx0.2), rfl, (Vb.mono (Vb.nil _ _) hz), (vErr (by decide))⟩
   ·
    replace hf22 := im hf22 c105
    refine o_z ?_
    refine ewp_false rfl (ewp_skip (ewp_region (o_fa rfl rfl ?_)))
    replace h70 := h70.st S98
    refine o_ld (hc := Blk.cell (i := 0) (h70.1) rfl) rfl rfl ?_
    refine o_as rfl rfl (o_z ?_)
    replace h38 := ((h38.st S69).st S72).st S98
    replace h46 := ((h46.st S69).st S72).st S98
    obtain ⟨O111, S112, hz114, ha115, h113⟩ := Reg.shut (x := x0) (l0 := 2) (l1 := 3) (l2 := 4) (l3 := 5) (by decide) h35 h38 h41 h46
    obtain rfl := sm hf22
    refine (?_ : Exists _)
    replace hB := ((((hB.st S34).st S69).st S72).st S98).st S112
    replace h99 := h99.st S112
    exact ⟨_, (A94, c95), rfl, ⟨rfl, rfl, rfl, trivial⟩, _, hB, h113, h99, r63⟩
 rintro l116 w117 ⟨s120, x121, _, _, hE⟩
 exact hE.elim
end
end Go.Proofs.Ytgnmjmcjadpmhaa

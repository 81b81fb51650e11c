/- Own text: what the proof of stubbornSafe_holds uses, part 3: rules, models and their proofs, plain laws. -/
import Derived.Test.YtgnmjmcjadpmhaaPSafB
namespace Go.Proofs.Ytgnmjmcjadpmhaa
open Go Go.RowKit
section
open Go Go.RowKit
attribute [local irreducible] ewp owp hwp hwq Ev Evg Fn retPost Res1
attribute [local irreducible] hwx loudX
noncomputable def m_stubborn_on (x0 : List Fct) (x1 : Int) : Option (Int × Bool) :=
  bnd (rng (ρ := Int × Bool) (fun (k11 : Nat) (a12 : Fct) (s9 : Unit) => if a12.var = x1 then (some (.ret (a12.val, true))) else (some (.next ()))) x0 0 ()) fun res7 => fin res7 fun (s43 : Unit) => some (0, false)
theorem c_stubborn_on {w : World} {A : Nat → Prop} (hA : ∀ k, A k → k < w.heap.size) {vx0 : Value} {x0 : List Fct} (hx0 : Vb w A vx0 x0) {x1 : Int} (rx1 : inI64 x1) {r : Int × Bool} (hm : m_stubborn_on x0 x1 = some r) :
    Fn Try.prog 82 [vx0, (.int .i64 x1)] w fun v w' => Ext w w' ∧ T2 w' (upA A w w') v r := by
 obtain ⟨O, hB, hA0⟩ := enter hA
 replace hx0 := hx0.mono hA0
 obtain ⟨A3, c4, rfl⟩ := hx0.form
 refine fn_enter Try.func82 rfl Try.ntmps82 rfl ?_
 unfold m_stubborn_on at hm
 refine ewp_seq (ewp_region (o_as rfl rfl (o_as rfl rfl (o_z ?_))))
 refine ewp_seq (ewp_seq (ewp_region (o_mv rfl rfl (o_ln rfl rfl ?_))))
 have l6 : x0.length ≤ 9223372036854775807 := Nat.le_trans hx0.len.2.1 hx0.len.2.2
 have r5 : inI64 (x0.length : Int) := rngNat l6
 refine o_mv rfl rfl (o_z ?_)
 obtain ⟨res7, hL8, hm⟩ := bs hm
 refine ewp_join (aft res7 (fun (s9 : Unit) (x10 : Unit) => []) (fun s9 x10 w' => ∃ O' : Lab, Bs w A w' O')) ?_ ?_
 ·
  refine ewp_block (ewp_rng (σ := Unit) (X := Unit) (x0.length) hL8 rfl l6 (fun (s9 : Unit) (x10 : Unit) => [(1, (.int .i64 x1)), (8, (.slice A3 x0.length c4))]) _ (fun s9 x10 w' => ∃ O' : Lab, Bs w A w' O' ∧ Vb w' (Fr 0 w' O') (.slice A3 x0.length c4) x0) _ () ⟨O, hB, hx0⟩ ⟨rfl, rfl, rfl, rfl, trivial⟩ (fun _ _ => ⟨rfl, rfl⟩) (fun _ _ => trivial) (fun _ _ _ ⟨O', hB, hx0⟩ => ⟨O', hB⟩) ⟨rfl, rfl, rfl⟩ ⟨rfl, rfl⟩ ?_)
  rintro k11 a12 s9 x10 w13 cc15 hx16 ⟨O14, hB, hx0⟩ hf17 hret18 hbrk19
  have rk11 : inI64 (k11 : Int) := rngK hx16 l6
  refine ewp_seq (ewp_region ?_)
  obtain ⟨b22, o23, ce24, hA25, hl26, hd27, rfl, r29, r30⟩ := hx0.elem' hx16
  refine o_iaE (hA := hA25) (hj := rfl) (hlt := hl26) rfl rfl rfl ?_
  refine o_la (hl := rfl) (hc := hd27) rfl rfl ?_
  refine l_alloc 2 O14 rfl fun g31 w32 O33 S34 h35 => ?_
  refine l_store h35 rfl rfl rfl (Nat.le_of_ble_eq_true rfl) (by first | exact allOne rfl | simp [Value.cells, Value.oneCell', errV_one]) fun w36 S37 h35 => ?_
  replace h35 : Lc 2 w36 O33 g31 68 [(.int .i64 a12.var), (.int .i64 a12.val)] := h35
  refine o_z ?_
  refine ewp_seq (ewp_region (o_fa rfl rfl (o_ld (hc := Blk.cell (i := 0) (h35.1) rfl) rfl rfl ?_)))
  refine o_mv rfl rfl (o_eeS rfl rfl rfl (fun c38 => ?_) fun c38 => ?_)
  ·
   replace hf17 := ip hf17 c38
   refine o_z ?_
   refine ewp_true rfl (ewp_seq (ewp_region (o_fa rfl rfl (o_ld (hc := Blk.cell (i := 1) (h35.1) rfl) rfl rfl ?_))))
   refine o_as rfl rfl (o_as rfl rfl (o_z ?_))
   refine ewp_ret ?_
   obtain rfl := sm hf17
   obtain rfl := hret18 _ rfl
   obtain rfl := sm (fin_ret hm)
   replace hB := (hB.st S34).st S37
   exact ret2 rfl (res_tmp rfl) (res_tmp rfl) ⟨hB.ext, _, _, rfl, (vInt r30), vBool⟩
  ·
   replace hf17 := im hf17 c38
   refine o_z ?_
   refine ewp_false rfl (ewp_skip ?_)
   obtain rfl := sm hf17
   refine (?_ : Exists _)
   replace hx0 := (hx0.st S34).st S37
   replace hB := (hB.st S34).st S37
   exact ⟨_, (), rfl, ⟨rfl, rfl, rfl, rfl, trivial⟩, _, hB, hx0⟩
 rintro l39 w40 ⟨s43, x44, rfl, hs42, O41, hB⟩
 replace hm := fin_done hm
 refine ewp_sub _ hs42 ?_
 refine ewp_seq (ewp_region (o_as rfl rfl (o_as rfl rfl (o_z ?_))))
 refine ewp_ret ?_
 obtain rfl := sm hm
 exact ret2 rfl (res_tmp rfl) (res_tmp rfl) ⟨hB.ext, _, _, rfl, (vInt (show inI64 (0) from by decide)), vBool⟩
noncomputable def m_stubborn_hinders (x0 : Opr) (x1 : Opr) : Option Bool :=
  bnd (rng (ρ := Bool) (fun (k41 : Nat) (a42 : Eff) (s39 : Unit) => bnd (m_stubborn_on x1.pre a42.var) fun q72 => bnd (if q72.2 = true then (if q72.1 ≠ a42.val then (some true) else (some false)) else (some false) : Option Bool) fun y84 => if y84 = true then (some (.ret true)) else (bnd (rng (ρ := Ctl Unit Bool) (fun (k101 : Nat) (a102 : Eff) (s99 : Unit) => bnd (m_stubborn_on a102.cond a42.var) fun q132 => bnd (if q132.2 = true then (some true) else (if a102.var = a42.var then (if a102.val ≠ a42.val then (some true) else (some false)) else (some false)) : Option Bool) fun y144 => if y144 = true then (some (.ret (.ret true))) else (some (.next ()))) x1.effs 0 ()) fun res97 => fin res97 fun (s160 : Unit) => some (.next ()))) x0.effs 0 ()) fun res37 => fin res37 fun (s166 : Unit) => some false
theorem c_stubborn_hinders {w : World} {A : Nat → Prop} (hA : ∀ k, A k → k < w.heap.size) {vx0 : Value} {x0 : Opr} (hx0 : Vb w A vx0 x0) {vx1 : Value} {x1 : Opr} (hx1 : Vb w A vx1 x1) {r : Bool} (hm : m_stubborn_hinders x0 x1 = some r) :
    Fn Try.prog 67 [vx0, vx1] w fun v w' => Ext w w' ∧ Vb w' (upA A w w') v r := by
 obtain ⟨O, hB, hA0⟩ := enter hA
 replace hx0 := hx0.mono hA0
 obtain ⟨cs3, rfl, v4, v5, rfl, h6, h9, r12, z13⟩ := hx0
 obtain ⟨A7, c8, rfl⟩ := h6.form
 obtain ⟨A10, c11, rfl⟩ := h9.form
 replace hx1 := hx1.mono hA0
 obtain ⟨cs14, rfl, v15, v16, rfl, h17, h20, r23, z24⟩ := hx1
 obtain ⟨A18, c19, rfl⟩ := h17.form
 obtain ⟨A21, c22, rfl⟩ := h20.form
 refine fn_enter Try.func67 rfl Try.ntmps67 rfl ?_
 unfold m_stubborn_hinders at hm
 refine ewp_seq (ewp_region (l_box 2 O rfl rfl fun g25 w26 O27 S28 h29 => ?_))
 replace h29 : Lc 2 w26 O27 g25 48 [(.string x0.name), (.int .i64 x0.cost), (.slice A7 x0.pre.length c8), (.slice A10 x0.effs.length c11)] := h29
 refine l_box 3 O27 rfl rfl fun g30 w31 O32 S33 h34 => ?_
 replace h34 : Lc 3 w31 O32 g30 48 [(.string x1.name), (.int .i64 x1.cost), (.slice A18 x1.pre.length c19), (.slice A21 x1.effs.length c22)] := h34
 refine o_as rfl rfl (o_z ?_)
 refine ewp_seq (ewp_seq (ewp_region (o_fa rfl rfl ?_)))
 replace h29 := h29.st S33
 refine o_ld (hc := Blk.cell (i := 3) (h29.1) rfl) rfl rfl ?_
 refine o_ln rfl rfl ?_
 replace h9 := (h9.st S28).st S33
 have l36 : x0.effs.length ≤ 9223372036854775807 := Nat.le_trans h9.len.2.1 h9.len.2.2
 have r35 : inI64 (x0.effs.length : Int) := rngNat l36
 refine o_mv rfl rfl (o_z ?_)
 obtain ⟨res37, hL38, hm⟩ := bs hm
 refine ewp_join (aft res37 (fun (s39 : Unit) (x40 : Unit) => []) (fun s39 x40 w' => ∃ O' : Lab, Bs w A w' O')) ?_ ?_
 ·
  refine ewp_block ?_
  replace hB := (hB.st S28).st S33
  replace h17 := (h17.st S28).st S33
  replace h20 := (h20.st S28).st S33
  refine ewp_rng (σ := Unit) (X := Unit) (x0.effs.length) hL38 rfl l36 (fun (s39 : Unit) (x40 : Unit) => [(3, (.pointer (some ⟨g30, 0, none⟩))), (14, (.slice A10 x0.effs.length c11))]) _ (fun s39 x40 w' => ∃ O' : Lab, Bs w A w' O' ∧ Lc 3 w' O' g30 48 [(.string x1.name), (.int .i64 x1.cost), (.slice A18 x1.pre.length c19), (.slice A21 x1.effs.length c22)] ∧ Vb w' (Fr 0 w' O') (.slice A18 x1.pre.length c19) x1.pre ∧ Vb w' (Fr 0 w' O') (.slice A21 x1.effs.length c22) x1.effs ∧ Vb w' (Fr 0 w' O') (.slice A10 x0.effs.length c11) x0.effs) _ () ⟨O32, hB, h34, h17, h20, h9⟩ ⟨rfl, rfl, rfl, rfl, trivial⟩ (fun _ _ => ⟨rfl, rfl⟩) (fun _ _ => trivial) (fun _ _ _ ⟨O', hB, h34, h17, h20, h9⟩ => ⟨O', hB⟩) ⟨rfl, rfl, rfl⟩ ⟨rfl, rfl⟩ ?_
  rintro k41 a42 s39 x40 w43 cc45 hx46 ⟨O44, hB, h34, h17, h20, h9⟩ hf47 hret48 hbrk49
  have rk41 : inI64 (k41 : Int) := rngK hx46 l36
  refine ewp_seq (ewp_region ?_)
  obtain ⟨b52, o53, ce54, hA55, hl56, hd57, v59, rfl, h60, r63, r64⟩ := h9.elem' hx46
  obtain ⟨A61, c62, rfl⟩ := h60.form
  refine o_iaE (hA := hA55) (hj := rfl) (hlt := hl56) rfl rfl rfl ?_
  refine o_la (hl := rfl) (hc := hd57) rfl rfl ?_
  refine l_alloc 4 O44 rfl fun g65 w66 O67 S68 h69 => ?_
  refine l_store h69 rfl rfl rfl (Nat.le_of_ble_eq_true rfl) (by first | exact allOne rfl | simp [Value.cells, Value.oneCell', errV_one]) fun w70 S71 h69 => ?_
  replace h69 : Lc 4 w70 O67 g65 77 [(.slice A61 a42.cond.length c62), (.int .i64 a42.var), (.int .i64 a42.val)] := h69
  refine o_z ?_
  refine ewp_seq (ewp_seq (ewp_region (o_fa rfl rfl ?_)))
  replace h34 := (h34.st S68).st S71
  refine o_ld (hc := Blk.cell (i := 2) (h34.1) rfl) rfl rfl ?_
  refine o_fa rfl rfl (o_ld (hc := Blk.cell (i := 1) (h69.1) rfl) rfl rfl ?_)
  obtain ⟨q72, e73, hf47⟩ := bs hf47
  replace h17 := (h17.st S68).st S71
  refine l_callA (O := O67) (A := All w70) (R := fun w' F v => T2 w' F v q72) (c_stubborn_on (fun _ h => h) (Vb.mono (F := Fr 0 w70 O67) h17 Fr.lt) r63 e73) rfl rfl fun v78 w74 O75 S76 h77 => ?_
  obtain ⟨v79, v80, rfl, h81, h82⟩ := h77
  obtain ⟨rfl, r83⟩ := h81.int
  obtain rfl := h82.bool
  refine o_mv rfl rfl (o_ex rfl rfl rfl (o_ex rfl rfl rfl (o_as rfl rfl (o_as rfl rfl (o_z ?_)))))
  refine ewp_seq ?_
  obtain ⟨y84, hy85, hf47⟩ := bs hf47
  refine ewp_join (fun l' w' => ∃ (x87 : Unit) (O' : Lab), subs l' [(3, (.pointer (some ⟨g30, 0, none⟩))), (6, (.pointer (some ⟨g65, 0, none⟩))), (14, (.slice A10 x0.effs.length c11)), (15, (.int .i64 (x0.effs.length : Int))), (16, (.int .i64 (k41 : Int))), (34, (.bool y84))] ∧ Bs w A w' O' ∧ Lc 3 w' O' g30 48 [(.string x1.name), (.int .i64 x1.cost), (.slice A18 x1.pre.length c19), (.slice A21 x1.effs.length c22)] ∧ Vb w' (Fr 0 w' O') (.slice A18 x1.pre.length c19) x1.pre ∧ Vb w' (Fr 0 w' O') (.slice A21 x1.effs.length c22) x1.effs ∧ Lc 4 w' O' g65 77 [(.slice A61 a42.cond.length c62), (.int .i64 a42.var), (.int .i64 a42.val)] ∧ Vb w' (Fr 0 w' O') (.slice A61 a42.cond.length c62) a42.cond ∧ Vb w' (Fr 0 w' O') (.slice A10 x0.effs.length c11) x0.effs) ?_ ?_
  ·
   refine ewp_region (o_mv rfl rfl (o_mv rfl rfl ?_))
   rcases Bool.eq_false_or_eq_true q72.2 with c88 | c88
   ·
    try simp only [c88]
    replace hy85 := ip hy85 c88
    refine owp_yes rfl rfl (o_mv rfl rfl (owp_yes rfl rfl (o_fa rfl rfl (owp_yes rfl rfl ?_))))
    replace h69 := h69.st S76
    refine o_ld (hc := Blk.cell (i := 2) (h69.1) rfl) rfl rfl ?_
    refine owp_yes rfl rfl (o_neS rfl rfl rfl (fun c89 => ?_) fun c89 => ?_)
    ·
     replace hy85 := ip hy85 c89
     refine o_pt rfl rfl rfl (o_z ?_)
     obtain rfl := sm hy85
     replace hB := ((hB.st S68).st S71).st S76
     replace h9 := ((h9.st S68).st S71).st S76
     replace h17 := h17.st S76
     replace h20 := ((h20.st S68).st S71).st S76
     replace h34 := h34.st S76
     replace h60 := ((h60.st S68).st S71).st S76
     exact ⟨(), _, ⟨rfl, rfl, rfl, rfl, rfl, rfl, trivial⟩, hB, h34, h17, h20, h69, h60, h9⟩
    ·
     replace hy85 := im hy85 c89
     refine o_pt rfl rfl rfl (o_z ?_)
     obtain rfl := sm hy85
     replace hB := ((hB.st S68).st S71).st S76
     replace h9 := ((h9.st S68).st S71).st S76
     replace h17 := h17.st S76
     replace h20 := ((h20.st S68).st S71).st S76
     replace h34 := h34.st S76
     replace h60 := ((h60.st S68).st S71).st S76
     exact ⟨(), _, ⟨rfl, rfl, rfl, rfl, rfl, rfl, trivial⟩, hB, h34, h17, h20, h69, h60, h9⟩
   ·
    try simp only [c88]
    replace hy85 := im' hy85 c88
    refine owp_no rfl rfl rfl rfl (owp_no rfl rfl rfl rfl (owp_no rfl rfl rfl rfl (owp_no rfl rfl rfl rfl (o_pf rfl rfl rfl (o_z ?_)))))
    obtain rfl := sm hy85
    replace hB := ((hB.st S68).st S71).st S76
    replace h9 := ((h9.st S68).st S71).st S76
    replace h17 := h17.st S76
    replace h20 := ((h20.st S68).st S71).st S76
    replace h34 := h34.st S76
    replace h60 := ((h60.st S68).st S71).st S76
    replace h69 := h69.st S76
    exact ⟨(), _, ⟨rfl, rfl, rfl, rfl, rfl, rfl, trivial⟩, hB, h34, h17, h20, h69, h60, h9⟩
  replace hB := ((hB.st S68).st S71).st S76
  replace h9 := ((h9.st S68).st S71).st S76
  replace h17 := h17.st S76
  replace h20 := ((h20.st S68).st S71).st S76
  replace h34 := h34.st S76
  replace h60 := ((h60.st S68).st S71).st S76
  replace h69 := h69.st S76
  rintro l90 w91 ⟨x87, O92, hs93, hB, h34, h17, h20, h69, h60, h9⟩
  refine ewp_sub _ hs93 ?_
  refine ewp_cond rfl (fun c94 => ?_) (fun c94 => ?_)
  ·
   replace hf47 := ip hf47 c94
   refine ewp_seq (ewp_region (o_as rfl rfl (o_z ?_)))
   refine ewp_ret ?_
   obtain rfl := sm hf47
   obtain rfl := hret48 _ rfl
   obtain rfl := sm (fin_ret hm)
   exact ret1v rfl (res_tmp rfl) ⟨hB.ext, vBool⟩
  ·
   replace hf47 := im' hf47 c94
   refine ewp_skip (ewp_seq (ewp_region (o_fa rfl rfl (o_ld (hc := Blk.cell (i := 3) (h34.1) rfl) rfl rfl ?_))))
   refine o_ln rfl rfl ?_
   have l96 : x1.effs.length ≤ 9223372036854775807 := Nat.le_trans h20.len.2.1 h20.len.2.2
   have r95 : inI64 (x1.effs.length : Int) := rngNat l96
   refine o_mv rfl rfl (o_z ?_)
   obtain ⟨res97, hL98, hf47⟩ := bs hf47
   refine ewp_join (aft res97 (fun (s99 : Unit) (x100 : Unit) => [(3, (.pointer (some ⟨g30, 0, none⟩))), (14, (.slice A10 x0.effs.length c11)), (15, (.int .i64 (x0.effs.length : Int))), (16, (.int .i64 (k41 : Int)))]) (fun s99 x100 w' => ∃ O' : Lab, Bs w A w' O' ∧ Lc 3 w' O' g30 48 [(.string x1.name), (.int .i64 x1.cost), (.slice A18 x1.pre.length c19), (.slice A21 x1.effs.length c22)] ∧ Vb w' (Fr 0 w' O') (.slice A18 x1.pre.length c19) x1.pre ∧ Vb w' (Fr 0 w' O') (.slice A21 x1.effs.length c22) x1.effs ∧ Vb w' (Fr 0 w' O') (.slice A10 x0.effs.length c11) x0.effs)) ?_ ?_
   ·
    refine ewp_block (ewp_rng (σ := Unit) (X := Unit) (x1.effs.length) hL98 rfl l96 (fun (s99 : Unit) (x100 : Unit) => [(3, (.pointer (some ⟨g30, 0, none⟩))), (6, (.pointer (some ⟨g65, 0, none⟩))), (14, (.slice A10 x0.effs.length c11)), (15, (.int .i64 (x0.effs.length : Int))), (16, (.int .i64 (k41 : Int))), (36, (.slice A21 x1.effs.length c22))]) _ (fun s99 x100 w' => ∃ O' : Lab, Bs w A w' O' ∧ Lc 3 w' O' g30 48 [(.string x1.name), (.int .i64 x1.cost), (.slice A18 x1.pre.length c19), (.slice A21 x1.effs.length c22)] ∧ Vb w' (Fr 0 w' O') (.slice A18 x1.pre.length c19) x1.pre ∧ Vb w' (Fr 0 w' O') (.slice A21 x1.effs.length c22) x1.effs ∧ Lc 4 w' O' g65 77 [(.slice A61 a42.cond.length c62), (.int .i64 a42.var), (.int .i64 a42.val)] ∧ Vb w' (Fr 0 w' O') (.slice A61 a42.cond.length c62) a42.cond ∧ Vb w' (Fr 0 w' O') (.slice A10 x0.effs.length c11) x0.effs) _ () ⟨O92, hB, h34, h17, h20, h69, h60, h9⟩ ⟨rfl, rfl, rfl, rfl, rfl, rfl, rfl, rfl, trivial⟩ (fun _ _ => ⟨rfl, rfl⟩) (fun _ _ => ⟨rfl, rfl, rfl, rfl, trivial⟩) (fun _ _ _ ⟨O', hB, h34, h17, h20, h69, h60, h9⟩ => ⟨O', hB, h34, h17, h20, h9⟩) ⟨rfl, rfl, rfl⟩ ⟨rfl, rfl⟩ ?_)
    rintro k101 a102 s99 x100 w103 cc105 hx106 ⟨O104, hB, h34, h17, h20, h69, h60, h9⟩ hf107 hret108 hbrk109
    have rk101 : inI64 (k101 : Int) := rngK hx106 l96
    refine ewp_seq (ewp_region ?_)
    obtain ⟨b112, o113, ce114, hA115, hl116, hd117, v119, rfl, h120, r123, r124⟩ := h20.elem' hx106
    obtain ⟨A121, c122, rfl⟩ := h120.form
    refine o_iaE (hA := hA115) (hj := rfl) (hlt := hl116) rfl rfl rfl ?_
    refine o_la (hl := rfl) (hc := hd117) rfl rfl ?_
    refine l_alloc 5 O104 rfl fun g125 w126 O127 S128 h129 => ?_
    refine l_store h129 rfl rfl rfl (Nat.le_of_ble_eq_true rfl) (by first | exact allOne rfl | simp [Value.cells, Value.oneCell', errV_one]) fun w130 S131 h129 => ?_
    replace h129 : Lc 5 w130 O127 g125 77 [(.slice A121 a102.cond.length c122), (.int .i64 a102.var), (.int .i64 a102.val)] := h129
    refine o_z ?_
    refine ewp_seq (ewp_region (o_fa rfl rfl (o_ld (hc := Blk.cell (i := 0) (h129.1) rfl) rfl rfl ?_)))
    refine o_fa rfl rfl ?_
    replace h69 := (h69.st S128).st S131
    refine o_ld (hc := Blk.cell (i := 1) (h69.1) rfl) rfl rfl ?_
    obtain ⟨q132, e133, hf107⟩ := bs hf107
    replace h120 := (h120.st S128).st S131
    refine l_callA (O := O127) (A := All w130) (R := fun w' F v => T2 w' F v q132) (c_stubborn_on (fun _ h => h) (Vb.mono (F := Fr 0 w130 O127) h120 Fr.lt) r63 e133) rfl rfl fun v138 w134 O135 S136 h137 => ?_
    obtain ⟨v139, v140, rfl, h141, h142⟩ := h137
    obtain ⟨rfl, r143⟩ := h141.int
    obtain rfl := h142.bool
    refine o_mv rfl rfl (o_ex rfl rfl rfl (o_ex rfl rfl rfl (o_as rfl rfl (o_as rfl rfl (o_z ?_)))))
    refine ewp_seq ?_
    obtain ⟨y144, hy145, hf107⟩ := bs hf107
    refine ewp_join (fun l' w' => ∃ (x147 : Unit) (O' : Lab), subs l' [(3, (.pointer (some ⟨g30, 0, none⟩))), (6, (.pointer (some ⟨g65, 0, none⟩))), (14, (.slice A10 x0.effs.length c11)), (15, (.int .i64 (x0.effs.length : Int))), (16, (.int .i64 (k41 : Int))), (36, (.slice A21 x1.effs.length c22)), (37, (.int .i64 (x1.effs.length : Int))), (38, (.int .i64 (k101 : Int))), (64, (.bool y144))] ∧ Bs w A w' O' ∧ Lc 3 w' O' g30 48 [(.string x1.name), (.int .i64 x1.cost), (.slice A18 x1.pre.length c19), (.slice A21 x1.effs.length c22)] ∧ Vb w' (Fr 0 w' O') (.slice A18 x1.pre.length c19) x1.pre ∧ Vb w' (Fr 0 w' O') (.slice A21 x1.effs.length c22) x1.effs ∧ Lc 4 w' O' g65 77 [(.slice A61 a42.cond.length c62), (.int .i64 a42.var), (.int .i64 a42.val)] ∧ Vb w' (Fr 0 w' O') (.slice A61 a42.cond.length c62) a42.cond ∧ Vb w' (Fr 0 w' O') (.slice A10 x0.effs.length c11) x0.effs) ?_ ?_
    ·
     refine ewp_region (o_mv rfl rfl (o_mv rfl rfl ?_))
     rcases Bool.eq_false_or_eq_true q132.2 with c148 | c148
     ·
      try simp only [c148]
      replace hy145 := ip hy145 c148
      refine owp_no rfl rfl rfl rfl (owp_no rfl rfl rfl rfl (owp_no rfl rfl rfl rfl (owp_no rfl rfl rfl rfl (owp_no rfl rfl rfl rfl (owp_no rfl rfl rfl rfl (owp_no rfl rfl rfl rfl (owp_no rfl rfl rfl rfl (owp_no rfl rfl rfl rfl (owp_no rfl rfl rfl rfl (owp_no rfl rfl rfl rfl (owp_no rfl rfl rfl rfl (o_pt rfl rfl rfl (o_z ?_)))))))))))))
      obtain rfl := sm hy145
      replace hB := ((hB.st S128).st S131).st S136
      replace h9 := ((h9.st S128).st S131).st S136
      replace h17 := ((h17.st S128).st S131).st S136
      replace h20 := ((h20.st S128).st S131).st S136
      replace h34 := ((h34.st S128).st S131).st S136
      replace h60 := ((h60.st S128).st S131).st S136
      replace h69 := h69.st S136
      exact ⟨(), _, ⟨rfl, rfl, rfl, rfl, rfl, rfl, rfl, rfl, rfl, trivial⟩, hB, h34, h17, h20, h69, h60, h9⟩
     ·
      try simp only [c148]
      replace hy145 := im' hy145 c148
      refine owp_yes rfl rfl (o_fa rfl rfl (owp_yes rfl rfl ?_))
      replace h129 := h129.st S136
      refine o_ld (hc := Blk.cell (i := 1) (h129.1) rfl) rfl rfl ?_
      refine owp_yes rfl rfl (o_fa rfl rfl (owp_yes rfl rfl ?_))
      replace h69 := h69.st S136
      refine o_ld (hc := Blk.cell (i := 1) (h69.1) rfl) rfl rfl ?_
      refine owp_yes rfl rfl (o_eeS rfl rfl rfl (fun c149 => ?_) fun c149 => ?_)
      ·
       replace hy145 := ip hy145 c149
       refine owp_yes rfl rfl (o_mv rfl rfl (owp_yes rfl rfl (o_fa rfl rfl (owp_yes rfl rfl (o_ld (hc := Blk.cell (i := 2) (h129.1) rfl) rfl rfl ?_)))))
       refine owp_yes rfl rfl (o_fa rfl rfl (owp_yes rfl rfl (o_ld (hc := Blk.cell (i := 2) (h69.1) rfl) rfl rfl ?_)))
       refine owp_yes rfl rfl (o_neS rfl rfl rfl (fun c150 => ?_) fun c150 => ?_)
       ·
        replace hy145 := ip hy145 c150
        refine owp_yes rfl rfl (o_pt rfl rfl rfl (o_pf rfl rfl rfl (o_z ?_)))
        obtain rfl := sm hy145
        replace hB := ((hB.st S128).st S131).st S136
        replace h9 := ((h9.st S128).st S131).st S136
        replace h17 := ((h17.st S128).st S131).st S136
        replace h20 := ((h20.st S128).st S131).st S136
        replace h34 := ((h34.st S128).st S131).st S136
        replace h60 := ((h60.st S128).st S131).st S136
        exact ⟨(), _, ⟨rfl, rfl, rfl, rfl, rfl, rfl, rfl, rfl, rfl, trivial⟩, hB, h34, h17, h20, h69, h60, h9⟩
       ·
        replace hy145 := im hy145 c150
        refine owp_yes rfl rfl (o_pt rfl rfl rfl (o_pf rfl rfl rfl (o_z ?_)))
        obtain rfl := sm hy145
        replace hB := ((hB.st S128).st S131).st S136
        replace h9 := ((h9.st S128).st S131).st S136
        replace h17 := ((h17.st S128).st S131).st S136
        replace h20 := ((h20.st S128).st S131).st S136
        replace h34 := ((h34.st S128).st S131).st S136
        replace h60 := ((h60.st S128).st S131).st S136
        exact ⟨(), _, ⟨rfl, rfl, rfl, rfl, rfl, rfl, rfl, rfl, rfl, trivial⟩, hB, h34, h17, h20, h69, h60, h9⟩
      ·
       replace hy145 := im hy145 c149
       refine owp_yes rfl rfl (o_mv rfl rfl (owp_no rfl rfl rfl rfl (owp_no rfl rfl rfl rfl (owp_no rfl rfl rfl rfl (owp_no rfl rfl rfl rfl (owp_no rfl rfl rfl rfl (owp_yes rfl rfl (o_pf rfl rfl rfl (o_pf rfl rfl rfl (o_z ?_))))))))))
       obtain rfl := sm hy145
       replace hB := ((hB.st S128).st S131).st S136
       replace h9 := ((h9.st S128).st S131).st S136
       replace h17 := ((h17.st S128).st S131).st S136
       replace h20 := ((h20.st S128).st S131).st S136
       replace h34 := ((h34.st S128).st S131).st S136
       replace h60 := ((h60.st S128).st S131).st S136
       exact ⟨(), _, ⟨rfl, rfl, rfl, rfl, rfl, rfl, rfl, rfl, rfl, trivial⟩, hB, h34, h17, h20, h69, h60, h9⟩
    replace hB := ((hB.st S128).st S131).st S136
    replace h9 := ((h9.st S128).st S131).st S136
    replace h17 := ((h17.st S128).st S131).st S136
    replace h20 := ((h20.st S128).st S131).st S136
    replace h34 := ((h34.st S128).st S131).st S136
    replace h60 := ((h60.st S128).st S131).st S136
    replace h69 := h69.st S136
    rintro l151 w152 ⟨x147, O153, hs154, hB, h34, h17, h20, h69, h60, h9⟩
    refine ewp_sub _ hs154 ?_
    refine ewp_cond rfl (fun c155 => ?_) (fun c155 => ?_)
    ·
     replace hf107 := ip hf107 c155
     refine ewp_seq (ewp_region (o_as rfl rfl (o_z ?_)))
     refine ewp_ret ?_
     obtain rfl := sm hf107
     obtain rfl := hret108 _ rfl
     obtain rfl := sm (fin_ret hf47)
     obtain rfl := hret48 _ rfl
     obtain rfl := sm (fin_ret hm)
     exact ret1v rfl (res_tmp rfl) ⟨hB.ext, vBool⟩
    ·
     replace hf107 := im' hf107 c155
     refine ewp_skip ?_
     obtain rfl := sm hf107
     refine (?_ : Exists _)
     exact ⟨_, (), rfl, ⟨rfl, rfl, rfl, rfl, rfl, rfl, rfl, rfl, trivial⟩, _, hB, h34, h17, h20, h69, h60, h9⟩
   rintro l156 w157 ⟨s160, x161, rfl, hs159, O158, hB, h34, h17, h20, h9⟩
   replace hf47 := fin_done hf47
   obtain rfl := sm hf47
   refine (?_ : Exists _)
   exact ⟨_, (), rfl, ⟨(subs_lk hs159 _ _ rfl), (subs_lk hs159 _ _ rfl), (subs_lk hs159 _ _ rfl), (subs_lk hs159 _ _ rfl), trivial⟩, _, hB, h34, h17, h20, h9⟩
 replace hB := (hB.st S28).st S33
 rintro l162 w163 ⟨s166, x167, rfl, hs165, O164, hB⟩
 replace hm := fin_done hm
 refine ewp_sub _ hs165 ?_
 refine ewp_seq (ewp_region (o_as rfl rfl (o_z ?_)))
 refine ewp_ret ?_
 obtain rfl := sm hm
 exact ret1v rfl (res_tmp rfl) ⟨hB.ext, vBool⟩
noncomputable def m_stubborn_interfere (x0 : Tsk) (x1 : Int) (x2 : Int) : Option Bool :=
  bnd (if x1 ≠ x2 then (bnd (atI x0.ops x1) fun a31 => bnd (atI x0.ops x2) fun a52 => bnd (m_stubborn_hinders a31 a52) fun q73 => if q73 = true then some true else bnd (atI x0.ops x2) fun a80 => bnd (atI x0.ops x1) fun a101 => bnd (m_stubborn_hinders a80 a101) fun q122 => if q122 = true then some true else some false) else (some false) : Option Bool) fun y26 => some y26
theorem c_stubborn_interfere {w : World} {A : Nat → Prop} (hA : ∀ k, A k → k < w.heap.size) {vx0 : Value} {x0 : Tsk} (hx0 : Vb w A vx0 x0) {x1 : Int} (rx1 : inI64 x1) {x2 : Int} (rx2 : inI64 x2) {r : Bool} (hm : m_stubborn_interfere x0 x1 x2 = some r) :
    Fn Try.prog 46 [vx0, (.int .i64 x1), (.int .i64 x2)] w fun v w' => Ext w w' ∧ Vb w' (upA A w w') v r := by
 obtain ⟨O, hB, hA0⟩ := enter hA
 replace hx0 := hx0.mono hA0
 obtain ⟨cs4, rfl, v5, v6, v7, v8, rfl, h9, h12, h15, h18⟩ := hx0
 obtain ⟨A10, c11, rfl⟩ := h9.form
 obtain ⟨A13, c14, rfl⟩ := h12.form
 obtain ⟨A16, c17, rfl⟩ := h15.form
 obtain ⟨A19, c20, rfl⟩ := h18.form
 refine fn_enter Try.func46 rfl Try.ntmps46 rfl ?_
 unfold m_stubborn_interfere at hm
 refine ewp_seq (ewp_region (l_box 2 O rfl rfl fun g21 w22 O23 S24 h25 => ?_))
 replace h25 : Lc 2 w22 O23 g21 26 [(.slice A10 x0.vars.length c11), (.slice A13 x0.init.length c14), (.slice A16 x0.goal.length c17), (.slice A19 x0.ops.length c20)] := h25
 refine o_as rfl rfl (o_z ?_)
 refine ewp_seq ?_
 obtain ⟨y26, hy27, hm⟩ := bs hm
 refine ewp_join (fun l' w' => ∃ (x29 : Unit) (O' : Lab), subs l' [(6, (.bool y26))] ∧ Bs w A w' O') ?_ ?_
 ·
  refine ewp_drawX [(14, []), (26, [])] O23 ?_
  refine x_pre (fuel := 16) [] [(0, true), (1, true), (2, true), (3, true), (4, true), (5, true), (6, true), (7, true), (8, true), (9, true), (10, true), (11, true), (12, true), (13, true)] (by kernel_rfl) rfl ?_
  refine h_mv rfl rfl rfl (h_mv rfl rfl rfl (h_neS rfl rfl rfl rfl (fun c30 => ?_) fun c30 => ?_))
  ·
   replace hy27 := ip hy27 c30
   refine h_mv rfl rfl rfl (hwp_o rfl (hwq_yes rfl rfl (g_fa rfl rfl (hwp_o rfl (hwq_yes rfl rfl (g_ldC (hc := fun w' ⟨O', hq⟩ => Blk.cell (i := 3) ((h25.st hq (by decide)).1) rfl) rfl rfl ?_))))))
   refine hwp_o rfl (hwq_yes rfl rfl (g_mv rfl rfl (hwp_o rfl (hwq_yes rfl rfl ?_))))
   obtain ⟨a31, e32, hy27⟩ := bs hy27
   obtain ⟨p34, x33⟩ := atI_some' e32
   replace h18 := h18.st S24
   obtain ⟨b35, o36, ce37, hA38, hF41, hl39, hd40, v42, v43, rfl, h44, h47, r50, z51⟩ := h18.elem x33
   obtain ⟨A45, c46, rfl⟩ := h44.form
   obtain ⟨A48, c49, rfl⟩ := h47.form
   refine g_iaE (hA := hA38) (hj := (Int.toNat_of_nonneg p34).symm) (hlt := hl39) rfl rfl rfl ?_
   refine hwp_o rfl (hwq_yes rfl rfl (g_laB (hl := rfl) (hb := fun w' ⟨O', hq⟩ => (cellsAt_agree (hq.agree (i := 0) (by decide)) hF41 hd40)) rfl rfl ?_))
   refine hwp_o rfl (hwq_yes rfl rfl (g_fa rfl rfl (hwp_o rfl (hwq_yes rfl rfl (g_ldC (hc := fun w' ⟨O', hq⟩ => Blk.cell (i := 3) ((h25.st hq (by decide)).1) rfl) rfl rfl ?_)))))
   refine hwp_o rfl (hwq_yes rfl rfl (g_mv rfl rfl (hwp_o rfl (hwq_yes rfl rfl ?_))))
   obtain ⟨a52, e53, hy27⟩ := bs hy27
   obtain ⟨p55, x54⟩ := atI_some' e53
   obtain ⟨b56, o57, ce58, hA59, hF62, hl60, hd61, v63, v64, rfl, h65, h68, r71, z72⟩ := h18.elem x54
   obtain ⟨A66, c67, rfl⟩ := h65.form
   obtain ⟨A69, c70, rfl⟩ := h68.form
   refine g_iaE (hA := hA59) (hj := (Int.toNat_of_nonneg p55).symm) (hlt := hl60) rfl rfl rfl ?_
   refine hwp_o rfl (hwq_yes rfl rfl (g_laB (hl := rfl) (hb := fun w' ⟨O', hq⟩ => (cellsAt_agree (hq.agree (i := 0) (by decide)) hF62 hd61)) rfl rfl ?_))
   refine hwp_nilT ?_
   refine x_one (i := 14) (by kernel_rfl) rfl ?_
   refine owp_yes rfl rfl ?_
   obtain ⟨q73, e74, hy27⟩ := bs hy27
   refine l_callA (O := O23) (A := All w22) (R := fun w' F v => Vb w' F v q73) (c_stubborn_hinders (fun _ h => h) (Vb.mono (F := Fr 0 w22 O23) (Vb.ofAgg (cs := [(.string a31.name), (.int .i64 a31.cost), (.slice A45 a31.pre.length c46), (.slice A48 a31.effs.length c49)]) (x := a31) rfl ⟨_, _, rfl, h44, h47, r50, z51⟩) Fr.lt) (Vb.mono (F := Fr 0 w22 O23) (Vb.ofAgg (cs := [(.string a52.name), (.int .i64 a52.cost), (.slice A66 a52.pre.length c67), (.slice A69 a52.effs.length c70)]) (x := a52) rfl ⟨_, _, rfl, h65, h68, r71, z72⟩) Fr.lt) e74) rfl rfl fun v79 w75 O76 S77 h78 => ?_
   obtain rfl := h78.bool
   have hZ := S77.lst [] (fun _ h => h.elim)
   cases q73
   case false =>
    replace hy27 := iF hy27
    refine x_go [(26, [])] hZ (by kernel_rfl) ?_
    refine x_pre (fuel := 4) [] [(15, true), (16, true), (17, true), (18, true), (19, true), (20, true), (21, true), (22, true), (23, true), (24, true), (25, true)] (by kernel_rfl) rfl ?_
    refine hwp_o rfl (hwq_yes rfl rfl (g_mv rfl rfl (hwp_o rfl (hwq_yes rfl rfl (g_fa rfl rfl (hwp_o rfl (hwq_yes rfl rfl ?_)))))))
    replace h25 := h25.st S77
    refine g_ldC (hc := fun w' ⟨O', hq⟩ => Blk.cell (i := 3) ((h25.st hq (by decide)).1) rfl) rfl rfl ?_
    refine hwp_o rfl (hwq_yes rfl rfl (g_mv rfl rfl (hwp_o rfl (hwq_yes rfl rfl ?_))))
    obtain ⟨a80, e81, hy27⟩ := bs hy27
    obtain ⟨p83, x82⟩ := atI_some' e81
    replace h18 := h18.st S77
    obtain ⟨b84, o85, ce86, hA87, hF90, hl88, hd89, v91, v92, rfl, h93, h96, r99, z100⟩ := h18.elem x82
    obtain ⟨A94, c95, rfl⟩ := h93.form
    obtain ⟨A97, c98, rfl⟩ := h96.form
    refine g_iaE (hA := hA87) (hj := (Int.toNat_of_nonneg p83).symm) (hlt := hl88) rfl rfl rfl ?_
    refine hwp_o rfl (hwq_yes rfl rfl (g_laB (hl := rfl) (hb := fun w' ⟨O', hq⟩ => (cellsAt_agree (hq.agree (i := 0) (by decide)) hF90 hd89)) rfl rfl ?_))
    refine hwp_o rfl (hwq_yes rfl rfl (g_fa rfl rfl (hwp_o rfl (hwq_yes rfl rfl (g_ldC (hc := fun w' ⟨O', hq⟩ => Blk.cell (i := 3) ((h25.st hq (by decide)).1) rfl) rfl rfl ?_)))))
    refine hwp_o rfl (hwq_yes rfl rfl (g_mv rfl rfl (hwp_o rfl (hwq_yes rfl rfl ?_))))
    obtain ⟨a101, e102, hy27⟩ := bs hy27
    obtain ⟨p104, x103⟩ := atI_some' e102
    obtain ⟨b105, o106, ce107, hA108, hF111, hl109, hd110, v112, v113, rfl, h114, h117, r120, z121⟩ := h18.elem x103
    obtain ⟨A115, c116, rfl⟩ := h114.form
    obtain ⟨A118, c119, rfl⟩ := h117.form
    refine g_iaE (hA := hA108) (hj := (Int.toNat_of_nonneg p104).symm) (hlt := hl109) rfl rfl rfl ?_
    refine hwp_o rfl (hwq_yes rfl rfl (g_laB (hl := rfl) (hb := fun w' ⟨O', hq⟩ => (cellsAt_agree (hq.agree (i := 0) (by decide)) hF111 hd110)) rfl rfl ?_))
    refine hwp_nilT ?_
    refine x_one (i := 26) (by kernel_rfl) rfl ?_
    refine owp_yes rfl rfl ?_
    obtain ⟨q122, e123, hy27⟩ := bs hy27
    refine l_callA (O := O76) (A := All w75) (R := fun w' F v => Vb w' F v q122) (c_stubborn_hinders (fun _ h => h) (Vb.mono (F := Fr 0 w75 O76) (Vb.ofAgg (cs := [(.string a80.name), (.int .i64 a80.cost), (.slice A94 a80.pre.length c95), (.slice A97 a80.effs.length c98)]) (x := a80) rfl ⟨_, _, rfl, h93, h96, r99, z100⟩) Fr.lt) (Vb.mono (F := Fr 0 w75 O76) (Vb.ofAgg (cs := [(.string a101.name), (.int .i64 a101.cost), (.slice A115 a101.pre.length c116), (.slice A118 a101.effs.length c119)]) (x := a101) rfl ⟨_, _, rfl, h114, h117, r120, z121⟩) Fr.lt) e123) rfl rfl fun v128 w124 O125 S126 h127 => ?_
    obtain rfl := h127.bool
    have hZ := S126.lst [] (fun _ h => h.elim)
    cases q122
    case false =>
     replace hy27 := iF hy27
     refine x_go [] hZ (by kernel_rfl) ?_
     refine x_pre (fuel := 0) [] [(27, true), (28, true), (29, true)] (by kernel_rfl) rfl ?_
     refine hwp_o rfl (hwq_yes rfl rfl (g_pf rfl rfl rfl (h_pt rfl rfl rfl rfl (h_as rfl rfl rfl (hwp_nilT ?_)))))
     refine x_nil (by kernel_rfl) ?_
     obtain rfl := sm hy27
     replace hB := ((hB.st S24).st S77).st S126
     exact ⟨(), _, ⟨rfl, trivial⟩, hB⟩
    replace hy27 := iT hy27
    refine x_go [] hZ (by kernel_rfl) ?_
    refine x_pre (fuel := 0) [] [(27, true), (28, true), (29, true)] (by kernel_rfl) rfl ?_
    refine hwp_o rfl (hwq_yes rfl rfl (g_pf rfl rfl rfl (h_pt rfl rfl rfl rfl (h_as rfl rfl rfl (hwp_nilT ?_)))))
    refine x_nil (by kernel_rfl) ?_
    obtain rfl := sm hy27
    replace hB := ((hB.st S24).st S77).st S126
    exact ⟨(), _, ⟨rfl, trivial⟩, hB⟩
   replace hy27 := iT hy27
   refine x_go [(26, [])] hZ (by kernel_rfl) ?_
   refine x_pre (fuel := 4) [] [(15, true), (16, true), (17, true), (18, true), (19, true), (20, true), (21, true), (22, true), (23, true), (24, true), (25, true)] (by kernel_rfl) rfl ?_
   refine hwp_o rfl (hwq_yes rfl rfl (g_mv rfl rfl (h_no rfl rfl rfl rfl rfl (h_no rfl rfl rfl rfl rfl (h_no rfl rfl rfl rfl rfl (h_no rfl rfl rfl rfl rfl (h_no rfl rfl rfl rfl rfl (h_no rfl rfl rfl rfl rfl (h_no rfl rfl rfl rfl rfl (h_no rfl rfl rfl rfl rfl (h_no rfl rfl rfl rfl rfl (h_no rfl rfl rfl rfl rfl (hwp_nilT ?_)))))))))))))
   refine x_one (i := 26) (by kernel_rfl) rfl ?_
   refine owp_no rfl rfl rfl rfl (x_go [] ((St.refl nT _ _).lst [] (fun _ h => h.elim)) (by kernel_rfl) ?_)
   refine x_pre (fuel := 0) [] [(27, true), (28, true), (29, true)] (by kernel_rfl) rfl ?_
   refine hwp_o rfl (hwq_yes rfl rfl (g_pt rfl rfl rfl (h_pt rfl rfl rfl rfl (h_as rfl rfl rfl (hwp_nilT ?_)))))
   refine x_nil (by kernel_rfl) ?_
   obtain rfl := sm hy27
   replace hB := (hB.st S24).st S77
   exact ⟨(), _, ⟨rfl, trivial⟩, hB⟩
  ·
   replace hy27 := im hy27 c30
   refine h_mv rfl rfl rfl (h_no rfl rfl rfl rfl rfl (h_no rfl rfl rfl rfl rfl (h_no rfl rfl rfl rfl rfl (h_no rfl rfl rfl rfl rfl (h_no rfl rfl rfl rfl rfl (h_no rfl rfl rfl rfl rfl (h_no rfl rfl rfl rfl rfl (h_no rfl rfl rfl rfl rfl (h_no rfl rfl rfl rfl rfl (h_no rfl rfl rfl rfl rfl (hwp_nilT ?_)))))))))))
   refine x_one (i := 14) (by kernel_rfl) rfl ?_
   refine owp_no rfl rfl rfl rfl (x_go [(26, [])] ((St.refl nT _ _).lst [] (fun _ h => h.elim)) (by kernel_rfl) ?_)
   refine x_pre (fuel := 4) [] [(15, true), (16, true), (17, true), (18, true), (19, true), (20, true), (21, true), (22, true), (23, true), (24, true), (25, true)] (by kernel_rfl) rfl ?_
   refine h_no rfl rfl rfl rfl rfl (h_no rfl rfl rfl rfl rfl (h_no rfl rfl rfl rfl rfl (h_no rfl rfl rfl rfl rfl (h_no rfl rfl rfl rfl rfl (h_no rfl rfl rfl rfl rfl (h_no rfl rfl rfl rfl rfl (h_no rfl rfl rfl rfl rfl (h_no rfl rfl rfl rfl rfl (h_no rfl rfl rfl rfl rfl (h_no rfl rfl rfl rfl rfl (hwp_nilT ?_)))))))))))
   refine x_one (i := 26) (by kernel_rfl) rfl ?_
   refine owp_no rfl rfl rfl rfl (x_go [] ((St.refl nT _ _).lst [] (fun _ h => h.elim)) (by kernel_rfl) ?_)
   refine x_pre (fuel := 0) [] [(27, true), (28, true), (29, true)] (by kernel_rfl) rfl ?_
   refine h_no rfl rfl rfl rfl rfl (h_pf rfl rfl rfl rfl (h_as rfl rfl rfl (hwp_nilT ?_)))
   refine x_nil (by kernel_rfl) ?_
   obtain rfl := sm hy27
   replace hB := hB.st S24
   exact ⟨(), _, ⟨rfl, trivial⟩, hB⟩
 replace hB := hB.st S24
 rintro l129 w130 ⟨x29, O131, hs132, hB⟩
 refine ewp_sub _ hs132 ?_
 refine ewp_ret ?_
 obtain rfl := sm hm
 exact ret1v rfl (res_tmp rfl) ⟨hB.ext, vBool⟩
noncomputable def m_stubborn_missing (x0 : List Fct) (x1 : List Int) : Option (Fct × Bool) :=
  bnd (rng (ρ := Fct × Bool) (fun (k18 : Nat) (a19 : Fct) (s16 : Unit) => bnd (atI x1 a19.var) fun a45 => if a45 ≠ a19.val then (some (.ret (a19, true))) else (some (.next ()))) x0 0 ()) fun res14 => fin res14 fun (s64 : Unit) => some ((⟨0, 0⟩ : Fct), false)
theorem c_stubborn_missing {w : World} {A : Nat → Prop} (hA : ∀ k, A k → k < w.heap.size) {vx0 : Value} {x0 : List Fct} (hx0 : Vb w A vx0 x0) {vx1 : Value} {x1 : List Int} (hx1 : Vb w A vx1 x1) {r : Fct × Bool} (hm : m_stubborn_missing x0 x1 = some r) :
    Fn Try.prog 53 [vx0, vx1] w fun v w' => Ext w w' ∧ T2 w' (upA A w w') v r := by
 obtain ⟨O, hB, hA0⟩ := enter hA
 replace hx0 := hx0.mono hA0
 obtain ⟨A3, c4, rfl⟩ := hx0.form
 replace hx1 := hx1.mono hA0
 obtain ⟨A5, c6, rfl⟩ := hx1.form
 refine fn_enter Try.func53 rfl Try.ntmps53 rfl ?_
 unfold m_stubborn_missing at hm
 refine ewp_seq (ewp_region (l_alloc 2 O rfl fun g7 w8 O9 S10 h11 => ?_))
 refine o_as rfl rfl (o_z ?_)
 refine ewp_seq (ewp_seq (ewp_region (o_mv rfl rfl (o_ln rfl rfl ?_))))
 replace hx0 := hx0.st S10
 have l13 : x0.length ≤ 9223372036854775807 := Nat.le_trans hx0.len.2.1 hx0.len.2.2
 have r12 : inI64 (x0.length : Int) := rngNat l13
 refine o_mv rfl rfl (o_z ?_)
 obtain ⟨res14, hL15, hm⟩ := bs hm
 refine ewp_join (aft res14 (fun (s16 : Unit) (x17 : Unit) => [(4, (.pointer (some ⟨g7, 0, none⟩)))]) (fun s16 x17 w' => ∃ O' : Lab, Bs w A w' O' ∧ Lc 2 w' O' g7 68 [(.int .i64 0), (.int .i64 0)])) ?_ ?_
 ·
  refine ewp_block ?_
  replace hB := hB.st S10
  replace hx1 := hx1.st S10
  refine ewp_rng (σ := Unit) (X := Unit) (x0.length) hL15 rfl l13 (fun (s16 : Unit) (x17 : Unit) => [(1, (.slice A5 x1.length c6)), (4, (.pointer (some ⟨g7, 0, none⟩))), (8, (.slice A3 x0.length c4))]) _ (fun s16 x17 w' => ∃ O' : Lab, Bs w A w' O' ∧ Vb w' (Fr 0 w' O') (.slice A5 x1.length c6) x1 ∧ Lc 2 w' O' g7 68 [(.int .i64 0), (.int .i64 0)] ∧ Vb w' (Fr 0 w' O') (.slice A3 x0.length c4) x0) _ () ⟨O9, hB, hx1, h11, hx0⟩ ⟨rfl, rfl, rfl, rfl, rfl, trivial⟩ (fun _ _ => ⟨rfl, rfl⟩) (fun _ _ => ⟨rfl, trivial⟩) (fun _ _ _ ⟨O', hB, hx1, h11, hx0⟩ => ⟨O', hB, h11⟩) ⟨rfl, rfl, rfl⟩ ⟨rfl, rfl⟩ ?_
  rintro k18 a19 s16 x17 w20 cc22 hx23 ⟨O21, hB, hx1, h11, hx0⟩ hf24 hret25 hbrk26
  have rk18 : inI64 (k18 : Int) := rngK hx23 l13
  refine ewp_seq (ewp_region ?_)
  obtain ⟨b29, o30, ce31, hA32, hl33, hd34, rfl, r36, r37⟩ := hx0.elem' hx23
  refine o_iaE (hA := hA32) (hj := rfl) (hlt := hl33) rfl rfl rfl ?_
  refine o_la (hl := rfl) (hc := hd34) rfl rfl ?_
  refine l_alloc 3 O21 rfl fun g38 w39 O40 S41 h42 => ?_
  refine l_store h42 rfl rfl rfl (Nat.le_of_ble_eq_true rfl) (by first | exact allOne rfl | simp [Value.cells, Value.oneCell', errV_one]) fun w43 S44 h42 => ?_
  replace h42 : Lc 3 w43 O40 g38 68 [(.int .i64 a19.var), (.int .i64 a19.val)] := h42
  refine o_z ?_
  refine ewp_seq (ewp_draw (· = w43) [(0, true), (1, true), (2, true), (3, true), (4, true), (5, true), (6, true), (7, true)] (by kernel_rfl) rfl (by kernel_rfl) rfl ?_)
  refine h_mv rfl rfl rfl (h_fa rfl rfl rfl (h_ldA (hc := Blk.cell (i := 0) (h42.1) rfl) rfl rfl rfl ?_))
  obtain ⟨a45, e46, hf24⟩ := bs hf24
  obtain ⟨p48, x47⟩ := atI_some' e46
  replace hx1 := (hx1.st S41).st S44
  obtain ⟨b49, o50, ce51, hA52, hl53, hd54, rfl, r56⟩ := hx1.elem' x47
  refine h_iaE (hA := hA52) (hj := (Int.toNat_of_nonneg p48).symm) (hlt := hl53) rfl rfl rfl rfl ?_
  refine h_ldA (hc := cat0 hd54) rfl rfl rfl ?_
  refine h_fa rfl rfl rfl (h_ldA (hc := Blk.cell (i := 1) (h42.1) rfl) rfl rfl rfl ?_)
  refine h_neS rfl rfl rfl rfl (fun c57 => ?_) fun c57 => ?_
  ·
   replace hf24 := ip hf24 c57
   refine h_z ?_
   refine ewp_true rfl (ewp_seq (ewp_region (o_la (hl := rfl) (hc := (h42.1).cellsAt) rfl rfl ?_)))
   replace h11 := (h11.st S41).st S44
   refine l_store h11 rfl rfl rfl (Nat.le_of_ble_eq_true rfl) (by first | exact allOne rfl | simp [Value.cells, Value.oneCell', errV_one]) fun w58 S59 h11 => ?_
   replace h11 : Lc 2 w58 O40 g7 68 [(.int .i64 a19.var), (.int .i64 a19.val)] := h11
   refine o_as rfl rfl (o_z ?_)
   refine ewp_ret ?_
   obtain rfl := sm hf24
   obtain rfl := hret25 _ rfl
   obtain rfl := sm (fin_ret hm)
   replace hB := ((hB.st S41).st S44).st S59
   exact ret2 rfl (res_cell (cs := [(.int .i64 a19.var), (.int .i64 a19.val)]) rfl rfl h11.1.cellsAt) (res_tmp rfl) ⟨hB.ext, _, _, rfl, (Vb.ofAgg (cs := [(.int .i64 a19.var), (.int .i64 a19.val)]) (x := a19) rfl ⟨rfl, r36, r37⟩), vBool⟩
  ·
   replace hf24 := im hf24 c57
   refine h_z ?_
   refine ewp_false rfl (ewp_skip ?_)
   obtain rfl := sm hf24
   refine (?_ : Exists _)
   replace hx0 := (hx0.st S41).st S44
   replace hB := (hB.st S41).st S44
   replace h11 := (h11.st S41).st S44
   exact ⟨_, (), rfl, ⟨rfl, rfl, rfl, rfl, rfl, trivial⟩, _, hB, hx1, h11, hx0⟩
 replace hB := hB.st S10
 rintro l60 w61 ⟨s64, x65, rfl, hs63, O62, hB, h11⟩
 replace hm := fin_done hm
 refine ewp_sub _ hs63 ?_
 refine ewp_seq (ewp_region (o_bd rfl rfl rfl ?_))
 refine l_store h11 rfl rfl rfl (Nat.le_of_ble_eq_true rfl) (by first | exact allOne rfl | simp [Value.cells, Value.oneCell', errV_one]) fun w66 S67 h11 => ?_
 replace h11 : Lc 2 w66 O62 g7 68 [(.int .i64 0), (.int .i64 0)] := h11
 refine o_as rfl rfl (o_z ?_)
 refine ewp_ret ?_
 obtain rfl := sm hm
 replace hB := hB.st S67
 exact ret2 rfl (res_cell (cs := [(.int .i64 0), (.int .i64 0)]) rfl rfl h11.1.cellsAt) (res_tmp rfl) ⟨hB.ext, _, _, rfl, (Vb.ofAgg (cs := [(.int .i64 0), (.int .i64 0)]) (x := (⟨0, 0⟩ : Fct)) rfl ⟨rfl, (show inI64 0 from by decide), (show inI64 0 from by decide)⟩), vBool⟩
noncomputable def m_stubborn_writers_l1 (x0 : Eff) (y0 : Fct) : Option Bool :=
  bnd (if x0.var = y0.var then (if x0.val = y0.val then (some true) else (some false)) else (some false) : Option Bool) fun y16 => some y16
theorem c_stubborn_writers_l1 {w : World} {A : Nat → Prop} (hA : ∀ k, A k → k < w.heap.size) {vx0 : Value} {x0 : Eff} (hx0 : Vb w A vx0 x0) {py0 : Nat} {csy0 : List Value} {y0 : Fct} (hby0 : Blk w py0 68 csy0) (hay0 : A py0) (hcy0 : Rp.R w A csy0 y0) {r : Bool} (hm : m_stubborn_writers_l1 x0 y0 = some r) :
    Fn Try.prog 71 [vx0, (.pointer (some ⟨py0, 0, none⟩))] w fun v w' => Ext w w' ∧ Vb w' (upA A w w') v r := by
 obtain ⟨O, hB, hA0⟩ := enter hA
 have hLy0 : Lc 0 w O py0 68 csy0 := ⟨hby0, (hA0 py0 hay0).2⟩
 replace hcy0 := Rp.mono hcy0 hA0
 obtain ⟨rfl, r2, r3⟩ := hcy0
 replace hx0 := hx0.mono hA0
 obtain ⟨cs4, rfl, v5, rfl, h6, r9, r10⟩ := hx0
 obtain ⟨A7, c8, rfl⟩ := h6.form
 refine fn_enter Try.func71 rfl Try.ntmps71 rfl ?_
 unfold m_stubborn_writers_l1 at hm
 refine ewp_seq (ewp_region (l_box 2 O rfl rfl fun g11 w12 O13 S14 h15 => ?_))
 replace h15 : Lc 2 w12 O13 g11 77 [(.slice A7 x0.cond.length c8), (.int .i64 x0.var), (.int .i64 x0.val)] := h15
 refine o_as rfl rfl (o_z ?_)
 refine ewp_seq ?_
 obtain ⟨y16, hy17, hm⟩ := bs hm
 refine ewp_join (fun l' w' => ∃ (x19 : Unit) (O' : Lab), subs l' [(3, (.bool y16))] ∧ Bs w A w' O') ?_ ?_
 ·
  refine ewp_region (o_fa rfl rfl (o_ld (hc := Blk.cell (i := 1) (h15.1) rfl) rfl rfl ?_))
  refine o_fa rfl rfl ?_
  replace hLy0 := hLy0.st S14
  refine o_ld (hc := Blk.cell (i := 0) (hLy0.1) rfl) rfl rfl ?_
  refine o_eeS rfl rfl rfl (fun c20 => ?_) fun c20 => ?_
  ·
   replace hy17 := ip hy17 c20
   refine o_mv rfl rfl (owp_yes rfl rfl (o_fa rfl rfl (owp_yes rfl rfl (o_ld (hc := Blk.cell (i := 2) (h15.1) rfl) rfl rfl ?_))))
   refine owp_yes rfl rfl (o_fa rfl rfl (owp_yes rfl rfl (o_ld (hc := Blk.cell (i := 1) (hLy0.1) rfl) rfl rfl ?_)))
   refine owp_yes rfl rfl (o_eeS rfl rfl rfl (fun c21 => ?_) fun c21 => ?_)
   ·
    replace hy17 := ip hy17 c21
    refine o_pt rfl rfl rfl (o_as rfl rfl (o_z ?_))
    obtain rfl := sm hy17
    replace hB := hB.st S14
    exact ⟨(), _, ⟨rfl, trivial⟩, hB⟩
   ·
    replace hy17 := im hy17 c21
    refine o_pt rfl rfl rfl (o_as rfl rfl (o_z ?_))
    obtain rfl := sm hy17
    replace hB := hB.st S14
    exact ⟨(), _, ⟨rfl, trivial⟩, hB⟩
  ·
   replace hy17 := im hy17 c20
   refine o_mv rfl rfl (owp_no rfl rfl rfl rfl (owp_no rfl rfl rfl rfl (owp_no rfl rfl rfl rfl (owp_no rfl rfl rfl rfl (owp_no rfl rfl rfl rfl (o_pf rfl rfl rfl (o_as rfl rfl (o_z ?_))))))))
   obtain rfl := sm hy17
   replace hB := hB.st S14
   exact ⟨(), _, ⟨rfl, trivial⟩, hB⟩
 replace hB := hB.st S14
 rintro l22 w23 ⟨x19, O24, hs25, hB⟩
 refine ewp_sub _ hs25 ?_
 refine ewp_ret ?_
 obtain rfl := sm hm
 exact ret1v rfl (res_tmp rfl) ⟨hB.ext, vBool⟩
noncomputable def m_slices_IndexFunc_Lapi_Effect_api_Effect__stubborn_writers_l1 (x0 : List Eff) (y0 : Fct) : Option Int :=
  bnd (rng (ρ := Int) (fun (k13 : Nat) (a14 : Eff) (s11 : Unit) => bnd (m_stubborn_writers_l1 a14 y0) fun q37 => if q37 = true then some (.ret (k13 : Int)) else some (.next ())) x0 0 ()) fun res9 => fin res9 fun (s48 : Unit) => some (-1)
theorem c_slices_IndexFunc_Lapi_Effect_api_Effect__stubborn_writers_l1 {w : World} {A : Nat → Prop} (hA : ∀ k, A k → k < w.heap.size) {vx0 : Value} {x0 : List Eff} (hx0 : Vb w A vx0 x0) {py0 : Nat} {csy0 : List Value} {y0 : Fct} (hby0 : Blk w py0 68 csy0) (hay0 : A py0) (hcy0 : Rp.R w A csy0 y0) {r : Int} (hm : m_slices_IndexFunc_Lapi_Effect_api_Effect__stubborn_writers_l1 x0 y0 = some r) :
    Fn Try.prog 84 [vx0, (.func (.func 71) #[] #[(.pointer (some ⟨py0, 0, none⟩))])] w fun v w' => Ext w w' ∧ Vb w' (upA A w w') v r := by
 obtain ⟨O, hB, hA0⟩ := enter hA
 have hLy0 : Lc 0 w O py0 68 csy0 := ⟨hby0, (hA0 py0 hay0).2⟩
 replace hcy0 := Rp.mono hcy0 hA0
 obtain ⟨rfl, r3, r4⟩ := hcy0
 replace hx0 := hx0.mono hA0
 obtain ⟨A5, c6, rfl⟩ := hx0.form
 refine fn_enter Try.func84 rfl Try.ntmps84 rfl ?_
 unfold m_slices_IndexFunc_Lapi_Effect_api_Effect__stubborn_writers_l1 at hm
 refine ewp_seq (ewp_region (o_as rfl rfl (o_z ?_)))
 refine ewp_seq (ewp_seq (ewp_region (o_mv rfl rfl (o_ln rfl rfl ?_))))
 have l8 : x0.length ≤ 9223372036854775807 := Nat.le_trans hx0.len.2.1 hx0.len.2.2
 have r7 : inI64 (x0.length : Int) := rngNat l8
 refine o_mv rfl rfl (o_z ?_)
 obtain ⟨res9, hL10, hm⟩ := bs hm
 refine ewp_join (aft res9 (fun (s11 : Unit) (x12 : Unit) => []) (fun s11 x12 w' => ∃ O' : Lab, Bs w A w' O')) ?_ ?_
 ·
  refine ewp_block (ewp_rng (σ := Unit) (X := Unit) (x0.length) hL10 rfl l8 (fun (s11 : Unit) (x12 : Unit) => [(0, (.slice A5 x0.length c6)), (1, (.func (.func 71) #[] #[(.pointer (some ⟨py0, 0, none⟩))]))]) _ (fun s11 x12 w' => ∃ O' : Lab, Bs w A w' O' ∧ Vb w' (Fr 0 w' O') (.slice A5 x0.length c6) x0 ∧ Lc 0 w' O' py0 68 [(.int .i64 y0.var), (.int .i64 y0.val)]) _ () ⟨O, hB, hx0, hLy0⟩ ⟨rfl, rfl, rfl, rfl, trivial⟩ (fun _ _ => ⟨rfl, rfl⟩) (fun _ _ => trivial) (fun _ _ _ ⟨O', hB, hx0, hLy0⟩ => ⟨O', hB⟩) ⟨rfl, rfl, rfl⟩ ⟨rfl, rfl⟩ ?_)
  rintro k13 a14 s11 x12 w15 cc17 hx18 ⟨O16, hB, hx0, hLy0⟩ hf19 hret20 hbrk21
  have rk13 : inI64 (k13 : Int) := rngK hx18 l8
  refine ewp_seq (ewp_region (o_mv rfl rfl (o_as rfl rfl (o_z ?_))))
  refine ewp_seq (ewp_region (o_mv rfl rfl (o_mv rfl rfl (o_mv rfl rfl ?_))))
  obtain ⟨b24, o25, ce26, hA27, hl28, hd29, v31, rfl, h32, r35, r36⟩ := hx0.elem' hx18
  obtain ⟨A33, c34, rfl⟩ := h32.form
  refine o_iaE (hA := hA27) (hj := rfl) (hlt := hl28) rfl rfl rfl ?_
  refine o_la (hl := rfl) (hc := hd29) rfl rfl ?_
  obtain ⟨q37, e38, hf19⟩ := bs hf19
  refine l_callAw (O := O16) (A := All w15) (R := fun w' F v => Vb w' F v q37) (c_stubborn_writers_l1 (fun _ h => h) (Vb.mono (F := Fr 0 w15 O16) (Vb.ofAgg (cs := [(.slice A33 a14.cond.length c34), (.int .i64 a14.var), (.int .i64 a14.val)]) (x := a14) rfl ⟨_, rfl, h32, r35, r36⟩) Fr.lt) hLy0.1 hLy0.1.lt (Rp.mono (F := Fr 0 w15 O16) (x := y0) ⟨rfl, r3, r4⟩ Fr.lt) e38) rfl rfl rfl rfl fun v43 w39 O40 S41 h42 => ?_
  obtain rfl := h42.bool
  cases q37
  case false =>
   replace hf19 := iF hf19
   refine o_z ?_
   refine ewp_false rfl (ewp_skip ?_)
   obtain rfl := sm hf19
   refine (?_ : Exists _)
   replace hx0 := hx0.st S41
   replace hB := hB.st S41
   replace hLy0 := hLy0.st S41
   exact ⟨_, (), rfl, ⟨rfl, rfl, rfl, rfl, trivial⟩, _, hB, hx0, hLy0⟩
  replace hf19 := iT hf19
  refine o_z ?_
  refine ewp_true rfl (ewp_seq (ewp_region (o_mv rfl rfl (o_as rfl rfl (o_z ?_)))))
  refine ewp_ret ?_
  obtain rfl := sm hf19
  obtain rfl := hret20 _ rfl
  obtain rfl := sm (fin_ret hm)
  replace hB := hB.st S41
  exact ret1v rfl (res_tmp rfl) ⟨hB.ext, (vInt rk13)⟩
 rintro l44 w45 ⟨s48, x49, rfl, hs47, O46, hB⟩
 replace hm := fin_done hm
 refine ewp_sub _ hs47 ?_
 refine ewp_seq (ewp_region (o_as rfl rfl (o_z ?_)))
 refine ewp_ret ?_
 obtain rfl := sm hm
 exact ret1v rfl (res_tmp rfl) ⟨hB.ext, (vInt (show inI64 (-1) from by decide))⟩
noncomputable def m_slices_ContainsFunc_Lapi_Effect_api_Effect__stubborn_writers_l1 (x0 : List Eff) (y0 : Fct) : Option Bool :=
  bnd (bnd (m_slices_IndexFunc_Lapi_Effect_api_Effect__stubborn_writers_l1 x0 y0) fun q11 => if 0 ≤ q11 then (some true) else (some false) : Option Bool) fun y7 => some y7
theorem c_slices_ContainsFunc_Lapi_Effect_api_Effect__stubborn_writers_l1 {w : World} {A : Nat → Prop} (hA : ∀ k, A k → k < w.heap.size) {vx0 : Value} {x0 : List Eff} (hx0 : Vb w A vx0 x0) {py0 : Nat} {csy0 : List Value} {y0 : Fct} (hby0 : Blk w py0 68 csy0) (hay0 : A py0) (hcy0 : Rp.R w A csy0 y0) {r : Bool} (hm : m_slices_ContainsFunc_Lapi_Effect_api_Effect__stubborn_writers_l1 x0 y0 = some r) :
    Fn Try.prog 70 [vx0, (.func (.func 71) #[] #[(.pointer (some ⟨py0, 0, none⟩))])] w fun v w' => Ext w w' ∧ Vb w' (upA A w w') v r := by
 obtain ⟨O, hB, hA0⟩ := enter hA
 have hLy0 : Lc 0 w O py0 68 csy0 := ⟨hby0, (hA0 py0 hay0).2⟩
 replace hcy0 := Rp.mono hcy0 hA0
 obtain ⟨rfl, r3, r4⟩ := hcy0
 replace hx0 := hx0.mono hA0
 obtain ⟨A5, c6, rfl⟩ := hx0.form
 refine fn_enter Try.func70 rfl Try.ntmps70 rfl ?_
 unfold m_slices_ContainsFunc_Lapi_Effect_api_Effect__stubborn_writers_l1 at hm
 refine ewp_seq (ewp_region (o_as rfl rfl (o_z ?_)))
 refine ewp_seq ?_
 obtain ⟨y7, hy8, hm⟩ := bs hm
 refine ewp_join (fun l' w' => ∃ (x10 : Unit) (O' : Lab), subs l' [(4, (.bool y7))] ∧ Bs w A w' O') ?_ ?_
 ·
  refine ewp_region (o_mv rfl rfl (o_mv rfl rfl ?_))
  obtain ⟨q11, e12, hy8⟩ := bs hy8
  refine l_callA (O := O) (A := All w) (R := fun w' F v => Vb w' F v q11) (c_slices_IndexFunc_Lapi_Effect_api_Effect__stubborn_writers_l1 (fun _ h => h) (Vb.mono (F := Fr 0 w O) hx0 Fr.lt) hLy0.1 hLy0.1.lt (Rp.mono (F := Fr 0 w O) (x := y0) ⟨rfl, r3, r4⟩ Fr.lt) e12) rfl rfl fun v17 w13 O14 S15 h16 => ?_
  obtain ⟨rfl, r18⟩ := h16.int
  refine o_geS rfl rfl rfl (fun c19 => ?_) fun c19 => ?_
  ·
   replace hy8 := ip hy8 c19
   refine o_as rfl rfl (o_z ?_)
   obtain rfl := sm hy8
   replace hB := hB.st S15
   exact ⟨(), _, ⟨rfl, trivial⟩, hB⟩
  ·
   replace hy8 := im hy8 c19
   refine o_as rfl rfl (o_z ?_)
   obtain rfl := sm hy8
   replace hB := hB.st S15
   exact ⟨(), _, ⟨rfl, trivial⟩, hB⟩
 rintro l20 w21 ⟨x10, O22, hs23, hB⟩
 refine ewp_sub _ hs23 ?_
 refine ewp_ret ?_
 obtain rfl := sm hm
 exact ret1v rfl (res_tmp rfl) ⟨hB.ext, vBool⟩
noncomputable def m_stubborn_writers (x0 : Tsk) (x1 : Fct) : Option (List Int) :=
  bnd (rng (ρ := (List Int)) (fun (k39 : Nat) (a40 : Opr) (s37 : (List Int)) => bnd (m_slices_ContainsFunc_Lapi_Effect_api_Effect__stubborn_writers_l1 a40.effs x1) fun q78 => if q78 = true then bnd (appI 8 s37 [(k39 : Int)]) fun u85 => some (.next u85) else some (.next s37)) x0.ops 0 ([] : List Int)) fun res35 => fin res35 fun (s101 : (List Int)) => some s101
theorem c_stubborn_writers {w : World} {A : Nat → Prop} (hA : ∀ k, A k → k < w.heap.size) {vx0 : Value} {x0 : Tsk} (hx0 : Vb w A vx0 x0) {vx1 : Value} {x1 : Fct} (hx1 : Vb w A vx1 x1) {r : (List Int)} (hm : m_stubborn_writers x0 x1 = some r) :
    Fn Try.prog 54 [vx0, vx1] w fun v w' => Ext w w' ∧ Vb w' (upA A w w') v r := by
 obtain ⟨O, hB, hA0⟩ := enter hA
 replace hx0 := hx0.mono hA0
 obtain ⟨cs3, rfl, v4, v5, v6, v7, rfl, h8, h11, h14, h17⟩ := hx0
 obtain ⟨A9, c10, rfl⟩ := h8.form
 obtain ⟨A12, c13, rfl⟩ := h11.form
 obtain ⟨A15, c16, rfl⟩ := h14.form
 obtain ⟨A18, c19, rfl⟩ := h17.form
 replace hx1 := hx1.mono hA0
 obtain ⟨cs20, rfl, rfl, r21, r22⟩ := hx1
 refine fn_enter Try.func54 rfl Try.ntmps54 rfl ?_
 unfold m_stubborn_writers at hm
 refine ewp_seq (ewp_region (l_box 2 O rfl rfl fun g23 w24 O25 S26 h27 => ?_))
 replace h27 : Lc 2 w24 O25 g23 26 [(.slice A9 x0.vars.length c10), (.slice A12 x0.init.length c13), (.slice A15 x0.goal.length c16), (.slice A18 x0.ops.length c19)] := h27
 refine l_box 3 O25 rfl rfl fun g28 w29 O30 S31 h32 => ?_
 replace h32 : Lc 3 w29 O30 g28 68 [(.int .i64 x1.var), (.int .i64 x1.val)] := h32
 refine o_as rfl rfl (o_z ?_)
 refine ewp_seq (ewp_region (o_as rfl rfl (o_z ?_)))
 refine ewp_seq (ewp_seq (ewp_region (o_fa rfl rfl ?_)))
 replace h27 := h27.st S31
 refine o_ld (hc := Blk.cell (i := 3) (h27.1) rfl) rfl rfl ?_
 refine o_ln rfl rfl ?_
 replace h17 := (h17.st S26).st S31
 have l34 : x0.ops.length ≤ 9223372036854775807 := Nat.le_trans h17.len.2.1 h17.len.2.2
 have r33 : inI64 (x0.ops.length : Int) := rngNat l34
 refine o_mv rfl rfl (o_z ?_)
 obtain ⟨res35, hL36, hm⟩ := bs hm
 refine ewp_join (aft res35 (fun (s37 : (List Int)) (x38 : (Option Addr × Nat)) => [(5, (.slice x38.1 s37.length x38.2))]) (fun s37 x38 w' => ∃ O' : Lab, Bs w A w' O' ∧ Rw 5 w' O' 3 (.slice x38.1 s37.length x38.2) s37)) ?_ ?_
 ·
  refine ewp_block ?_
  replace hB := (hB.st S26).st S31
  refine ewp_rng (σ := (List Int)) (X := (Option Addr × Nat)) (x0.ops.length) hL36 rfl l34 (fun (s37 : (List Int)) (x38 : (Option Addr × Nat)) => [(3, (.pointer (some ⟨g28, 0, none⟩))), (5, (.slice x38.1 s37.length x38.2)), (9, (.slice A18 x0.ops.length c19))]) _ (fun s37 x38 w' => ∃ O' : Lab, Bs w A w' O' ∧ Lc 3 w' O' g28 68 [(.int .i64 x1.var), (.int .i64 x1.val)] ∧ Rw 5 w' O' 3 (.slice x38.1 s37.length x38.2) s37 ∧ Vb w' (Fr 0 w' O') (.slice A18 x0.ops.length c19) x0.ops) _ (none, 0) ⟨O30, hB, h32, (Rw.nil 5 (by decide)), h17⟩ ⟨rfl, rfl, rfl, rfl, rfl, trivial⟩ (fun _ _ => ⟨rfl, rfl⟩) (fun _ _ => ⟨rfl, trivial⟩) (fun _ _ _ ⟨O', hB, h32, h52, h17⟩ => ⟨O', hB, h52⟩) ⟨rfl, rfl, rfl⟩ ⟨rfl, rfl⟩ ?_
  rintro k39 a40 s37 x38 w41 cc43 hx44 ⟨O42, hB, h32, h52, h17⟩ hf45 hret46 hbrk47
  have rk39 : inI64 (k39 : Int) := rngK hx44 l34
  refine ewp_seq (ewp_region (o_mv rfl rfl ?_))
  obtain ⟨b54, o55, ce56, hA57, hl58, hd59, v61, v62, rfl, h63, h66, r69, z70⟩ := h17.elem' hx44
  obtain ⟨A64, c65, rfl⟩ := h63.form
  obtain ⟨A67, c68, rfl⟩ := h66.form
  refine o_iaE (hA := hA57) (hj := rfl) (hlt := hl58) rfl rfl rfl ?_
  refine o_la (hl := rfl) (hc := hd59) rfl rfl ?_
  refine l_alloc 4 O42 rfl fun g71 w72 O73 S74 h75 => ?_
  refine o_as rfl rfl (l_store h75 rfl rfl rfl (Nat.le_of_ble_eq_true rfl) (by first | exact allOne rfl | simp [Value.cells, Value.oneCell', errV_one]) fun w76 S77 h75 => ?_)
  replace h75 : Lc 4 w76 O73 g71 48 [(.string a40.name), (.int .i64 a40.cost), (.slice A64 a40.pre.length c65), (.slice A67 a40.effs.length c68)] := h75
  refine o_z ?_
  refine ewp_seq (ewp_region (o_fa rfl rfl (o_ld (hc := Blk.cell (i := 3) (h75.1) rfl) rfl rfl ?_)))
  refine o_mf rfl rfl rfl ?_
  obtain ⟨q78, e79, hf45⟩ := bs hf45
  replace h32 := (h32.st S74).st S77
  replace h66 := (h66.st S74).st S77
  refine l_callA (O := O73) (A := All w76) (R := fun w' F v => Vb w' F v q78) (c_slices_ContainsFunc_Lapi_Effect_api_Effect__stubborn_writers_l1 (fun _ h => h) (Vb.mono (F := Fr 0 w76 O73) h66 Fr.lt) h32.1 h32.1.lt (Rp.mono (F := Fr 0 w76 O73) (x := x1) ⟨rfl, r21, r22⟩ Fr.lt) e79) rfl rfl fun v84 w80 O81 S82 h83 => ?_
  obtain rfl := h83.bool
  cases q78
  case false =>
   replace hf45 := iF hf45
   refine o_z ?_
   refine ewp_false rfl (ewp_skip ?_)
   obtain rfl := sm hf45
   refine (?_ : Exists _)
   replace hB := ((hB.st S74).st S77).st S82
   replace h17 := ((h17.st S74).st S77).st S82
   replace h32 := h32.st S82
   replace h52 := ((h52.st S74).st S77).st S82
   exact ⟨_, (x38.1, x38.2), rfl, ⟨rfl, rfl, rfl, rfl, rfl, trivial⟩, _, hB, h32, h52, h17⟩
  replace hf45 := iT hf45
  refine o_z ?_
  refine ewp_true rfl (ewp_region (o_mv rfl rfl (o_mv rfl rfl ?_)))
  obtain ⟨u85, e86, hf45⟩ := bs hf45
  obtain ⟨e86, e87, e88⟩ := appI_some e86
  replace h52 := ((h52.st S74).st S77).st S82
  refine l_append1 rfl (a := (k39 : Int)) h52 (vInt rk39) (fun _ => rfl) rfl (by decide) (by decide) e87 e88 ⟨rfl, rfl⟩ fun g89 A90 c91 w92 O93 S94 h95 => ?_
  rw [← e86] at h95 ⊢
  refine o_as rfl rfl (o_z ?_)
  obtain rfl := sm hf45
  refine (?_ : Exists _)
  replace hB := (((hB.st S74).st S77).st S82).st S94
  replace h17 := (((h17.st S74).st S77).st S82).st S94
  replace h32 := (h32.st S82).st S94
  exact ⟨_, (A90, c91), rfl, ⟨rfl, rfl, rfl, rfl, rfl, trivial⟩, _, hB, h32, h95, h17⟩
 replace hB := (hB.st S26).st S31
 rintro l97 w98 ⟨s101, x102, rfl, hs100, O99, hB, h52⟩
 replace hm := fin_done hm
 refine ewp_sub _ hs100 ?_
 refine ewp_seq (ewp_region (o_mv rfl rfl (o_as rfl rfl (o_z ?_))))
 refine ewp_ret ?_
 obtain ⟨O103, S104, h52⟩ := h52.freeze
 obtain rfl := sm hm
 replace hB := hB.st S104
 exact ret1v rfl (res_tmp rfl) ⟨hB.ext, (Vb.mono (F := Fr 0 w98 O103) h52 hB.out)⟩
noncomputable def m_stubborn_meets (x0 : Tsk) (x1 : Int) : Option (List Int) :=
  bnd (rng (ρ := (List Int)) (fun (k31 : Nat) (a32 : Opr) (s29 : (List Int)) => bnd (m_stubborn_interfere x0 x1 (k31 : Int)) fun q46 => if q46 = true then bnd (appI 8 s29 [(k31 : Int)]) fun u53 => some (.next u53) else some (.next s29)) x0.ops 0 ([] : List Int)) fun res27 => fin res27 fun (s69 : (List Int)) => some s69
theorem c_stubborn_meets {w : World} {A : Nat → Prop} (hA : ∀ k, A k → k < w.heap.size) {vx0 : Value} {x0 : Tsk} (hx0 : Vb w A vx0 x0) {x1 : Int} (rx1 : inI64 x1) {r : (List Int)} (hm : m_stubborn_meets x0 x1 = some r) :
    Fn Try.prog 55 [vx0, (.int .i64 x1)] w fun v w' => Ext w w' ∧ Vb w' (upA A w w') v r := by
 obtain ⟨O, hB, hA0⟩ := enter hA
 replace hx0 := hx0.mono hA0
 obtain ⟨cs3, rfl, v4, v5, v6, v7, rfl, h8, h11, h14, h17⟩ := hx0
 obtain ⟨A9, c10, rfl⟩ := h8.form
 obtain ⟨A12, c13, rfl⟩ := h11.form
 obtain ⟨A15, c16, rfl⟩ := h14.form
 obtain ⟨A18, c19, rfl⟩ := h17.form
 refine fn_enter Try.func55 rfl Try.ntmps55 rfl ?_
 unfold m_stubborn_meets at hm
 refine ewp_seq (ewp_region (l_box 2 O rfl rfl fun g20 w21 O22 S23 h24 => ?_))
 replace h24 : Lc 2 w21 O22 g20 26 [(.slice A9 x0.vars.length c10), (.slice A12 x0.init.length c13), (.slice A15 x0.goal.length c16), (.slice A18 x0.ops.length c19)] := h24
 refine o_as rfl rfl (o_z ?_)
 refine ewp_seq (ewp_region (o_as rfl rfl (o_z ?_)))
 refine ewp_seq (ewp_seq (ewp_region (o_fa rfl rfl (o_ld (hc := Blk.cell (i := 3) (h24.1) rfl) rfl rfl ?_))))
 refine o_ln rfl rfl ?_
 replace h17 := h17.st S23
 have l26 : x0.ops.length ≤ 9223372036854775807 := Nat.le_trans h17.len.2.1 h17.len.2.2
 have r25 : inI64 (x0.ops.length : Int) := rngNat l26
 refine o_mv rfl rfl (o_z ?_)
 obtain ⟨res27, hL28, hm⟩ := bs hm
 refine ewp_join (aft res27 (fun (s29 : (List Int)) (x30 : (Option Addr × Nat)) => [(5, (.slice x30.1 s29.length x30.2))]) (fun s29 x30 w' => ∃ O' : Lab, Bs w A w' O' ∧ Rw 3 w' O' 3 (.slice x30.1 s29.length x30.2) s29)) ?_ ?_
 ·
  refine ewp_block ?_
  replace hB := hB.st S23
  replace h8 := h8.st S23
  replace h11 := h11.st S23
  replace h14 := h14.st S23
  refine ewp_rng (σ := (List Int)) (X := (Option Addr × Nat)) (x0.ops.length) hL28 rfl l26 (fun (s29 : (List Int)) (x30 : (Option Addr × Nat)) => [(1, (.int .i64 x1)), (2, (.pointer (some ⟨g20, 0, none⟩))), (5, (.slice x30.1 s29.length x30.2))]) _ (fun s29 x30 w' => ∃ O' : Lab, Bs w A w' O' ∧ Lc 2 w' O' g20 26 [(.slice A9 x0.vars.length c10), (.slice A12 x0.init.length c13), (.slice A15 x0.goal.length c16), (.slice A18 x0.ops.length c19)] ∧ Vb w' (Fr 0 w' O') (.slice A9 x0.vars.length c10) x0.vars ∧ Vb w' (Fr 0 w' O') (.slice A12 x0.init.length c13) x0.init ∧ Vb w' (Fr 0 w' O') (.slice A15 x0.goal.length c16) x0.goal ∧ Vb w' (Fr 0 w' O') (.slice A18 x0.ops.length c19) x0.ops ∧ Rw 3 w' O' 3 (.slice x30.1 s29.length x30.2) s29) _ (none, 0) ⟨O22, hB, h24, h8, h11, h14, h17, (Rw.nil 3 (by decide))⟩ ⟨rfl, rfl, rfl, rfl, rfl, trivial⟩ (fun _ _ => ⟨rfl, rfl⟩) (fun _ _ => ⟨rfl, trivial⟩) (fun _ _ _ ⟨O', hB, h24, h8, h11, h14, h17, h44⟩ => ⟨O', hB, h44⟩) ⟨rfl, rfl, rfl⟩ ⟨rfl, rfl⟩ ?_
  rintro k31 a32 s29 x30 w33 cc35 hx36 ⟨O34, hB, h24, h8, h11, h14, h17, h44⟩ hf37 hret38 hbrk39
  have rk31 : inI64 (k31 : Int) := rngK hx36 l26
  refine ewp_seq (ewp_region (o_mv rfl rfl (o_as rfl rfl (o_z ?_))))
  refine ewp_seq (ewp_region (o_la (hl := rfl) (hc := (h24.1).cellsAt) rfl rfl ?_))
  refine o_mv rfl rfl (o_mv rfl rfl ?_)
  obtain ⟨q46, e47, hf37⟩ := bs hf37
  refine l_callA (O := O34) (A := All w33) (R := fun w' F v => Vb w' F v q46) (c_stubborn_interfere (fun _ h => h) (Vb.mono (F := Fr 0 w33 O34) (Vb.ofAgg (cs := [(.slice A9 x0.vars.length c10), (.slice A12 x0.init.length c13), (.slice A15 x0.goal.length c16), (.slice A18 x0.ops.length c19)]) (x := x0) rfl ⟨_, _, _, _, rfl, h8, h11, h14, h17⟩) Fr.lt) rx1 rk31 e47) rfl rfl fun v52 w48 O49 S50 h51 => ?_
  obtain rfl := h51.bool
  cases q46
  case false =>
   replace hf37 := iF hf37
   refine o_z ?_
   refine ewp_false rfl (ewp_skip ?_)
   obtain rfl := sm hf37
   refine (?_ : Exists _)
   replace hB := hB.st S50
   replace h8 := h8.st S50
   replace h11 := h11.st S50
   replace h14 := h14.st S50
   replace h17 := h17.st S50
   replace h24 := h24.st S50
   replace h44 := h44.st S50
   exact ⟨_, (x30.1, x30.2), rfl, ⟨rfl, rfl, rfl, rfl, rfl, trivial⟩, _, hB, h24, h8, h11, h14, h17, h44⟩
  replace hf37 := iT hf37
  refine o_z ?_
  refine ewp_true rfl (ewp_region (o_mv rfl rfl (o_mv rfl rfl ?_)))
  obtain ⟨u53, e54, hf37⟩ := bs hf37
  obtain ⟨e54, e55, e56⟩ := appI_some e54
  replace h44 := h44.st S50
  refine l_append1 rfl (a := (k31 : Int)) h44 (vInt rk31) (fun _ => rfl) rfl (by decide) (by decide) e55 e56 ⟨rfl, rfl⟩ fun g57 A58 c59 w60 O61 S62 h63 => ?_
  rw [← e54] at h63 ⊢
  refine o_as rfl rfl (o_z ?_)
  obtain rfl := sm hf37
  refine (?_ : Exists _)
  replace hB := (hB.st S50).st S62
  replace h8 := (h8.st S50).st S62
  replace h11 := (h11.st S50).st S62
  replace h14 := (h14.st S50).st S62
  replace h17 := (h17.st S50).st S62
  replace h24 := (h24.st S50).st S62
  exact ⟨_, (A58, c59), rfl, ⟨rfl, rfl, rfl, rfl, rfl, trivial⟩, _, hB, h24, h8, h11, h14, h17, h63⟩
 replace hB := hB.st S23
 rintro l65 w66 ⟨s69, x70, rfl, hs68, O67, hB, h44⟩
 replace hm := fin_done hm
 refine ewp_sub _ hs68 ?_
 refine ewp_seq (ewp_region (o_mv rfl rfl (o_as rfl rfl (o_z ?_))))
 refine ewp_ret ?_
 obtain ⟨O71, S72, h44⟩ := h44.freeze
 obtain rfl := sm hm
 replace hB := hB.st S72
 exact ret1v rfl (res_tmp rfl) ⟨hB.ext, (Vb.mono (F := Fr 0 w66 O71) h44 hB.out)⟩
noncomputable def m_stubborn_set_l1 (x0 : List Int) (x1 : BxR 55 4 Bool) (x2 : BxR 22 3 Int) : Option ((BxR 55 4 Bool) × (BxR 22 3 Int)) :=
  bnd (rng (ρ := (BxR 55 4 Bool) × (BxR 22 3 Int)) (fun (k10 : Nat) (a11 : Int) (s8 : (BxR 55 4 Bool) × (BxR 22 3 Int)) => bnd (atI s8.1.l a11) fun a42 => if (!a42) = true then (bnd (atI s8.1.l a11) fun a54 => bnd (appI 8 s8.2.l [a11]) fun u76 => some (.next ((⟨(s8.1.l.set (a11 : Int).toNat true)⟩ : BxR 55 4 Bool), (⟨u76⟩ : BxR 22 3 Int)))) else (some (.next (s8.1, s8.2)))) x0 0 (x1, x2)) fun res6 => fin res6 fun (s109 : (BxR 55 4 Bool) × (BxR 22 3 Int)) => some (s109.1, s109.2)
theorem c_stubborn_set_l1 {w : World} {O : Lab} {vx0 : Value} {x0 : List Int} (hx0 : Vb w (Fr 0 w O) vx0 x0) {p1 i0 : Nat} {x1 : BxR 55 4 Bool} (hx1 : Ob i0 w O (.pointer (some ⟨p1, 0, none⟩)) x1) {p2 i1 : Nat} {x2 : BxR 22 3 Int} (hx2 : Ob i1 w O (.pointer (some ⟨p2, 0, none⟩)) x2) (hne : i0 ≠ i1) {r : (BxR 55 4 Bool) × (BxR 22 3 Int)} (hm : m_stubborn_set_l1 x0 x1 x2 = some r) :
    Fn Try.prog 52 [vx0, (.pointer (some ⟨p1, 0, none⟩)), (.pointer (some ⟨p2, 0, none⟩))] w fun v w' => ∃ O', St (fun j => j = i0 ∨ j = i1) w O w' O' ∧ Ob i0 w' O' (.pointer (some ⟨p1, 0, none⟩)) r.1 ∧ Ob i1 w' O' (.pointer (some ⟨p2, 0, none⟩)) r.2 := by
 obtain ⟨O0, hE, hz0, hl2, hl3⟩ := ent2 (w := w) (O := O) hne hx1.2 hx2.2
 have hx1' := Ob.leave hx1 hz0 hl2 (j := 2) (by decide)
 have hx2' := Ob.leave hx2 hz0 hl3 (j := 3) (by decide)
 have hB : Bm w O0 w O0 := Bm.refl
 replace hx0 := hx0.mono hz0
 obtain ⟨A2, c3, rfl⟩ := hx0.form
 refine fn_enter Try.func52 rfl Try.ntmps52 rfl ?_
 unfold m_stubborn_set_l1 at hm
 refine ewp_seq (ewp_region (o_mv rfl rfl (o_ln rfl rfl ?_)))
 have l5 : x0.length ≤ 9223372036854775807 := Nat.le_trans hx0.len.2.1 hx0.len.2.2
 have r4 : inI64 (x0.length : Int) := rngNat l5
 refine o_mv rfl rfl (o_z ?_)
 obtain ⟨res6, hL7, hm⟩ := bs hm
 refine ewp_join (aft res6 (fun (s8 : (BxR 55 4 Bool) × (BxR 22 3 Int)) (x9 : Unit) => []) (fun s8 x9 w' => ∃ O' : Lab, Bm w O0 w' O' ∧ Ob 2 w' O' (.pointer (some ⟨p1, 0, none⟩)) s8.1 ∧ Ob 3 w' O' (.pointer (some ⟨p2, 0, none⟩)) s8.2)) ?_ ?_
 ·
  refine ewp_block (ewp_rng (σ := (BxR 55 4 Bool) × (BxR 22 3 Int)) (X := Unit) (x0.length) hL7 rfl l5 (fun (s8 : (BxR 55 4 Bool) × (BxR 22 3 Int)) (x9 : Unit) => [(1, (.pointer (some ⟨p1, 0, none⟩))), (2, (.pointer (some ⟨p2, 0, none⟩))), (6, (.slice A2 x0.length c3))]) _ (fun s8 x9 w' => ∃ O' : Lab, Bm w O0 w' O' ∧ Ob 2 w' O' (.pointer (some ⟨p1, 0, none⟩)) s8.1 ∧ Ob 3 w' O' (.pointer (some ⟨p2, 0, none⟩)) s8.2 ∧ Vb w' (Fr 0 w' O') (.slice A2 x0.length c3) x0) _ () ⟨O0, hB, hx1', hx2', hx0⟩ ⟨rfl, rfl, rfl, rfl, rfl, trivial⟩ (fun _ _ => ⟨rfl, rfl⟩) (fun _ _ => trivial) (fun _ _ _ ⟨O', hB, h23, h24, hx0⟩ => ⟨O', hB, h23, h24⟩) ⟨rfl, rfl, rfl⟩ ⟨rfl, rfl⟩ ?_)
  rintro k10 a11 s8 x9 w12 cc14 hx15 ⟨O13, hB, h23, h24, hx0⟩ hf16 hret17 hbrk18
  have rk10 : inI64 (k10 : Int) := rngK hx15 l5
  refine ewp_seq (ewp_region ?_)
  obtain ⟨b25, o26, ce27, hA28, hl29, hd30, rfl, r32⟩ := hx0.elem' hx15
  refine o_iaE (hA := hA28) (hj := rfl) (hlt := hl29) rfl rfl rfl ?_
  refine o_ld (hc := cat0 hd30) rfl rfl ?_
  refine o_as rfl rfl (o_z ?_)
  refine ewp_seq (ewp_region ?_)
  obtain ⟨O33, v37, S34, ha36, h35, h38⟩ := BxR.opn h23 2 4 (by decide)
  obtain ⟨A39, c40, rfl⟩ := h38.form
  refine o_ld (hc := Blk.cell (i := 0) (h35.1) rfl) rfl rfl ?_
  refine o_mv rfl rfl ?_
  obtain ⟨a42, e43, hf16⟩ := bs hf16
  obtain ⟨p45, x44⟩ := atI_some' e43
  obtain ⟨b46, o47, ce48, hA49, hl50, hd51, rfl⟩ := h38.elem x44
  refine o_iaE (hA := hA49) (hj := (Int.toNat_of_nonneg p45).symm) (hlt := hl50) rfl rfl rfl ?_
  refine o_ld (hc := cat0 hd51) rfl rfl ?_
  refine o_nn rfl rfl (o_z ?_)
  refine ewp_cond rfl (fun c53 => ?_) (fun c53 => ?_)
  ·
   replace hf16 := ip hf16 c53
   refine ewp_seq (ewp_region (o_ld (hc := Blk.cell (i := 0) (h35.1) rfl) rfl rfl ?_))
   refine o_mv rfl rfl ?_
   obtain ⟨a54, e55, hf16⟩ := bs hf16
   obtain ⟨p57, x56⟩ := atI_some' e55
   obtain ⟨b58, o59, ce60, hA61, hl62, hd63, rfl⟩ := h38.elem x56
   refine o_iaE (hA := hA61) (hj := (Int.toNat_of_nonneg p57).symm) (hlt := hl62) rfl rfl rfl ?_
   refine l_setE rfl h38 (a := true) vBool hA61 rfl rfl (lt_of_get x56) fun w65 S66 h38 => ?_
   refine o_z ?_
   refine ewp_region ?_
   replace h24 := (h24.st S34).st S66
   obtain ⟨O67, v71, S68, ha70, h69, h72⟩ := BxR.opn h24 3 5 (by decide)
   obtain ⟨A73, c74, rfl⟩ := h72.form
   refine o_ld (hc := Blk.cell (i := 0) (h69.1) rfl) rfl rfl ?_
   refine o_mv rfl rfl ?_
   obtain ⟨u76, e77, hf16⟩ := bs hf16
   obtain ⟨e77, e78, e79⟩ := appI_some e77
   refine l_append1 rfl (a := a11) h72 (vInt r32) (fun _ => rfl) rfl (by decide) (by decide) e78 e79 ⟨rfl, rfl⟩ fun g80 A81 c82 w83 O84 S85 h86 => ?_
   rw [← e77] at h86 ⊢
   replace h69 := h69.st S85
   refine l_store h69 rfl rfl rfl (Nat.le_of_ble_eq_true rfl) (by first | exact allOne rfl | simp [Value.cells, Value.oneCell', errV_one]) fun w88 S89 h69 => ?_
   replace h69 : Lc 3 w88 O84 p2 22 [(.slice A81 u76.length c82)] := h69
   refine o_z ?_
   replace h35 := (((h35.st S66).st S68).st S85).st S89
   replace h38 := ((h38.st S68).st S85).st S89
   obtain ⟨O90, S91, hz93, ha94, h92⟩ := BxR.shut (x := (⟨(s8.1.l.set (a11 : Int).toNat true)⟩ : BxR 55 4 Bool)) (l0 := 2) (l1 := 4) (by decide) (by have q := h35; rw [← ((by simp : (s8.1.l.set (a11 : Int).toNat true).length = s8.1.l.length).trans rfl)] at q; exact q) h38.relen
   replace h69 := h69.st S91
   replace h86 := (h86.st S89).st S91
   obtain ⟨O95, S96, hz98, ha99, h97⟩ := BxR.shut (x := (⟨u76⟩ : BxR 22 3 Int)) (l0 := 3) (l1 := 5) (by decide) h69 h86
   obtain rfl := sm hf16
   refine (?_ : Exists _)
   replace hx0 := ((((((hx0.st S34).st S66).st S68).st S85).st S89).st S91).st S96
   replace hB := ((((((hB.st S34).st S66).st S68).st S85).st S89).st S91).st S96
   replace h92 := h92.st S96
   exact ⟨_, (), rfl, ⟨rfl, rfl, rfl, rfl, rfl, trivial⟩, _, hB, h92, h97, hx0⟩
  ·
   replace hf16 := im' hf16 c53
   refine ewp_skip ?_
   obtain ⟨O100, S101, hz103, ha104, h102⟩ := BxR.shut (x := s8.1) (l0 := 2) (l1 := 4) (by decide) h35 h38
   obtain rfl := sm hf16
   refine (?_ : Exists _)
   replace hx0 := (hx0.st S34).st S101
   replace hB := (hB.st S34).st S101
   replace h24 := (h24.st S34).st S101
   exact ⟨_, (), rfl, ⟨rfl, rfl, rfl, rfl, rfl, trivial⟩, _, hB, h102, h24, hx0⟩
 rintro l105 w106 ⟨s109, x110, rfl, hs108, O107, hB, h23, h24⟩
 replace hm := fin_done hm
 obtain rfl := sm hm
 obtain ⟨O', hS', hz, hl⟩ := hE.leave (fun q => if q = 2 then i0 else if q = 3 then i1 else 0) rfl hB
 exact ret0n rfl  ⟨O', hS', (Ob.leave h23 hz (hl 2 (by decide) (by decide)) hx1.2), (Ob.leave h24 hz (hl 3 (by decide) (by decide)) hx2.2)⟩
noncomputable def m_stubborn_set (x0 : Tsk) (x1 : List Int) : Option (List Int) :=
  bnd (mkI 1 (false : Bool) (x0.ops.length : Int)) fun u29 => bnd (m_stubborn_missing x0.goal x1) fun q54 => bnd (if (!q54.2) = true then (bnd (rng (ρ := (BxR 22 3 Int) × (BxR 55 4 Bool)) (fun (k100 : Nat) (a101 : Opr) (s98 : (BxR 22 3 Int) × (BxR 55 4 Bool)) => bnd (m_stubborn_set_l1 [(k100 : Int)] s98.2 s98.1) fun q123 => some (.next (q123.2, q123.1))) x0.ops 0 ((⟨([] : List Int)⟩ : BxR 22 3 Int), (⟨u29⟩ : BxR 55 4 Bool))) fun res96 => fin res96 fun (s136 : (BxR 22 3 Int) × (BxR 55 4 Bool)) => some (s136.1, s136.2)) else (bnd (m_stubborn_writers x0 q54.1) fun q138 => bnd (m_stubborn_set_l1 q138 (⟨u29⟩ : BxR 55 4 Bool) (⟨([] : List Int)⟩ : BxR 22 3 Int)) fun q159 => some (q159.2, q159.1)) : Option ((BxR 22 3 Int) × (BxR 55 4 Bool))) fun y75 => bnd (lop (ρ := (List Int)) (fun (s174 : (List Int) × Int × (BxR 22 3 Int) × (BxR 55 4 Bool)) => if s174.2.1 < (s174.2.2.1.l.length : Int) then (bnd (bnd (atI s174.2.2.1.l s174.2.1) fun a217 => bnd (atI x0.ops a217) fun a219 => bnd (m_stubborn_missing a219.pre x1) fun q221 => bnd (some () : Option Unit) fun y223 => if q221.2 = true then (bnd (m_stubborn_writers x0 q221.1) fun q312 => bnd (m_stubborn_set_l1 q312 s174.2.2.2 s174.2.2.1) fun q321 => some (s174.1, q321.2, q321.1)) else (bnd (atI s174.2.2.1.l s174.2.1) fun a339 => bnd (appI 8 s174.1 [a339]) fun u351 => bnd (atI s174.2.2.1.l s174.2.1) fun a363 => bnd (m_stubborn_meets x0 a363) fun q375 => bnd (m_stubborn_set_l1 q375 s174.2.2.2 s174.2.2.1) fun q389 => some (u351, q389.2, q389.1)) : Option ((List Int) × (BxR 22 3 Int) × (BxR 55 4 Bool))) fun y209 => bnd (chkI (s174.2.1 + 1)) fun n402 => some (.next (y209.1, n402, y209.2.1, y209.2.2))) else (some (.brk (s174.1, s174.2.1, s174.2.2.1, s174.2.2.2)))) (([] : List Int), 0, y75.1, y75.2)) fun res172 => fin res172 fun (s414 : (List Int) × Int × (BxR 22 3 Int) × (BxR 55 4 Bool)) => bnd (m_slices_Sort_Lint_int s414.1) fun q416 => some q416
theorem c_stubborn_set {w : World} {A : Nat → Prop} (hA : ∀ k, A k → k < w.heap.size) {vx0 : Value} {x0 : Tsk} (hx0 : Vb w A vx0 x0) {vx1 : Value} {x1 : List Int} (hx1 : Vb w A vx1 x1) {r : (List Int)} (hm : m_stubborn_set x0 x1 = some r) :
    Fn Try.prog 34 [vx0, vx1] w fun v w' => Ext w w' ∧ Vb w' (upA A w w') v r := by
 obtain ⟨O, hB, hA0⟩ := enter hA
 replace hx0 := hx0.mono hA0
 obtain ⟨cs3, rfl, v4, v5, v6, v7, rfl, h8, h11, h14, h17⟩ := hx0
 obtain ⟨A9, c10, rfl⟩ := h8.form
 obtain ⟨A12, c13, rfl⟩ := h11.form
 obtain ⟨A15, c16, rfl⟩ := h14.form
 obtain ⟨A18, c19, rfl⟩ := h17.form
 replace hx1 := hx1.mono hA0
 obtain ⟨A20, c21, rfl⟩ := hx1.form
 refine fn_enter Try.func34 rfl Try.ntmps34 rfl ?_
 unfold m_stubborn_set at hm
 refine ewp_seq (ewp_region (l_box 2 O rfl rfl fun g22 w23 O24 S25 h26 => ?_))
 replace h26 : Lc 2 w23 O24 g22 26 [(.slice A9 x0.vars.length c10), (.slice A12 x0.init.length c13), (.slice A15 x0.goal.length c16), (.slice A18 x0.ops.length c19)] := h26
 refine o_as rfl rfl (o_z ?_)
 refine ewp_seq (ewp_region (o_fa rfl rfl (o_ld (hc := Blk.cell (i := 3) (h26.1) rfl) rfl rfl ?_)))
 refine o_ln rfl rfl ?_
 replace h17 := h17.st S25
 have l28 : x0.ops.length ≤ 9223372036854775807 := Nat.le_trans h17.len.2.1 h17.len.2.2
 have r27 : inI64 (x0.ops.length : Int) := rngNat l28
 obtain ⟨u29, e30, hm⟩ := bs hm
 obtain ⟨m31, e32, e33, e34, e35⟩ := mkI_some e30
 refine l_make 3 (by decide) O24 (z0 := (false : Bool)) rfl rfl rfl rfl rfl e32 vBool e33 e34 rfl fun g36 w37 O38 S39 h40 => ?_
 rw [← e35] at h40 ⊢
 refine l_alloc 4 O38 rfl fun g42 w43 O44 S45 h46 => ?_
 refine l_store h46 rfl rfl rfl (Nat.le_of_ble_eq_true rfl) (by first | exact allOne rfl | simp [Value.cells, Value.oneCell', errV_one]) fun w47 S48 h46 => ?_
 replace h46 : Lc 4 w47 O44 g42 55 [(.slice (some ⟨g36, 0, none⟩) u29.length m31)] := h46
 refine o_z ?_
 refine ewp_seq (ewp_region (l_alloc 5 O44 rfl fun g49 w50 O51 S52 h53 => ?_))
 refine o_z ?_
 refine ewp_seq (ewp_region (o_mf rfl rfl rfl (o_as rfl rfl (o_z ?_))))
 refine ewp_seq (ewp_region (o_fa rfl rfl ?_))
 replace h26 := (((h26.st S39).st S45).st S48).st S52
 refine o_ld (hc := Blk.cell (i := 2) (h26.1) rfl) rfl rfl ?_
 refine o_mv rfl rfl ?_
 obtain ⟨q54, e55, hm⟩ := bs hm
 replace hx1 := ((((hx1.st S25).st S39).st S45).st S48).st S52
 replace h14 := ((((h14.st S25).st S39).st S45).st S48).st S52
 refine l_callA (O := O51) (A := All w50) (R := fun w' F v => T2 w' F v q54) (c_stubborn_missing (fun _ h => h) (Vb.mono (F := Fr 0 w50 O51) h14 Fr.lt) (Vb.mono (F := Fr 0 w50 O51) hx1 Fr.lt) e55) rfl rfl fun v60 w56 O57 S58 h59 => ?_
 obtain ⟨v61, v62, rfl, h63, h64⟩ := h59
 obtain ⟨cs65, rfl, rfl, r66, r67⟩ := h63
 obtain rfl := h64.bool
 refine o_mv rfl rfl (o_ex rfl rfl rfl (o_ex rfl rfl rfl (l_alloc 7 O57 rfl fun g68 w69 O70 S71 h72 => ?_)))
 refine l_store h72 rfl rfl rfl (Nat.le_of_ble_eq_true rfl) (by first | exact allOne rfl | simp [Value.cells, Value.oneCell', errV_one]) fun w73 S74 h72 => ?_
 replace h72 : Lc 7 w73 O70 g68 68 [(.int .i64 q54.1.var), (.int .i64 q54.1.val)] := h72
 refine o_as rfl rfl (o_z ?_)
 refine ewp_seq ?_
 obtain ⟨y75, hy76, hm⟩ := bs hm
 refine ewp_join (fun l' w' => ∃ (x78 : Unit) (O' : Lab), subs l' [(1, (.slice A20 x1.length c21)), (2, (.pointer (some ⟨g22, 0, none⟩))), (6, (.pointer (some ⟨g49, 0, none⟩))), (7, (.func (.func 52) #[] #[(.pointer (some ⟨g42, 0, none⟩)), (.pointer (some ⟨g49, 0, none⟩))]))] ∧ Bs w A w' O' ∧ Vb w' (Fr 0 w' O') (.slice A20 x1.length c21) x1 ∧ Lc 2 w' O' g22 26 [(.slice A9 x0.vars.length c10), (.slice A12 x0.init.length c13), (.slice A15 x0.goal.length c16), (.slice A18 x0.ops.length c19)] ∧ Vb w' (Fr 0 w' O') (.slice A9 x0.vars.length c10) x0.vars ∧ Vb w' (Fr 0 w' O') (.slice A12 x0.init.length c13) x0.init ∧ Vb w' (Fr 0 w' O') (.slice A15 x0.goal.length c16) x0.goal ∧ Vb w' (Fr 0 w' O') (.slice A18 x0.ops.length c19) x0.ops ∧ Ob 5 w' O' (.pointer (some ⟨g49, 0, none⟩)) y75.1 ∧ Ob 4 w' O' (.pointer (some ⟨g42, 0, none⟩)) y75.2) ?_ ?_
 ·
  refine ewp_seq (ewp_region (o_mv rfl rfl (o_nn rfl rfl (o_z ?_))))
  refine ewp_cond rfl (fun c81 => ?_) (fun c81 => ?_)
  ·
   replace hy76 := ip hy76 c81
   refine ewp_seq (ewp_region (o_fa rfl rfl ?_))
   replace h26 := ((h26.st S58).st S71).st S74
   refine o_ld (hc := Blk.cell (i := 3) (h26.1) rfl) rfl rfl ?_
   refine o_ln rfl rfl ?_
   replace h17 := ((((((h17.st S39).st S45).st S48).st S52).st S58).st S71).st S74
   have l83 : x0.ops.length ≤ 9223372036854775807 := Nat.le_trans h17.len.2.1 h17.len.2.2
   have r82 : inI64 (x0.ops.length : Int) := rngNat l83
   refine o_mv rfl rfl (o_z ?_)
   replace h40 := (((((h40.st S45).st S48).st S52).st S58).st S71).st S74
   replace h46 := (((h46.st S52).st S58).st S71).st S74
   obtain ⟨O84, S85, hz87, ha88, h86⟩ := BxR.shut (x := (⟨u29⟩ : BxR 55 4 Bool)) (l0 := 4) (l1 := 3) (by decide) h46 h40
   have h89 : Rw 6 w73 O84 3 (.slice none 0 0) ([] : List Int) := Rw.nil 6 (by decide)
   replace h53 := (((h53.st S58).st S71).st S74).st S85
   obtain ⟨O91, S92, hz94, ha95, h93⟩ := BxR.shut (x := (⟨([] : List Int)⟩ : BxR 22 3 Int)) (l0 := 5) (l1 := 6) (by decide) h53 h89
   obtain ⟨res96, hL97, hy76⟩ := bs hy76
   refine ewp_join (aft res96 (fun (s98 : (BxR 22 3 Int) × (BxR 55 4 Bool)) (x99 : Unit) => [(1, (.slice A20 x1.length c21)), (2, (.pointer (some ⟨g22, 0, none⟩))), (6, (.pointer (some ⟨g49, 0, none⟩))), (7, (.func (.func 52) #[] #[(.pointer (some ⟨g42, 0, none⟩)), (.pointer (some ⟨g49, 0, none⟩))]))]) (fun s98 x99 w' => ∃ O' : Lab, Bs w A w' O' ∧ Vb w' (Fr 0 w' O') (.slice A20 x1.length c21) x1 ∧ Lc 2 w' O' g22 26 [(.slice A9 x0.vars.length c10), (.slice A12 x0.init.length c13), (.slice A15 x0.goal.length c16), (.slice A18 x0.ops.length c19)] ∧ Vb w' (Fr 0 w' O') (.slice A9 x0.vars.length c10) x0.vars ∧ Vb w' (Fr 0 w' O') (.slice A12 x0.init.length c13) x0.init ∧ Vb w' (Fr 0 w' O') (.slice A15 x0.goal.length c16) x0.goal ∧ Vb w' (Fr 0 w' O') (.slice A18 x0.ops.length c19) x0.ops ∧ Ob 5 w' O' (.pointer (some ⟨g49, 0, none⟩)) s98.1 ∧ Ob 4 w' O' (.pointer (some ⟨g42, 0, none⟩)) s98.2)) ?_ ?_
   ·
    refine ewp_block ?_
    replace hB := (((((((((hB.st S25).st S39).st S45).st S48).st S52).st S58).st S71).st S74).st S85).st S92
    replace hx1 := ((((hx1.st S58).st S71).st S74).st S85).st S92
    replace h8 := (((((((((h8.st S25).st S39).st S45).st S48).st S52).st S58).st S71).st S74).st S85).st S92
    replace h11 := (((((((((h11.st S25).st S39).st S45).st S48).st S52).st S58).st S71).st S74).st S85).st S92
    replace h14 := ((((h14.st S58).st S71).st S74).st S85).st S92
    replace h17 := (h17.st S85).st S92
    replace h26 := (h26.st S85).st S92
    replace h86 := h86.st S92
    refine ewp_rng (σ := (BxR 22 3 Int) × (BxR 55 4 Bool)) (X := Unit) (x0.ops.length) hL97 rfl l83 (fun (s98 : (BxR 22 3 Int) × (BxR 55 4 Bool)) (x99 : Unit) => [(1, (.slice A20 x1.length c21)), (2, (.pointer (some ⟨g22, 0, none⟩))), (6, (.pointer (some ⟨g49, 0, none⟩))), (7, (.func (.func 52) #[] #[(.pointer (some ⟨g42, 0, none⟩)), (.pointer (some ⟨g49, 0, none⟩))]))]) _ (fun s98 x99 w' => ∃ O' : Lab, Bs w A w' O' ∧ Vb w' (Fr 0 w' O') (.slice A20 x1.length c21) x1 ∧ Lc 2 w' O' g22 26 [(.slice A9 x0.vars.length c10), (.slice A12 x0.init.length c13), (.slice A15 x0.goal.length c16), (.slice A18 x0.ops.length c19)] ∧ Vb w' (Fr 0 w' O') (.slice A9 x0.vars.length c10) x0.vars ∧ Vb w' (Fr 0 w' O') (.slice A12 x0.init.length c13) x0.init ∧ Vb w' (Fr 0 w' O') (.slice A15 x0.goal.length c16) x0.goal ∧ Vb w' (Fr 0 w' O') (.slice A18 x0.ops.length c19) x0.ops ∧ Ob 5 w' O' (.pointer (some ⟨g49, 0, none⟩)) s98.1 ∧ Ob 4 w' O' (.pointer (some ⟨g42, 0, none⟩)) s98.2) _ () ⟨O91, hB, hx1, h26, h8, h11, h14, h17, h93, h86⟩ ⟨rfl, rfl, rfl, rfl, rfl, rfl, trivial⟩ (fun _ _ => ⟨rfl, rfl⟩) (fun _ _ => ⟨rfl, rfl, rfl, rfl, trivial⟩) (fun _ _ _ ⟨O', hB, hx1, h26, h8, h11, h14, h17, h113, h114⟩ => ⟨O', hB, hx1, h26, h8, h11, h14, h17, h113, h114⟩) ⟨rfl, rfl, rfl⟩ ⟨rfl, rfl⟩ ?_
    rintro k100 a101 s98 x99 w102 cc104 hx105 ⟨O103, hB, hx1, h26, h8, h11, h14, h17, h113, h114⟩ hf106 hret107 hbrk108
    have rk100 : inI64 (k100 : Int) := rngK hx105 l83
    refine ewp_seq (ewp_region (o_mv rfl rfl (o_as rfl rfl (o_z ?_))))
    refine ewp_region (o_mv rfl rfl (o_mv rfl rfl (l_bslice 8 (by decide) O103 (xs := ([(k100 : Int)] : List Int)) rfl rfl rfl rfl ⟨(vInt rk100), trivial⟩ (by decide) (by decide) rfl fun g115 w116 O117 S118 h119 => ?_)))
    obtain ⟨O121, S122, h119⟩ := h119.freeze
    obtain ⟨q123, e124, hf106⟩ := bs hf106
    replace h113 := (h113.st S118).st S122
    replace h114 := (h114.st S118).st S122
    refine l_callMv (O := O121) (c_stubborn_set_l1 h119 h114 h113 (by decide) e124) rfl rfl rfl rfl fun v129 w125 O126 S127 h128 => ?_
    obtain ⟨h130, h131⟩ := h128
    refine o_z ?_
    obtain rfl := sm hf106
    refine (?_ : Exists _)
    replace hB := ((hB.st S118).st S122).st S127
    replace hx1 := ((hx1.st S118).st S122).st S127
    replace h8 := ((h8.st S118).st S122).st S127
    replace h11 := ((h11.st S118).st S122).st S127
    replace h14 := ((h14.st S118).st S122).st S127
    replace h17 := ((h17.st S118).st S122).st S127
    replace h26 := ((h26.st S118).st S122).st S127
    exact ⟨_, (), rfl, ⟨rfl, rfl, rfl, rfl, rfl, rfl, trivial⟩, _, hB, hx1, h26, h8, h11, h14, h17, h131, h130⟩
   replace hB := (((((((((hB.st S25).st S39).st S45).st S48).st S52).st S58).st S71).st S74).st S85).st S92
   replace hx1 := ((((hx1.st S58).st S71).st S74).st S85).st S92
   replace h8 := (((((((((h8.st S25).st S39).st S45).st S48).st S52).st S58).st S71).st S74).st S85).st S92
   replace h11 := (((((((((h11.st S25).st S39).st S45).st S48).st S52).st S58).st S71).st S74).st S85).st S92
   replace h14 := ((((h14.st S58).st S71).st S74).st S85).st S92
   replace h17 := (h17.st S85).st S92
   replace h26 := (h26.st S85).st S92
   rintro l132 w133 ⟨s136, x137, rfl, hs135, O134, hB, hx1, h26, h8, h11, h14, h17, h113, h114⟩
   replace hy76 := fin_done hy76
   obtain rfl := sm hy76
   exact ⟨(), _, ⟨(subs_lk hs135 _ _ rfl), (subs_lk hs135 _ _ rfl), (subs_lk hs135 _ _ rfl), (subs_lk hs135 _ _ rfl), trivial⟩, hB, hx1, h26, h8, h11, h14, h17, h113, h114⟩
  ·
   replace hy76 := im' hy76 c81
   refine ewp_region (o_mv rfl rfl ?_)
   replace h26 := ((h26.st S58).st S71).st S74
   refine o_la (hl := rfl) (hc := (h26.1).cellsAt) rfl rfl ?_
   refine o_la (hl := rfl) (hc := (h72.1).cellsAt) rfl rfl ?_
   obtain ⟨q138, e139, hy76⟩ := bs hy76
   replace h8 := (((((((h8.st S25).st S39).st S45).st S48).st S52).st S58).st S71).st S74
   replace h11 := (((((((h11.st S25).st S39).st S45).st S48).st S52).st S58).st S71).st S74
   replace h14 := ((h14.st S58).st S71).st S74
   replace h17 := ((((((h17.st S39).st S45).st S48).st S52).st S58).st S71).st S74
   refine l_call (O := O70) (R := fun w' F v => Vb w' F v q138) (c_stubborn_writers Fr.lt (Vb.ofAgg (cs := [(.slice A9 x0.vars.length c10), (.slice A12 x0.init.length c13), (.slice A15 x0.goal.length c16), (.slice A18 x0.ops.length c19)]) (x := x0) rfl ⟨_, _, _, _, rfl, h8, h11, h14, h17⟩) (Vb.ofAgg (cs := [(.int .i64 q54.1.var), (.int .i64 q54.1.val)]) (x := q54.1) rfl ⟨rfl, r66, r67⟩) e139) rfl rfl fun v144 w140 O141 S142 h143 => ?_
   obtain ⟨A145, c146, rfl⟩ := h143.form
   replace h40 := ((((((h40.st S45).st S48).st S52).st S58).st S71).st S74).st S142
   replace h46 := ((((h46.st S52).st S58).st S71).st S74).st S142
   obtain ⟨O147, S148, hz150, ha151, h149⟩ := BxR.shut (x := (⟨u29⟩ : BxR 55 4 Bool)) (l0 := 4) (l1 := 3) (by decide) h46 h40
   have h152 : Rw 6 w140 O147 3 (.slice none 0 0) ([] : List Int) := Rw.nil 6 (by decide)
   replace h53 := ((((h53.st S58).st S71).st S74).st S142).st S148
   obtain ⟨O154, S155, hz157, ha158, h156⟩ := BxR.shut (x := (⟨([] : List Int)⟩ : BxR 22 3 Int)) (l0 := 5) (l1 := 6) (by decide) h53 h152
   obtain ⟨q159, e160, hy76⟩ := bs hy76
   replace h143 := (h143.st S148).st S155
   replace h149 := h149.st S155
   refine l_callMv (O := O154) (c_stubborn_set_l1 h143 h149 h156 (by decide) e160) rfl rfl rfl rfl fun v165 w161 O162 S163 h164 => ?_
   obtain ⟨h166, h167⟩ := h164
   refine o_z ?_
   obtain rfl := sm hy76
   replace hB := (((((((((((hB.st S25).st S39).st S45).st S48).st S52).st S58).st S71).st S74).st S142).st S148).st S155).st S163
   replace hx1 := ((((((hx1.st S58).st S71).st S74).st S142).st S148).st S155).st S163
   replace h8 := (((h8.st S142).st S148).st S155).st S163
   replace h11 := (((h11.st S142).st S148).st S155).st S163
   replace h14 := (((h14.st S142).st S148).st S155).st S163
   replace h17 := (((h17.st S142).st S148).st S155).st S163
   replace h26 := (((h26.st S142).st S148).st S155).st S163
   exact ⟨(), _, ⟨rfl, rfl, rfl, rfl, trivial⟩, hB, hx1, h26, h8, h11, h14, h17, h167, h166⟩
 replace hB := (((((((hB.st S25).st S39).st S45).st S48).st S52).st S58).st S71).st S74
 replace hx1 := ((hx1.st S58).st S71).st S74
 replace h8 := (((((((h8.st S25).st S39).st S45).st S48).st S52).st S58).st S71).st S74
 replace h11 := (((((((h11.st S25).st S39).st S45).st S48).st S52).st S58).st S71).st S74
 replace h14 := ((h14.st S58).st S71).st S74
 replace h17 := ((((((h17.st S39).st S45).st S48).st S52).st S58).st S71).st S74
 replace h26 := ((h26.st S58).st S71).st S74
 rintro l168 w169 ⟨x78, O170, hs171, hB, hx1, h26, h8, h11, h14, h17, h79, h80⟩
 refine ewp_sub _ hs171 ?_
 refine ewp_seq (ewp_region (o_as rfl rfl (o_z ?_)))
 refine ewp_seq (ewp_seq (ewp_region (o_as rfl rfl (o_z ?_))))
 obtain ⟨res172, hL173, hm⟩ := bs hm
 refine ewp_join (aft res172 (fun (s174 : (List Int) × Int × (BxR 22 3 Int) × (BxR 55 4 Bool)) (x175 : (Option Addr × Nat)) => [(11, (.slice x175.1 s174.1.length x175.2))]) (fun s174 x175 w' => ∃ O' : Lab, Bs w A w' O' ∧ Rw 11 w' O' 3 (.slice x175.1 s174.1.length x175.2) s174.1 ∧ inI64 s174.2.1)) ?_ ?_
 ·
  refine ewp_block (ewp_lop (σ := (List Int) × Int × (BxR 22 3 Int) × (BxR 55 4 Bool)) (X := (Option Addr × Nat)) hL173 (fun (s174 : (List Int) × Int × (BxR 22 3 Int) × (BxR 55 4 Bool)) (x175 : (Option Addr × Nat)) => [(1, (.slice A20 x1.length c21)), (2, (.pointer (some ⟨g22, 0, none⟩))), (6, (.pointer (some ⟨g49, 0, none⟩))), (7, (.func (.func 52) #[] #[(.pointer (some ⟨g42, 0, none⟩)), (.pointer (some ⟨g49, 0, none⟩))])), (11, (.slice x175.1 s174.1.length x175.2)), (12, (.int .i64 s174.2.1))]) _ (fun s174 x175 w' => ∃ O' : Lab, Bs w A w' O' ∧ Vb w' (Fr 0 w' O') (.slice A20 x1.length c21) x1 ∧ Lc 2 w' O' g22 26 [(.slice A9 x0.vars.length c10), (.slice A12 x0.init.length c13), (.slice A15 x0.goal.length c16), (.slice A18 x0.ops.length c19)] ∧ Vb w' (Fr 0 w' O') (.slice A9 x0.vars.length c10) x0.vars ∧ Vb w' (Fr 0 w' O') (.slice A12 x0.init.length c13) x0.init ∧ Vb w' (Fr 0 w' O') (.slice A15 x0.goal.length c16) x0.goal ∧ Vb w' (Fr 0 w' O') (.slice A18 x0.ops.length c19) x0.ops ∧ Ob 5 w' O' (.pointer (some ⟨g49, 0, none⟩)) s174.2.2.1 ∧ Ob 4 w' O' (.pointer (some ⟨g42, 0, none⟩)) s174.2.2.2 ∧ Rw 11 w' O' 3 (.slice x175.1 s174.1.length x175.2) s174.1 ∧ inI64 s174.2.1) _ (none, 0) ⟨O170, hB, hx1, h26, h8, h11, h14, h17, h79, h80, (Rw.nil 11 (by decide)), (show inI64 (0) from by decide)⟩ ⟨rfl, rfl, rfl, rfl, rfl, rfl, trivial⟩ ?_)
  rintro s174 x175 w178 cc180 ⟨O179, hB, hx1, h26, h8, h11, h14, h17, h195, h196, h192, r194⟩ hf182 hret183 hbrk184
  refine ewp_seq (ewp_seq (ewp_region (o_mv rfl rfl ?_)))
  obtain ⟨O197, v201, S198, ha200, h199, h202⟩ := BxR.opn h195 5 9 (by decide)
  obtain ⟨A203, c204, rfl⟩ := h202.form
  refine o_ld (hc := Blk.cell (i := 0) (h199.1) rfl) rfl rfl ?_
  refine o_ln rfl rfl ?_
  have l207 : s174.2.2.1.l.length ≤ 9223372036854775807 := Nat.le_trans h202.len.2.1 h202.len.2.2
  have r206 : inI64 (s174.2.2.1.l.length : Int) := rngNat l207
  refine o_ltS rfl rfl rfl (fun c208 => ?_) fun c208 => ?_
  ·
   replace hf182 := ip hf182 c208
   refine o_z ?_
   refine ewp_true rfl (ewp_skip (ewp_seq ?_))
   obtain ⟨y209, hy210, hf182⟩ := bs hf182
   refine ewp_join (fun l' w' => ∃ (x212 : (Option Addr × Nat)) (O' : Lab), subs l' [(1, (.slice A20 x1.length c21)), (2, (.pointer (some ⟨g22, 0, none⟩))), (6, (.pointer (some ⟨g49, 0, none⟩))), (7, (.func (.func 52) #[] #[(.pointer (some ⟨g42, 0, none⟩)), (.pointer (some ⟨g49, 0, none⟩))])), (11, (.slice x212.1 y209.1.length x212.2)), (12, (.int .i64 s174.2.1))] ∧ Bs w A w' O' ∧ Vb w' (Fr 0 w' O') (.slice A20 x1.length c21) x1 ∧ Lc 2 w' O' g22 26 [(.slice A9 x0.vars.length c10), (.slice A12 x0.init.length c13), (.slice A15 x0.goal.length c16), (.slice A18 x0.ops.length c19)] ∧ Vb w' (Fr 0 w' O') (.slice A9 x0.vars.length c10) x0.vars ∧ Vb w' (Fr 0 w' O') (.slice A12 x0.init.length c13) x0.init ∧ Vb w' (Fr 0 w' O') (.slice A15 x0.goal.length c16) x0.goal ∧ Vb w' (Fr 0 w' O') (.slice A18 x0.ops.length c19) x0.ops ∧ Ob 5 w' O' (.pointer (some ⟨g49, 0, none⟩)) y209.2.1 ∧ Ob 4 w' O' (.pointer (some ⟨g42, 0, none⟩)) y209.2.2 ∧ Rw 11 w' O' 3 (.slice x212.1 y209.1.length x212.2) y209.1) ?_ ?_
   ·
    refine ewp_block (ewp_seq ?_)
    obtain ⟨a217, e218, hy210⟩ := bs hy210
    obtain ⟨a219, e220, hy210⟩ := bs hy210
    obtain ⟨q221, e222, hy210⟩ := bs hy210
    obtain ⟨y223, hy224, hy210⟩ := bs hy210
    refine ewp_join (fun l' w' => ∃ (x226 : Nat) (O' : Lab), subs l' [(1, (.slice A20 x1.length c21)), (2, (.pointer (some ⟨g22, 0, none⟩))), (6, (.pointer (some ⟨g49, 0, none⟩))), (7, (.func (.func 52) #[] #[(.pointer (some ⟨g42, 0, none⟩)), (.pointer (some ⟨g49, 0, none⟩))])), (11, (.slice x175.1 s174.1.length x175.2)), (12, (.int .i64 s174.2.1)), (13, (.pointer (some ⟨x226, 0, none⟩))), (14, (.bool q221.2))] ∧ Bs w A w' O' ∧ Vb w' (Fr 0 w' O') (.slice A20 x1.length c21) x1 ∧ Lc 2 w' O' g22 26 [(.slice A9 x0.vars.length c10), (.slice A12 x0.init.length c13), (.slice A15 x0.goal.length c16), (.slice A18 x0.ops.length c19)] ∧ Vb w' (Fr 0 w' O') (.slice A9 x0.vars.length c10) x0.vars ∧ Vb w' (Fr 0 w' O') (.slice A12 x0.init.length c13) x0.init ∧ Vb w' (Fr 0 w' O') (.slice A15 x0.goal.length c16) x0.goal ∧ Vb w' (Fr 0 w' O') (.slice A18 x0.ops.length c19) x0.ops ∧ Ob 5 w' O' (.pointer (some ⟨g49, 0, none⟩)) s174.2.2.1 ∧ Ob 4 w' O' (.pointer (some ⟨g42, 0, none⟩)) s174.2.2.2 ∧ Rw 11 w' O' 3 (.slice x175.1 s174.1.length x175.2) s174.1 ∧ Lc 10 w' O' x226 68 [(.int .i64 q221.1.var), (.int .i64 q221.1.val)] ∧ inI64 q221.1.var ∧ inI64 q221.1.val) ?_ ?_
    ·
     refine ewp_drawX [(10, []), (14, []), (15, [10])] O197 ?_
     refine x_pre (fuel := 7) [] [(0, true), (1, true), (2, true), (3, true), (4, true), (5, true), (6, true), (7, true), (8, true), (9, true)] (by kernel_rfl) rfl ?_
     refine h_fa rfl rfl rfl ?_
     replace h26 := h26.st S198
     refine h_ldC (hc := fun w' ⟨O', hq⟩ => Blk.cell (i := 3) ((h26.st hq (by decide)).1) rfl) rfl rfl rfl ?_
     refine h_ldC (hc := fun w' ⟨O', hq⟩ => Blk.cell (i := 0) ((h199.st hq (by decide)).1) rfl) rfl rfl rfl ?_
     refine h_mv rfl rfl rfl ?_
     obtain ⟨p231, x230⟩ := atI_some' e218
     obtain ⟨b232, o233, ce234, hA235, hF238, hl236, hd237, rfl, r239⟩ := h202.elemF x230
     refine h_iaE (hA := hA235) (hj := (Int.toNat_of_nonneg p231).symm) (hlt := hl236) rfl rfl rfl rfl ?_
     refine h_ldC (hc := fun w' ⟨O', hq⟩ => cat0 (cellsAt_agree (hq.agree (i := 9) (by decide)) hF238 hd237)) rfl rfl rfl ?_
     obtain ⟨p241, x240⟩ := atI_some' e220
     replace h17 := h17.st S198
     obtain ⟨b242, o243, ce244, hA245, hF248, hl246, hd247, v249, v250, rfl, h251, h254, r257, z258⟩ := h17.elem x240
     obtain ⟨A252, c253, rfl⟩ := h251.form
     obtain ⟨A255, c256, rfl⟩ := h254.form
     refine h_iaE (hA := hA245) (hj := (Int.toNat_of_nonneg p241).symm) (hlt := hl246) rfl rfl rfl rfl ?_
     refine h_fa rfl rfl rfl (h_ldC (hc := fun w' ⟨O', hq⟩ => cat2 (cellsAt_agree (hq.agree (i := 0) (by decide)) hF248 hd247)) rfl rfl rfl ?_)
     refine h_mv rfl rfl rfl (hwp_nilT ?_)
     refine x_two (i := 10) (j := 14) (by kernel_rfl) rfl rfl ?_ ?_
     ·
      replace hx1 := hx1.st S198
      refine l_callA (O := O197) (A := All w178) (R := fun w' F v => T2 w' F v q221) (c_stubborn_missing (fun _ h => h) (Vb.mono (F := Fr 0 w178 O197) h251 Fr.lt) (Vb.mono (F := Fr 0 w178 O197) hx1 Fr.lt) e222) rfl rfl fun v263 w259 O260 S261 h262 => ?_
      obtain ⟨v264, v265, rfl, h266, h267⟩ := h262
      obtain ⟨cs268, rfl, rfl, r269, r270⟩ := h266
      obtain rfl := h267.bool
      have hZ := S261.lst [] (fun _ h => h.elim)
      refine x_go [(14, []), (15, [10])] hZ (by kernel_rfl) ?_
      refine x_pre (fuel := 4) [] [(11, true), (12, true)] (by kernel_rfl) rfl ?_
      refine h_mv rfl rfl rfl (h_ex rfl rfl rfl rfl (hwp_nilT ?_))
      refine x_pre (fuel := 3) [10] [(13, true)] (by kernel_rfl) rfl ?_
      refine h_ex rfl rfl rfl rfl (hwp_nilT ?_)
      refine x_one (i := 14) (by kernel_rfl) rfl ?_
      refine l_alloc 10 O260 rfl fun g271 w272 O273 S274 h275 => ?_
      have hZ := S274.lst [] (fun _ h => h.elim)
      refine x_go [(15, [10])] hZ (by kernel_rfl) ?_
      refine x_one (i := 15) (by kernel_rfl) rfl ?_
      refine l_store h275 rfl rfl rfl (Nat.le_of_ble_eq_true rfl) (by first | exact allOne rfl | simp [Value.cells, Value.oneCell', errV_one]) fun w276 S277 h275 => ?_
      replace h275 : Lc 10 w276 O273 g271 68 [(.int .i64 q221.1.var), (.int .i64 q221.1.val)] := h275
      have hZ := S277.lst [10] (fun _ h => by cases h; decide)
      refine x_go [] hZ (by kernel_rfl) ?_
      refine x_pre (fuel := 0) [] [(16, true)] (by kernel_rfl) rfl ?_
      refine h_as rfl rfl rfl (hwp_nilT ?_)
      refine x_nil (by kernel_rfl) ?_
      replace h199 := ((h199.st S261).st S274).st S277
      replace h202 := ((h202.st S261).st S274).st S277
      obtain ⟨O278, S279, hz281, ha282, h280⟩ := BxR.shut (x := s174.2.2.1) (l0 := 5) (l1 := 9) (by decide) h199 h202
      obtain rfl := sm hy224
      replace hB := ((((hB.st S198).st S261).st S274).st S277).st S279
      replace hx1 := (((hx1.st S261).st S274).st S277).st S279
      replace h8 := ((((h8.st S198).st S261).st S274).st S277).st S279
      replace h11 := ((((h11.st S198).st S261).st S274).st S277).st S279
      replace h14 := ((((h14.st S198).st S261).st S274).st S277).st S279
      replace h17 := (((h17.st S261).st S274).st S277).st S279
      replace h26 := (((h26.st S261).st S274).st S277).st S279
      replace h192 := ((((h192.st S198).st S261).st S274).st S277).st S279
      replace h196 := ((((h196.st S198).st S261).st S274).st S277).st S279
      replace h275 := h275.st S279
      exact ⟨g271, _, ⟨rfl, rfl, rfl, rfl, rfl, rfl, rfl, rfl, trivial⟩, hB, hx1, h26, h8, h11, h14, h17, h280, h196, h192, h275, r269, r270⟩
     ·
      refine l_alloc 10 O197 rfl fun g283 w284 O285 S286 h287 => ?_
      have hZ := S286.lst [] (fun _ h => h.elim)
      refine x_go [(10, []), (15, [10])] hZ (by kernel_rfl) ?_
      refine x_one (i := 10) (by kernel_rfl) rfl ?_
      replace hx1 := (hx1.st S198).st S286
      replace h251 := h251.st S286
      refine l_callA (O := O285) (A := All w284) (R := fun w' F v => T2 w' F v q221) (c_stubborn_missing (fun _ h => h) (Vb.mono (F := Fr 0 w284 O285) h251 Fr.lt) (Vb.mono (F := Fr 0 w284 O285) hx1 Fr.lt) e222) rfl rfl fun v292 w288 O289 S290 h291 => ?_
      obtain ⟨v293, v294, rfl, h295, h296⟩ := h291
      obtain ⟨cs297, rfl, rfl, r298, r299⟩ := h295
      obtain rfl := h296.bool
      have hZ := S290.lst [] (fun _ h => h.elim)
      refine x_go [(15, [10])] hZ (by kernel_rfl) ?_
      refine x_pre (fuel := 3) [] [(11, true), (12, true)] (by kernel_rfl) rfl ?_
      refine h_mv rfl rfl rfl (h_ex rfl rfl rfl rfl (hwp_nilT ?_))
      refine x_pre (fuel := 2) [10] [(13, true)] (by kernel_rfl) rfl ?_
      refine h_ex rfl rfl rfl rfl (hwp_nilT ?_)
      refine x_one (i := 15) (by kernel_rfl) rfl ?_
      replace h287 := h287.st S290
      refine l_store h287 rfl rfl rfl (Nat.le_of_ble_eq_true rfl) (by first | exact allOne rfl | simp [Value.cells, Value.oneCell', errV_one]) fun w300 S301 h287 => ?_
      replace h287 : Lc 10 w300 O289 g283 68 [(.int .i64 q221.1.var), (.int .i64 q221.1.val)] := h287
      have hZ := S301.lst [10] (fun _ h => by cases h; decide)
      refine x_go [] hZ (by kernel_rfl) ?_
      refine x_pre (fuel := 0) [] [(16, true)] (by kernel_rfl) rfl ?_
      refine h_as rfl rfl rfl (hwp_nilT ?_)
      refine x_nil (by kernel_rfl) ?_
      replace h199 := ((h199.st S286).st S290).st S301
      replace h202 := ((h202.st S286).st S290).st S301
      obtain ⟨O302, S303, hz305, ha306, h304⟩ := BxR.shut (x := s174.2.2.1) (l0 := 5) (l1 := 9) (by decide) h199 h202
      obtain rfl := sm hy224
      replace hB := ((((hB.st S198).st S286).st S290).st S301).st S303
      replace hx1 := ((hx1.st S290).st S301).st S303
      replace h8 := ((((h8.st S198).st S286).st S290).st S301).st S303
      replace h11 := ((((h11.st S198).st S286).st S290).st S301).st S303
      replace h14 := ((((h14.st S198).st S286).st S290).st S301).st S303
      replace h17 := (((h17.st S286).st S290).st S301).st S303
      replace h26 := (((h26.st S286).st S290).st S301).st S303
      replace h192 := ((((h192.st S198).st S286).st S290).st S301).st S303
      replace h196 := ((((h196.st S198).st S286).st S290).st S301).st S303
      replace h287 := h287.st S303
      exact ⟨g283, _, ⟨rfl, rfl, rfl, rfl, rfl, rfl, rfl, rfl, trivial⟩, hB, hx1, h26, h8, h11, h14, h17, h304, h196, h192, h287, r298, r299⟩
    replace hB := hB.st S198
    replace hx1 := hx1.st S198
    replace h8 := h8.st S198
    replace h11 := h11.st S198
    replace h14 := h14.st S198
    replace h17 := h17.st S198
    replace h26 := h26.st S198
    replace h192 := h192.st S198
    replace h196 := h196.st S198
    rintro l307 w308 ⟨x226, O309, hs310, hB, hx1, h26, h8, h11, h14, h17, h273, h196, h192, h227, r228, r229⟩
    refine ewp_sub _ hs310 ?_
    refine ewp_seq (ewp_seq (ewp_region (o_mv rfl rfl (o_z ?_))))
    refine ewp_cond rfl (fun c311 => ?_) (fun c311 => ?_)
    ·
     replace hy210 := ip hy210 c311
     refine ewp_seq (ewp_region (o_mv rfl rfl (o_la (hl := rfl) (hc := (h26.1).cellsAt) rfl rfl ?_)))
     refine o_la (hl := rfl) (hc := (h227.1).cellsAt) rfl rfl ?_
     obtain ⟨q312, e313, hy210⟩ := bs hy210
     refine l_call (O := O309) (R := fun w' F v => Vb w' F v q312) (c_stubborn_writers Fr.lt (Vb.ofAgg (cs := [(.slice A9 x0.vars.length c10), (.slice A12 x0.init.length c13), (.slice A15 x0.goal.length c16), (.slice A18 x0.ops.length c19)]) (x := x0) rfl ⟨_, _, _, _, rfl, h8, h11, h14, h17⟩) (Vb.ofAgg (cs := [(.int .i64 q221.1.var), (.int .i64 q221.1.val)]) (x := q221.1) rfl ⟨rfl, r228, r229⟩) e313) rfl rfl fun v318 w314 O315 S316 h317 => ?_
     obtain ⟨A319, c320, rfl⟩ := h317.form
     obtain ⟨q321, e322, hy210⟩ := bs hy210
     replace h196 := h196.st S316
     replace h273 := h273.st S316
     refine l_callMv (O := O315) (c_stubborn_set_l1 h317 h196 h273 (by decide) e322) rfl rfl rfl rfl fun v327 w323 O324 S325 h326 => ?_
     obtain ⟨h328, h329⟩ := h326
     refine o_z ?_
     refine ewp_exit ?_
     obtain rfl := sm hy210
     replace hB := (hB.st S316).st S325
     replace hx1 := (hx1.st S316).st S325
     replace h8 := (h8.st S316).st S325
     replace h11 := (h11.st S316).st S325
     replace h14 := (h14.st S316).st S325
     replace h17 := (h17.st S316).st S325
     replace h26 := (h26.st S316).st S325
     replace h192 := (h192.st S316).st S325
     exact ⟨(x175.1, x175.2), _, ⟨rfl, rfl, rfl, rfl, rfl, rfl, trivial⟩, hB, hx1, h26, h8, h11, h14, h17, h329, h328, h192⟩
    ·
     replace hy210 := im' hy210 c311
     refine ewp_skip (ewp_seq (ewp_region (o_mv rfl rfl ?_)))
     obtain ⟨O330, v334, S331, ha333, h332, h335⟩ := BxR.opn h273 5 9 (by decide)
     obtain ⟨A336, c337, rfl⟩ := h335.form
     refine o_ld (hc := Blk.cell (i := 0) (h332.1) rfl) rfl rfl ?_
     refine o_mv rfl rfl ?_
     obtain ⟨a339, e340, hy210⟩ := bs hy210
     obtain ⟨p342, x341⟩ := atI_some' e340
     obtain ⟨b343, o344, ce345, hA346, hl347, hd348, rfl, r350⟩ := h335.elem x341
     refine o_iaE (hA := hA346) (hj := (Int.toNat_of_nonneg p342).symm) (hlt := hl347) rfl rfl rfl ?_
     refine o_ld (hc := cat0 hd348) rfl rfl ?_
     obtain ⟨u351, e352, hy210⟩ := bs hy210
     obtain ⟨e352, e353, e354⟩ := appI_some e352
     replace h192 := h192.st S331
     refine l_append1 rfl (a := a339) h192 (vInt r350) (fun _ => rfl) rfl (by decide) (by decide) e353 e354 ⟨rfl, rfl⟩ fun g355 A356 c357 w358 O359 S360 h361 => ?_
     rw [← e352] at h361 ⊢
     refine o_as rfl rfl (o_z ?_)
     refine ewp_drawX [(6, [])] O359 ?_
     refine x_pre (fuel := 2) [] [(0, true), (1, true), (2, true), (3, true), (4, true), (5, true)] (by kernel_rfl) rfl ?_
     refine h_mv rfl rfl rfl ?_
     replace h26 := (h26.st S331).st S360
     refine h_laB (hl := rfl) (hb := fun w' ⟨O', hq⟩ => ((h26.st hq (by decide)).1).cellsAt) rfl rfl rfl ?_
     replace h332 := h332.st S360
     refine h_ldC (hc := fun w' ⟨O', hq⟩ => Blk.cell (i := 0) ((h332.st hq (by decide)).1) rfl) rfl rfl rfl ?_
     refine h_mv rfl rfl rfl ?_
     obtain ⟨a363, e364, hy210⟩ := bs hy210
     obtain ⟨p366, x365⟩ := atI_some' e364
     replace h335 := h335.st S360
     obtain ⟨b367, o368, ce369, hA370, hF373, hl371, hd372, rfl, r374⟩ := h335.elemF x365
     refine h_iaE (hA := hA370) (hj := (Int.toNat_of_nonneg p366).symm) (hlt := hl371) rfl rfl rfl rfl ?_
     refine h_ldC (hc := fun w' ⟨O', hq⟩ => cat0 (cellsAt_agree (hq.agree (i := 9) (by decide)) hF373 hd372)) rfl rfl rfl ?_
     refine hwp_nilT ?_
     refine x_one (i := 6) (by kernel_rfl) rfl ?_
     obtain ⟨q375, e376, hy210⟩ := bs hy210
     replace h8 := (h8.st S331).st S360
     replace h11 := (h11.st S331).st S360
     replace h14 := (h14.st S331).st S360
     replace h17 := (h17.st S331).st S360
     refine l_call (O := O359) (R := fun w' F v => Vb w' F v q375) (c_stubborn_meets Fr.lt (Vb.ofAgg (cs := [(.slice A9 x0.vars.length c10), (.slice A12 x0.init.length c13), (.slice A15 x0.goal.length c16), (.slice A18 x0.ops.length c19)]) (x := x0) rfl ⟨_, _, _, _, rfl, h8, h11, h14, h17⟩) r374 e376) rfl rfl fun v381 w377 O378 S379 h380 => ?_
     obtain ⟨A382, c383, rfl⟩ := h380.form
     have hZ := S379.lst [] (fun _ h => h.elim)
     refine x_go [] hZ (by kernel_rfl) ?_
     refine x_one (i := 7) (by kernel_rfl) rfl ?_
     replace h332 := h332.st S379
     replace h335 := h335.st S379
     obtain ⟨O384, S385, hz387, ha388, h386⟩ := BxR.shut (x := s174.2.2.1) (l0 := 5) (l1 := 9) (by decide) h332 h335
     obtain ⟨q389, e390, hy210⟩ := bs hy210
     replace h196 := (((h196.st S331).st S360).st S379).st S385
     replace h380 := h380.st S385
     refine l_callMv (O := O384) (c_stubborn_set_l1 h380 h196 h386 (by decide) e390) rfl rfl rfl rfl fun v395 w391 O392 S393 h394 => ?_
     obtain ⟨h396, h397⟩ := h394
     refine x_end (by kernel_rfl) ?_
     refine x_nil (by kernel_rfl) ?_
     obtain rfl := sm hy210
     replace hB := ((((hB.st S331).st S360).st S379).st S385).st S393
     replace hx1 := ((((hx1.st S331).st S360).st S379).st S385).st S393
     replace h8 := ((h8.st S379).st S385).st S393
     replace h11 := ((h11.st S379).st S385).st S393
     replace h14 := ((h14.st S379).st S385).st S393
     replace h17 := ((h17.st S379).st S385).st S393
     replace h26 := ((h26.st S379).st S385).st S393
     replace h361 := ((h361.st S379).st S385).st S393
     exact ⟨(A356, c357), _, ⟨rfl, rfl, rfl, rfl, rfl, rfl, trivial⟩, hB, hx1, h26, h8, h11, h14, h17, h397, h396, h361⟩
   replace hB := hB.st S198
   replace hx1 := hx1.st S198
   replace h8 := h8.st S198
   replace h11 := h11.st S198
   replace h14 := h14.st S198
   replace h17 := h17.st S198
   replace h26 := h26.st S198
   rintro l398 w399 ⟨x212, O400, hs401, hB, hx1, h26, h8, h11, h14, h17, h215, h216, h213⟩
   refine ewp_sub _ hs401 ?_
   refine ewp_region (o_mv rfl rfl ?_)
   obtain ⟨n402, e403, hf182⟩ := bs hf182
   have r404 := (chkI_rng e403)
   refine o_adE (he := e403) rfl rfl rfl ?_
   refine o_as rfl rfl (o_z ?_)
   obtain rfl := sm hf182
   refine (?_ : Exists _)
   exact ⟨_, (x212.1, x212.2), rfl, ⟨rfl, rfl, rfl, rfl, rfl, rfl, trivial⟩, _, hB, hx1, h26, h8, h11, h14, h17, h215, h216, h213, r404⟩
  ·
   replace hf182 := im hf182 c208
   refine o_z ?_
   refine ewp_false rfl (ewp_exit ?_)
   obtain ⟨O405, S406, hz408, ha409, h407⟩ := BxR.shut (x := s174.2.2.1) (l0 := 5) (l1 := 9) (by decide) h199 h202
   obtain rfl := sm hf182
   refine (?_ : Exists _)
   replace hB := (hB.st S198).st S406
   replace h192 := (h192.st S198).st S406
   exact ⟨_, (x175.1, x175.2), hbrk184 _ rfl, ⟨rfl, trivial⟩, _, hB, h192, r194⟩
 rintro l410 w411 ⟨s414, x415, rfl, hs413, O412, hB, h192, r194⟩
 replace hm := fin_done hm
 refine ewp_sub _ hs413 ?_
 refine ewp_seq (ewp_region (o_mv rfl rfl ?_))
 obtain ⟨q416, e417, hm⟩ := bs hm
 refine l_callM (O := O412) (c_slices_Sort_Lint_int h192 e417) rfl rfl fun v422 w418 O419 S420 h423 => ?_
 refine o_z ?_
 refine ewp_seq (ewp_region (o_mv rfl rfl (o_as rfl rfl (o_z ?_))))
 refine ewp_ret ?_
 obtain ⟨O424, S425, h423⟩ := h423.freeze
 obtain rfl := sm hm
 replace hB := (hB.st S420).st S425
 exact ret1v rfl (res_tmp rfl) ⟨hB.ext, (Vb.mono (F := Fr 0 w418 O424) h423 hB.out)⟩
noncomputable def m_stubborn_Set (x0 : Tsk) (x1 : List Int) : Option ((List Int) × Err) :=
  bnd (m_task_Check x0) fun q27 => if q27.n ≠ 0 then (some (([] : List Int), (⟨q27.n⟩ : Err))) else (bnd (m_task_Proper x0.vars x1) fun q36 => if q36 = true then bnd (m_stubborn_set x0 x1) fun q43 => some (q43, (⟨0⟩ : Err)) else some (([] : List Int), (⟨2⟩ : Err)))
theorem c_stubborn_Set {w : World} {A : Nat → Prop} (hA : ∀ k, A k → k < w.heap.size) {vx0 : Value} {x0 : Tsk} (hx0 : Vb w A vx0 x0) {vx1 : Value} {x1 : List Int} (hx1 : Vb w A vx1 x1) {r : (List Int) × Err} (hm : m_stubborn_Set x0 x1 = some r) :
    Fn Try.prog 12 [vx0, vx1] w fun v w' => Ext w w' ∧ T2 w' (upA A w w') v r := by
 obtain ⟨O, hB, hA0⟩ := enter hA
 replace hx0 := hx0.mono hA0
 obtain ⟨cs3, rfl, v4, v5, v6, v7, rfl, h8, h11, h14, h17⟩ := hx0
 obtain ⟨A9, c10, rfl⟩ := h8.form
 obtain ⟨A12, c13, rfl⟩ := h11.form
 obtain ⟨A15, c16, rfl⟩ := h14.form
 obtain ⟨A18, c19, rfl⟩ := h17.form
 replace hx1 := hx1.mono hA0
 obtain ⟨A20, c21, rfl⟩ := hx1.form
 refine fn_enter Try.func12 rfl Try.ntmps12 rfl ?_
 unfold m_stubborn_Set at hm
 refine ewp_seq (ewp_region (l_box 2 O rfl rfl fun g22 w23 O24 S25 h26 => ?_))
 replace h26 : Lc 2 w23 O24 g22 26 [(.slice A9 x0.vars.length c10), (.slice A12 x0.init.length c13), (.slice A15 x0.goal.length c16), (.slice A18 x0.ops.length c19)] := h26
 refine o_as rfl rfl (o_as rfl rfl (o_z ?_))
 refine ewp_seq (ewp_seq (ewp_region (o_la (hl := rfl) (hc := (h26.1).cellsAt) rfl rfl ?_)))
 obtain ⟨q27, e28, hm⟩ := bs hm
 replace h8 := h8.st S25
 replace h11 := h11.st S25
 replace h14 := h14.st S25
 replace h17 := h17.st S25
 refine l_callA (O := O24) (A := All w23) (R := fun w' F v => Vb w' F v q27) (c_task_Check (fun _ h => h) (Vb.mono (F := Fr 0 w23 O24) (Vb.ofAgg (cs := [(.slice A9 x0.vars.length c10), (.slice A12 x0.init.length c13), (.slice A15 x0.goal.length c16), (.slice A18 x0.ops.length c19)]) (x := x0) rfl ⟨_, _, _, _, rfl, h8, h11, h14, h17⟩) Fr.lt) e28) rfl rfl fun v33 w29 O30 S31 h32 => ?_
 obtain ⟨rfl, r34⟩ := h32.err
 refine o_as rfl rfl (o_z ?_)
 refine ewp_seq (ewp_region (o_mv rfl rfl (o_rnS rfl rfl (fun c35 => ?_) fun c35 => ?_)))
 ·
  replace hm := ip hm c35
  refine o_z ?_
  refine ewp_true rfl (ewp_seq (ewp_region (o_mv rfl rfl (o_as rfl rfl (o_as rfl rfl (o_z ?_))))))
  refine ewp_ret ?_
  obtain rfl := sm hm
  replace hB := (hB.st S25).st S31
  exact ret2 rfl (res_tmp rfl) (res_tmp rfl) ⟨hB.ext, _, _, rfl, (Vb.mono (F := Fr 0 w29 O30) (Vb.nil _ _) hB.out), (vErr r34)⟩
 ·
  replace hm := im hm c35
  refine o_z ?_
  refine ewp_false rfl (ewp_skip (ewp_seq (ewp_seq (ewp_region (o_fa rfl rfl ?_)))))
  replace h26 := h26.st S31
  refine o_ld (hc := Blk.cell (i := 0) (h26.1) rfl) rfl rfl ?_
  refine o_mv rfl rfl ?_
  obtain ⟨q36, e37, hm⟩ := bs hm
  replace hx1 := (hx1.st S25).st S31
  replace h8 := h8.st S31
  refine l_callA (O := O30) (A := All w29) (R := fun w' F v => Vb w' F v q36) (c_task_Proper (fun _ h => h) (Vb.mono (F := Fr 0 w29 O30) h8 Fr.lt) (Vb.mono (F := Fr 0 w29 O30) hx1 Fr.lt) e37) rfl rfl fun v42 w38 O39 S40 h41 => ?_
  obtain rfl := h41.bool
  cases q36
  case false =>
   replace hm := iF hm
   refine o_nf rfl rfl (o_z ?_)
   refine ewp_true rfl (ewp_seq (ewp_region (o_miE rfl rfl ?_)))
   refine o_as rfl rfl (o_as rfl rfl (o_z ?_))
   refine ewp_ret ?_
   obtain rfl := sm hm
   replace hB := ((hB.st S25).st S31).st S40
   exact ret2 rfl (res_tmp rfl) (res_tmp rfl) ⟨hB.ext, _, _, rfl, (Vb.mono (F := Fr 0 w38 O39) (Vb.nil _ _) hB.out), (vErr (by decide))⟩
  replace hm := iT hm
  refine o_nt rfl rfl (o_z ?_)
  refine ewp_false rfl (ewp_skip (ewp_seq (ewp_region ?_)))
  replace h26 := h26.st S40
  refine o_la (hl := rfl) (hc := (h26.1).cellsAt) rfl rfl ?_
  refine o_mv rfl rfl ?_
  obtain ⟨q43, e44, hm⟩ := bs hm
  replace hx1 := hx1.st S40
  replace h8 := h8.st S40
  replace h11 := (h11.st S31).st S40
  replace h14 := (h14.st S31).st S40
  replace h17 := (h17.st S31).st S40
  refine l_call (O := O39) (R := fun w' F v => Vb w' F v q43) (c_stubborn_set Fr.lt (Vb.ofAgg (cs := [(.slice A9 x0.vars.length c10), (.slice A12 x0.init.length c13), (.slice A15 x0.goal.length c16), (.slice A18 x0.ops.length c19)]) (x := x0) rfl ⟨_, _, _, _, rfl, h8, h11, h14, h17⟩) hx1 e44) rfl rfl fun v49 w45 O46 S47 h48 => ?_
  obtain ⟨A50, c51, rfl⟩ := h48.form
  refine o_as rfl rfl (o_as rfl rfl (o_z ?_))
  refine ewp_ret ?_
  obtain rfl := sm hm
  replace hB := (((hB.st S25).st S31).st S40).st S47
  exact ret2 rfl (res_tmp rfl) (res_tmp rfl) ⟨hB.ext, _, _, rfl, (Vb.mono (F := Fr 0 w45 O46) h48 hB.out), (vErr (show inI64 0 from by decide))⟩
end
section
open Go Go.RowKit
attribute [local irreducible] ewp owp hwp hwq Ev Evg Fn retPost Res1
def exts (n : Nat) (s : List Int) : List (List Int) := (List.range n).map fun x : Nat => s ++ [(x : Int)]
def grows (out : List (List Int)) (k : Int) : List (List Int) := out.flatMap (exts k.toNat)
def statesL (vars : List Int) : List (List Int) := vars.foldl grows [[]]
theorem statesL_step {vars : List Int} {k : Nat} {n : Int} (h : vars[k]? = some n) : statesL (vars.take (k + 1)) = grows (statesL (vars.take k)) n := by
  unfold statesL
  rw [List.take_add_one, h, List.foldl_append]; rfl
theorem exts_step (n : Nat) (s : List Int) : exts (n + 1) s = exts n s ++ [s ++ [(n : Int)]] := by unfold exts; rw [List.range_succ]; simp
theorem exts_len (n : Nat) (s : List Int) : (exts n s).length = n := by simp [exts]
theorem grows_len (n : Nat) : ∀ l : List (List Int), (l.flatMap (exts n)).length = l.length * n
  | [] => by simp
  | s :: l => by rw [List.flatMap_cons, List.length_append, exts_len, grows_len n l, List.length_cons, Nat.add_mul]; omega
theorem flat_step {α β : Type} (f : α → List β) {l : List α} {k : Nat} {x : α} (h : l[k]? = some x) : (l.take (k + 1)).flatMap f = (l.take k).flatMap f ++ f x := by
  rw [List.take_add_one, h]; simp
theorem statesL_mem (vars : List Int) : ∀ (k : Nat), k ≤ vars.length → ∀ s ∈ statesL (vars.take k), s.length = k := by
  intro k
  induction k with
  | zero => intro _ s hs; simp [statesL] at hs; simp [hs]
  | succ k ih =>
    intro hk s hs
    obtain ⟨n, hn⟩ : ∃ n, vars[k]? = some n := ⟨vars[k], List.getElem?_eq_getElem (by omega)⟩
    rw [statesL_step hn] at hs
    obtain ⟨s', h1, h2⟩ := List.mem_flatMap.1 hs
    obtain ⟨x, _, rfl⟩ := List.mem_map.1 h2
    simp [ih (by omega) s' h1]
end
section
open Go Go.RowKit
def prodV : List Int → Nat → Nat
  | [], n => n
  | k :: r, n => prodV r (n * k.toNat)
theorem foldl_grows_len : ∀ (vars : List Int) (out : List (List Int)), (vars.foldl grows out).length = prodV vars out.length
  | [], _ => rfl
  | k :: r, out => by
    simp only [List.foldl_cons, prodV]
    rw [foldl_grows_len r, grows, grows_len]
theorem statesL_len (vars : List Int) : (statesL vars).length = prodV vars 1 := foldl_grows_len vars [[]]
theorem many_prod {most : Nat} : ∀ (vars : List Int) (n : Nat), (∀ x ∈ vars, 1 ≤ x) → 1 ≤ n → manyF most vars (n : Int) ≤ most → ∀ k, prodV (vars.take k) n ≤ most
  | [], n, _, _, h, k => by simp only [List.take_nil, prodV]; simp only [manyF] at h; omega
  | x :: r, n, hx, hn, h, k => by
    have h1 : 1 ≤ x := hx x List.mem_cons_self
    simp only [manyF] at h
    have hmax : max x 0 = x := by omega
    rw [hmax] at h
    obtain ⟨m, rfl⟩ : ∃ m : Nat, x = (m : Int) := ⟨x.toNat, by omega⟩
    by_cases hm : (m : Int) ≤ most
    · rw [show min (m : Int) (most + 1) = (m : Int) from by omega, ← Int.natCast_mul] at h
      have hnm : n ≤ n * m := Nat.le_mul_of_pos_right n (by omega)
      by_cases hc : (most : Int) < ((n * m : Nat) : Int)
      · rw [if_pos hc] at h; omega
      · rw [if_neg hc] at h
        cases k with
        | zero => simp only [List.take_zero, prodV]; omega
        | succ k =>
          simp only [List.take_succ_cons, prodV, Int.toNat_natCast]
          exact many_prod r (n * m) (fun y hy => hx y (List.mem_cons_of_mem _ hy)) (by omega) h k
    · exfalso
      rw [show min (m : Int) (most + 1) = ((most + 1 : Nat) : Int) from by omega, ← Int.natCast_mul] at h
      have : most + 1 ≤ n * (most + 1) := Nat.le_mul_of_pos_left _ hn
      rw [if_pos (by omega)] at h
      omega
theorem stateOk_cons {y x : Int} {vs s : List Int} : StateOk (y :: vs) (x :: s) ↔ (0 ≤ x ∧ x < y) ∧ StateOk vs s := by
  constructor
  · intro h
    exact ⟨h.2 0 x y rfl rfl, by have := h.1; simpa using this, fun i a b ha hb => h.2 (i + 1) a b (by simpa using ha) (by simpa using hb)⟩
  · rintro ⟨h1, h2, h3⟩
    refine ⟨by simpa using h2, fun i a b ha hb => ?_⟩
    cases i with
    | zero => simp at ha hb; subst ha; subst hb; exact h1
    | succ i => exact h3 i a b (by simpa using ha) (by simpa using hb)
theorem stateOk_nil : StateOk [] [] := ⟨rfl, fun i a b ha => by simp at ha⟩
theorem mem_exts {n : Nat} {s t : List Int} : t ∈ exts n s ↔ ∃ x : Nat, x < n ∧ t = s ++ [(x : Int)] := by
  unfold exts
  rw [List.mem_map]
  constructor
  · rintro ⟨x, hx, rfl⟩; exact ⟨x, List.mem_range.1 hx, rfl⟩
  · rintro ⟨x, hx, rfl⟩; exact ⟨x, List.mem_range.2 hx, rfl⟩
theorem mem_foldl_grows : ∀ (vars : List Int) (out : List (List Int)) (s : List Int), s ∈ vars.foldl grows out ↔ ∃ s0 ∈ out, ∃ r, s = s0 ++ r ∧ StateOk vars r
  | [], out, s => by
    constructor
    · intro h; exact ⟨s, h, [], by simp, stateOk_nil⟩
    · rintro ⟨s0, h, r, rfl, hr⟩
      have : r = [] := List.eq_nil_of_length_eq_zero hr.1
      subst this; simpa using h
  | k :: vs, out, s => by
    simp only [List.foldl_cons]
    rw [mem_foldl_grows vs (grows out k) s]
    constructor
    · rintro ⟨s1, h1, r, rfl, hr⟩
      obtain ⟨s0, h0, h2⟩ := List.mem_flatMap.1 h1
      obtain ⟨x, hx, rfl⟩ := mem_exts.1 h2
      exact ⟨s0, h0, (x : Int) :: r, by simp, stateOk_cons.2 ⟨⟨by omega, by omega⟩, hr⟩⟩
    · rintro ⟨s0, h0, r, rfl, hr⟩
      cases r with
      | nil => have := hr.1; simp at this
      | cons x r =>
        obtain ⟨⟨h1, h2⟩, h3⟩ := stateOk_cons.1 hr
        exact ⟨s0 ++ [x], List.mem_flatMap.2 ⟨s0, h0, mem_exts.2 ⟨x.toNat, by omega, by rw [show ((x.toNat : Nat) : Int) = x from by omega]⟩⟩, r, by simp, h3⟩
theorem mem_statesL {vars s : List Int} : s ∈ statesL vars ↔ StateOk vars s := by
  unfold statesL
  rw [mem_foldl_grows]
  constructor
  · rintro ⟨s0, h0, r, rfl, hr⟩
    have : s0 = [] := by simpa using h0
    subst this; exact hr
  · intro h; exact ⟨[], by simp, s, rfl, h⟩
theorem SmallOk.ok {t : Tsk} (h : SmallOk t) : TaskOk t := h.2.2.2.1
theorem SmallOk.states {t : Tsk} (h : SmallOk t) : ∀ k, (statesL (t.vars.take k)).length ≤ 512 := fun k => by
  rw [statesL_len]
  refine many_prod (most := 512) t.vars 1 (fun x hx => ?_) (Nat.le_refl _) h.2.2.2.2 k
  obtain ⟨i, hi, rfl⟩ := List.getElem_of_mem hx
  exact (h.ok.vars i _ (List.getElem?_eq_getElem hi)).1
theorem SmallOk.many {t : Tsk} (h : SmallOk t) : (statesL t.vars).length ≤ 512 := by
  have := h.states t.vars.length
  rwa [List.take_length] at this
end
section
open Go Go.RowKit
attribute [local irreducible] ewp owp hwp hwq Ev Evg Fn retPost Res1
structure Edg where
  src : Int
  op : Int
  dst : Int
instance : Rp Edg where
  isAgg := true
  size := 3
  R w F cs x := cs = [.int .i64 x.src, .int .i64 x.op, .int .i64 x.dst] ∧ inI64 x.src ∧ inI64 x.op ∧ inI64 x.dst
  len := by rintro w F cs x ⟨rfl, h0, h1, h2⟩; rfl
  one := by rintro w F cs x ⟨rfl, h0, h1, h2⟩ u hu; simp at hu; rcases hu with rfl | rfl | rfl <;> first | rfl | exact Vb.one rfl (by assumption)
  agree := by rintro w w' F cs x ⟨rfl, h0, h1, h2⟩ ha; exact ⟨rfl, h0, h1, h2⟩
  mono := by rintro w F G cs x ⟨rfl, h0, h1, h2⟩ ha; exact ⟨rfl, h0, h1, h2⟩
noncomputable def m_base_States (x0 : List Int) : Option (List (List Int)) :=
  bnd (rng (ρ := (List (List Int))) (fun (k24 : Nat) (a25 : Int) (s22 : (List (List Int))) => bnd (rng (ρ := Ctl (List (List Int)) (List (List Int))) (fun (k53 : Nat) (a54 : List Int) (s51 : (List (List Int))) => bnd (natI a25) fun N92 => bnd (rngN (ρ := Ctl (List (List Int)) (Ctl (List (List Int)) (List (List Int)))) (fun (k83 : Nat) (s81 : (List (List Int))) => bnd (appI 8 ([] : List Int) a54) fun u104 => bnd (appI 8 u104 [(k83 : Int)]) fun u115 => bnd (appI 24 s81 [u115]) fun u129 => some (.next u129)) N92 s51) fun res79 => fin res79 fun (s145 : (List (List Int))) => some (.next s145)) s22 0 ([] : List (List Int))) fun res49 => fin res49 fun (s151 : (List (List Int))) => some (.next s151)) x0 0 [([] : List Int)]) fun res20 => fin res20 fun (s159 : (List (List Int))) => some s159
theorem c_base_States {w : World} {A : Nat → Prop} (hA : ∀ k, A k → k < w.heap.size) {vx0 : Value} {x0 : List Int} (hx0 : Vb w A vx0 x0) {r : (List (List Int))} (hm : m_base_States x0 = some r) :
    Fn Try.prog 18 [vx0] w fun v w' => Ext w w' ∧ Vb w' (upA A w w') v r := by
 obtain ⟨O, hB, hA0⟩ := enter hA
 replace hx0 := hx0.mono hA0
 obtain ⟨A2, c3, rfl⟩ := hx0.form
 refine fn_enter Try.func18 rfl Try.ntmps18 rfl ?_
 unfold m_base_States at hm
 refine ewp_seq (ewp_region (o_as rfl rfl (o_z ?_)))
 refine ewp_seq (ewp_region (l_bslice 2 (by decide) O (xs := (([] : List Int) : List Int)) rfl rfl rfl rfl trivial (by decide) (by decide) rfl fun g4 w5 O6 S7 h8 => ?_))
 obtain ⟨O10, S11, h8⟩ := h8.freeze
 refine l_bslice 3 (by decide) O10 (xs := ([([] : List Int)] : List (List Int))) rfl rfl rfl rfl ⟨h8, trivial⟩ (by decide) (by decide) rfl fun g12 w13 O14 S15 h16 => ?_
 refine o_as rfl rfl (o_z ?_)
 refine ewp_seq (ewp_seq (ewp_region (o_mv rfl rfl (o_ln rfl rfl ?_))))
 replace hx0 := ((hx0.st S7).st S11).st S15
 have l19 : x0.length ≤ 9223372036854775807 := Nat.le_trans hx0.len.2.1 hx0.len.2.2
 have r18 : inI64 (x0.length : Int) := rngNat l19
 refine o_mv rfl rfl (o_z ?_)
 obtain ⟨res20, hL21, hm⟩ := bs hm
 refine ewp_join (aft res20 (fun (s22 : (List (List Int))) (x23 : (Option Addr × Nat)) => [(3, (.slice x23.1 s22.length x23.2))]) (fun s22 x23 w' => ∃ O' : Lab, Bs w A w' O' ∧ Vb w' (Fr 0 w' O') (.slice x23.1 s22.length x23.2) s22)) ?_ ?_
 ·
  refine ewp_block ?_
  obtain ⟨O37, S38, h16⟩ := h16.freeze
  replace hB := (((hB.st S7).st S11).st S15).st S38
  replace hx0 := hx0.st S38
  refine ewp_rng (σ := (List (List Int))) (X := (Option Addr × Nat)) (x0.length) hL21 rfl l19 (fun (s22 : (List (List Int))) (x23 : (Option Addr × Nat)) => [(3, (.slice x23.1 s22.length x23.2)), (12, (.slice A2 x0.length c3))]) _ (fun s22 x23 w' => ∃ O' : Lab, Bs w A w' O' ∧ Vb w' (Fr 0 w' O') (.slice x23.1 s22.length x23.2) s22 ∧ Vb w' (Fr 0 w' O') (.slice A2 x0.length c3) x0) _ ((some ⟨g12, 0, none⟩), 1) ⟨O37, hB, h16, hx0⟩ ⟨rfl, rfl, rfl, rfl, trivial⟩ (fun _ _ => ⟨rfl, rfl⟩) (fun _ _ => ⟨rfl, trivial⟩) (fun _ _ _ ⟨O', hB, h36, hx0⟩ => ⟨O', hB, h36⟩) ⟨rfl, rfl, rfl⟩ ⟨rfl, rfl⟩ ?_
  rintro k24 a25 s22 x23 w26 cc28 hx29 ⟨O27, hB, h36, hx0⟩ hf30 hret31 hbrk32
  have rk24 : inI64 (k24 : Int) := rngK hx29 l19
  refine ewp_seq (ewp_region ?_)
  obtain ⟨b39, o40, ce41, hA42, hl43, hd44, rfl, r46⟩ := hx0.elem' hx29
  refine o_iaE (hA := hA42) (hj := rfl) (hlt := hl43) rfl rfl rfl ?_
  refine o_ld (hc := cat0 hd44) rfl rfl ?_
  refine o_as rfl rfl (o_z ?_)
  refine ewp_seq (ewp_region (o_as rfl rfl (o_z ?_)))
  refine ewp_seq (ewp_seq (ewp_region (o_mv rfl rfl (o_ln rfl rfl ?_))))
  have l48 : s22.length ≤ 9223372036854775807 := Nat.le_trans h36.len.2.1 h36.len.2.2
  have r47 : inI64 (s22.length : Int) := rngNat l48
  refine o_mv rfl rfl (o_z ?_)
  obtain ⟨res49, hL50, hf30⟩ := bs hf30
  refine ewp_join (aft res49 (fun (s51 : (List (List Int))) (x52 : (Option Addr × Nat)) => [(6, (.slice x52.1 s51.length x52.2)), (12, (.slice A2 x0.length c3)), (13, (.int .i64 (x0.length : Int))), (14, (.int .i64 (k24 : Int)))]) (fun s51 x52 w' => ∃ O' : Lab, Bs w A w' O' ∧ Rw 5 w' O' 22 (.slice x52.1 s51.length x52.2) s51 ∧ Vb w' (Fr 0 w' O') (.slice A2 x0.length c3) x0)) ?_ ?_
  ·
   refine ewp_block (ewp_rng (σ := (List (List Int))) (X := (Option Addr × Nat)) (s22.length) hL50 rfl l48 (fun (s51 : (List (List Int))) (x52 : (Option Addr × Nat)) => [(5, (.int .i64 a25)), (6, (.slice x52.1 s51.length x52.2)), (12, (.slice A2 x0.length c3)), (13, (.int .i64 (x0.length : Int))), (14, (.int .i64 (k24 : Int))), (18, (.slice x23.1 s22.length x23.2))]) _ (fun s51 x52 w' => ∃ O' : Lab, Bs w A w' O' ∧ Rw 5 w' O' 22 (.slice x52.1 s51.length x52.2) s51 ∧ Vb w' (Fr 0 w' O') (.slice A2 x0.length c3) x0 ∧ Vb w' (Fr 0 w' O') (.slice x23.1 s22.length x23.2) s22) _ (none, 0) ⟨O27, hB, (Rw.nil 5 (by decide)), hx0, h36⟩ ⟨rfl, rfl, rfl, rfl, rfl, rfl, rfl, rfl, trivial⟩ (fun _ _ => ⟨rfl, rfl⟩) (fun _ _ => ⟨rfl, rfl, rfl, rfl, trivial⟩) (fun _ _ _ ⟨O', hB, h66, hx0, h36⟩ => ⟨O', hB, h66, hx0⟩) ⟨rfl, rfl, rfl⟩ ⟨rfl, rfl⟩ ?_)
   rintro k53 a54 s51 x52 w55 cc57 hx58 ⟨O56, hB, h66, hx0, h36⟩ hf59 hret60 hbrk61
   have rk53 : inI64 (k53 : Int) := rngK hx58 l48
   refine ewp_seq (ewp_region ?_)
   obtain ⟨b68, o69, ce70, hA71, hl72, hd73, v75, rfl, h76⟩ := h36.elem' hx58
   replace h76 := Vb.of_slice h76
   obtain ⟨A77, c78, rfl⟩ := h76.form
   refine o_iaE (hA := hA71) (hj := rfl) (hlt := hl72) rfl rfl rfl ?_
   refine o_ld (hc := cat0 hd73) rfl rfl ?_
   refine o_as rfl rfl (o_z ?_)
   refine ewp_seq (ewp_region (o_mv rfl rfl (o_mv rfl rfl (o_z ?_))))
   obtain ⟨N92, hN93, hf59⟩ := bs hf59
   replace hN93 := natI_some hN93
   obtain ⟨res79, hL80, hf59⟩ := bs hf59
   refine ewp_join (aft res79 (fun (s81 : (List (List Int))) (x82 : (Option Addr × Nat)) => [(5, (.int .i64 a25)), (6, (.slice x82.1 s81.length x82.2)), (12, (.slice A2 x0.length c3)), (13, (.int .i64 (x0.length : Int))), (14, (.int .i64 (k24 : Int))), (18, (.slice x23.1 s22.length x23.2)), (19, (.int .i64 (s22.length : Int))), (20, (.int .i64 (k53 : Int)))]) (fun s81 x82 w' => ∃ O' : Lab, Bs w A w' O' ∧ Rw 5 w' O' 22 (.slice x82.1 s81.length x82.2) s81 ∧ Vb w' (Fr 0 w' O') (.slice A2 x0.length c3) x0 ∧ Vb w' (Fr 0 w' O') (.slice x23.1 s22.length x23.2) s22)) ?_ ?_
   ·
    refine ewp_block (ewp_rngN (σ := (List (List Int))) (X := (Option Addr × Nat)) N92 hL80 (natI_le hN93 r46) (fun (s81 : (List (List Int))) (x82 : (Option Addr × Nat)) => [(5, (.int .i64 a25)), (6, (.slice x82.1 s81.length x82.2)), (8, (.slice A77 a54.length c78)), (12, (.slice A2 x0.length c3)), (13, (.int .i64 (x0.length : Int))), (14, (.int .i64 (k24 : Int))), (18, (.slice x23.1 s22.length x23.2)), (19, (.int .i64 (s22.length : Int))), (20, (.int .i64 (k53 : Int)))]) _ (fun s81 x82 w' => ∃ O' : Lab, Bs w A w' O' ∧ Rw 5 w' O' 22 (.slice x82.1 s81.length x82.2) s81 ∧ Vb w' (Fr 0 w' O') (.slice A77 a54.length c78) a54 ∧ Vb w' (Fr 0 w' O') (.slice A2 x0.length c3) x0 ∧ Vb w' (Fr 0 w' O') (.slice x23.1 s22.length x23.2) s22) _ (x52.1, x52.2) ⟨O56, hB, h66, h76, hx0, h36⟩ ⟨rfl, (congrArg (fun z => some (Value.int .i64 z)) hN93), rfl, rfl, rfl, rfl, rfl, rfl, rfl, rfl, rfl, trivial⟩ (fun _ _ => ⟨rfl, rfl⟩) (fun _ _ => ⟨rfl, rfl, rfl, rfl, rfl, rfl, rfl, rfl, trivial⟩) (fun _ _ _ ⟨O', hB, h96, h76, hx0, h36⟩ => ⟨O', hB, h96, hx0, h36⟩) ⟨rfl, rfl, rfl⟩ ⟨rfl, rfl⟩ ?_)
    rintro k83 s81 x82 w85 cc87 hx88 ⟨O86, hB, h96, h76, hx0, h36⟩ hf89 hret90 hbrk91
    have rk83 : inI64 (k83 : Int) := rngKN hx88 (natI_le hN93 r46)
    refine ewp_seq (ewp_region (o_mv rfl rfl (o_as rfl rfl (o_z ?_))))
    refine ewp_region (o_mv rfl rfl (l_bslice 4 (by decide) O86 (xs := (([] : List Int) : List Int)) rfl rfl rfl rfl trivial (by decide) (by decide) rfl fun g98 w99 O100 S101 h102 => ?_))
    refine o_mv rfl rfl ?_
    obtain ⟨u104, e105, hf89⟩ := bs hf89
    obtain ⟨e105, e106, e107⟩ := appI_some e105
    replace h76 := h76.st S101
    refine l_append rfl h102 (h76.rd) rfl rfl (by decide) e106 e107 rfl fun A108 c109 w110 O111 S112 h113 => ?_
    rw [← e105] at h113 ⊢
    refine o_mv rfl rfl ?_
    obtain ⟨u115, e116, hf89⟩ := bs hf89
    obtain ⟨e116, e117, e118⟩ := appI_some e116
    refine l_append1 rfl (a := (k83 : Int)) h113 (vInt rk83) (fun _ => rfl) rfl (by decide) (by decide) e117 e118 ⟨rfl, rfl⟩ fun g119 A120 c121 w122 O123 S124 h125 => ?_
    rw [← e116] at h125 ⊢
    obtain ⟨O127, S128, h125⟩ := h125.freeze
    obtain ⟨u129, e130, hf89⟩ := bs hf89
    obtain ⟨e130, e131, e132⟩ := appI_some e130
    replace h96 := (((h96.st S101).st S112).st S124).st S128
    refine l_append1 rfl (a := u115) h96 h125 (fun _ => rfl) rfl (by decide) (by decide) e131 e132 ⟨rfl, rfl⟩ fun g133 A134 c135 w136 O137 S138 h139 => ?_
    rw [← e130] at h139 ⊢
    refine o_as rfl rfl (o_z ?_)
    obtain rfl := sm hf89
    refine (?_ : Exists _)
    replace hB := ((((hB.st S101).st S112).st S124).st S128).st S138
    replace hx0 := ((((hx0.st S101).st S112).st S124).st S128).st S138
    replace h36 := ((((h36.st S101).st S112).st S124).st S128).st S138
    replace h76 := (((h76.st S112).st S124).st S128).st S138
    exact ⟨_, (A134, c135), rfl, ⟨rfl, rfl, rfl, rfl, rfl, rfl, rfl, rfl, rfl, rfl, rfl, trivial⟩, _, hB, h139, h76, hx0, h36⟩
   rintro l141 w142 ⟨s145, x146, rfl, hs144, O143, hB, h96, hx0, h36⟩
   replace hf59 := fin_done hf59
   obtain rfl := sm hf59
   refine (?_ : Exists _)
   exact ⟨_, (x146.1, x146.2), rfl, ⟨(subs_lk hs144 _ _ rfl), (subs_lk hs144 _ _ rfl), (subs_lk hs144 _ _ rfl), (subs_lk hs144 _ _ rfl), (subs_lk hs144 _ _ rfl), (subs_lk hs144 _ _ rfl), (subs_lk hs144 _ _ rfl), (subs_lk hs144 _ _ rfl), trivial⟩, _, hB, h96, hx0, h36⟩
  rintro l147 w148 ⟨s151, x152, rfl, hs150, O149, hB, h66, hx0⟩
  replace hf30 := fin_done hf30
  refine ewp_sub _ hs150 ?_
  refine ewp_region (o_mv rfl rfl (o_as rfl rfl (o_z ?_)))
  obtain ⟨O153, S154, h66⟩ := h66.freeze
  obtain rfl := sm hf30
  refine (?_ : Exists _)
  replace hB := hB.st S154
  replace hx0 := hx0.st S154
  exact ⟨_, (x152.1, x152.2), rfl, ⟨rfl, rfl, rfl, rfl, trivial⟩, _, hB, h66, hx0⟩
 replace hB := ((hB.st S7).st S11).st S15
 rintro l155 w156 ⟨s159, x160, rfl, hs158, O157, hB, h36⟩
 replace hm := fin_done hm
 refine ewp_sub _ hs158 ?_
 refine ewp_seq (ewp_region (o_mv rfl rfl (o_as rfl rfl (o_z ?_))))
 refine ewp_ret ?_
 obtain rfl := sm hm
 exact ret1v rfl (res_tmp rfl) ⟨hB.ext, (Vb.mono (F := Fr 0 w156 O157) h36 hB.out)⟩
noncomputable def m_base_Apply (x0 : Tsk) (x1 : List Int) (x2 : Int) : Option ((List Int) × Bool) :=
  bnd (if x2 < 0 then (some true) else (if (x0.ops.length : Int) ≤ x2 then (some true) else (bnd (atI x0.ops x2) fun a36 => bnd (m_base_Holds a36.pre x1) fun q57 => if q57 = true then some false else some true)) : Option Bool) fun y28 => if y28 = true then (some (([] : List Int), false)) else (bnd (appI 8 ([] : List Int) x1) fun u75 => bnd (atI x0.ops x2) fun a86 => bnd (rng (ρ := (List Int) × Bool) (fun (k113 : Nat) (a114 : Eff) (s111 : (List Int)) => bnd (m_base_Holds a114.cond x1) fun q148 => if q148 = true then bnd (atI s111 a114.var) fun a155 => some (.next (s111.set (a114.var : Int).toNat a114.val)) else some (.next s111)) a86.effs 0 u75) fun res109 => fin res109 fun (s173 : (List Int)) => some (s173, true))
theorem c_base_Apply {w : World} {A : Nat → Prop} (hA : ∀ k, A k → k < w.heap.size) {vx0 : Value} {x0 : Tsk} (hx0 : Vb w A vx0 x0) {vx1 : Value} {x1 : List Int} (hx1 : Vb w A vx1 x1) {x2 : Int} (rx2 : inI64 x2) {r : (List Int) × Bool} (hm : m_base_Apply x0 x1 x2 = some r) :
    Fn Try.prog 20 [vx0, vx1, (.int .i64 x2)] w fun v w' => Ext w w' ∧ T2 w' (upA A w w') v r := by
 obtain ⟨O, hB, hA0⟩ := enter hA
 replace hx0 := hx0.mono hA0
 obtain ⟨cs4, rfl, v5, v6, v7, v8, rfl, h9, h12, h15, h18⟩ := hx0
 obtain ⟨A10, c11, rfl⟩ := h9.form
 obtain ⟨A13, c14, rfl⟩ := h12.form
 obtain ⟨A16, c17, rfl⟩ := h15.form
 obtain ⟨A19, c20, rfl⟩ := h18.form
 replace hx1 := hx1.mono hA0
 obtain ⟨A21, c22, rfl⟩ := hx1.form
 refine fn_enter Try.func20 rfl Try.ntmps20 rfl ?_
 unfold m_base_Apply at hm
 refine ewp_seq (ewp_region (l_box 2 O rfl rfl fun g23 w24 O25 S26 h27 => ?_))
 replace h27 : Lc 2 w24 O25 g23 26 [(.slice A10 x0.vars.length c11), (.slice A13 x0.init.length c14), (.slice A16 x0.goal.length c17), (.slice A19 x0.ops.length c20)] := h27
 refine o_as rfl rfl (o_as rfl rfl (o_z ?_))
 refine ewp_seq (ewp_seq ?_)
 obtain ⟨y28, hy29, hm⟩ := bs hm
 refine ewp_join (fun l' w' => ∃ (x31 : Unit) (O' : Lab), subs l' [(1, (.slice A21 x1.length c22)), (2, (.int .i64 x2)), (3, (.pointer (some ⟨g23, 0, none⟩))), (30, (.bool y28))] ∧ Bs w A w' O' ∧ Vb w' (Fr 0 w' O') (.slice A21 x1.length c22) x1 ∧ Lc 2 w' O' g23 26 [(.slice A10 x0.vars.length c11), (.slice A13 x0.init.length c14), (.slice A16 x0.goal.length c17), (.slice A19 x0.ops.length c20)] ∧ Vb w' (Fr 0 w' O') (.slice A10 x0.vars.length c11) x0.vars ∧ Vb w' (Fr 0 w' O') (.slice A13 x0.init.length c14) x0.init ∧ Vb w' (Fr 0 w' O') (.slice A16 x0.goal.length c17) x0.goal ∧ Vb w' (Fr 0 w' O') (.slice A19 x0.ops.length c20) x0.ops) ?_ ?_
 ·
  refine ewp_region (o_mv rfl rfl (o_ltS rfl rfl rfl (fun c32 => ?_) fun c32 => ?_))
  ·
   replace hy29 := ip hy29 c32
   refine o_mv rfl rfl (owp_no rfl rfl rfl rfl (owp_no rfl rfl rfl rfl (owp_no rfl rfl rfl rfl (owp_no rfl rfl rfl rfl (owp_no rfl rfl rfl rfl (o_pt rfl rfl rfl (o_mv rfl rfl (owp_no rfl rfl rfl rfl (owp_no rfl rfl rfl rfl (owp_no rfl rfl rfl rfl (owp_no rfl rfl rfl rfl (owp_no rfl rfl rfl rfl (owp_no rfl rfl rfl rfl (owp_no rfl rfl rfl rfl ?_))))))))))))))
   refine owp_no rfl rfl rfl rfl (owp_no rfl rfl rfl rfl (o_pt rfl rfl rfl (o_z ?_)))
   obtain rfl := sm hy29
   replace hB := hB.st S26
   replace hx1 := hx1.st S26
   replace h9 := h9.st S26
   replace h12 := h12.st S26
   replace h15 := h15.st S26
   replace h18 := h18.st S26
   exact ⟨(), _, ⟨rfl, rfl, rfl, rfl, trivial⟩, hB, hx1, h27, h9, h12, h15, h18⟩
  ·
   replace hy29 := im hy29 c32
   refine o_mv rfl rfl (owp_yes rfl rfl (o_mv rfl rfl (owp_yes rfl rfl (o_fa rfl rfl (owp_yes rfl rfl (o_ld (hc := Blk.cell (i := 3) (h27.1) rfl) rfl rfl ?_))))))
   refine owp_yes rfl rfl (o_ln rfl rfl ?_)
   replace h18 := h18.st S26
   have l34 : x0.ops.length ≤ 9223372036854775807 := Nat.le_trans h18.len.2.1 h18.len.2.2
   have r33 : inI64 (x0.ops.length : Int) := rngNat l34
   refine owp_yes rfl rfl (o_geS rfl rfl rfl (fun c35 => ?_) fun c35 => ?_)
   ·
    replace hy29 := ip hy29 c35
    refine o_pf rfl rfl rfl (o_mv rfl rfl (owp_no rfl rfl rfl rfl (owp_no rfl rfl rfl rfl (owp_no rfl rfl rfl rfl (owp_no rfl rfl rfl rfl (owp_no rfl rfl rfl rfl (owp_no rfl rfl rfl rfl (owp_no rfl rfl rfl rfl (owp_no rfl rfl rfl rfl (owp_no rfl rfl rfl rfl (o_pt rfl rfl rfl (o_z ?_))))))))))))
    obtain rfl := sm hy29
    replace hB := hB.st S26
    replace hx1 := hx1.st S26
    replace h9 := h9.st S26
    replace h12 := h12.st S26
    replace h15 := h15.st S26
    exact ⟨(), _, ⟨rfl, rfl, rfl, rfl, trivial⟩, hB, hx1, h27, h9, h12, h15, h18⟩
   ·
    replace hy29 := im hy29 c35
    refine o_pf rfl rfl rfl (o_mv rfl rfl (owp_yes rfl rfl (o_fa rfl rfl (owp_yes rfl rfl (o_ld (hc := Blk.cell (i := 3) (h27.1) rfl) rfl rfl ?_)))))
    refine owp_yes rfl rfl (o_mv rfl rfl (owp_yes rfl rfl ?_))
    obtain ⟨a36, e37, hy29⟩ := bs hy29
    obtain ⟨p39, x38⟩ := atI_some' e37
    obtain ⟨b40, o41, ce42, hA43, hl44, hd45, v47, v48, rfl, h49, h52, r55, z56⟩ := h18.elem' x38
    obtain ⟨A50, c51, rfl⟩ := h49.form
    obtain ⟨A53, c54, rfl⟩ := h52.form
    refine o_iaE (hA := hA43) (hj := (Int.toNat_of_nonneg p39).symm) (hlt := hl44) rfl rfl rfl ?_
    refine owp_yes rfl rfl (o_fa rfl rfl (owp_yes rfl rfl (o_ld (hc := cat2 hd45) rfl rfl ?_)))
    refine owp_yes rfl rfl (o_mv rfl rfl (owp_yes rfl rfl ?_))
    obtain ⟨q57, e58, hy29⟩ := bs hy29
    replace hx1 := hx1.st S26
    refine l_callA (O := O25) (A := All w24) (R := fun w' F v => Vb w' F v q57) (c_base_Holds (fun _ h => h) (Vb.mono (F := Fr 0 w24 O25) h49 Fr.lt) (Vb.mono (F := Fr 0 w24 O25) hx1 Fr.lt) e58) rfl rfl fun v63 w59 O60 S61 h62 => ?_
    obtain rfl := h62.bool
    cases q57
    case false =>
     replace hy29 := iF hy29
     refine owp_yes rfl rfl (o_nf rfl rfl (o_pf rfl rfl rfl (o_z ?_)))
     obtain rfl := sm hy29
     replace hB := (hB.st S26).st S61
     replace hx1 := hx1.st S61
     replace h9 := (h9.st S26).st S61
     replace h12 := (h12.st S26).st S61
     replace h15 := (h15.st S26).st S61
     replace h18 := h18.st S61
     replace h27 := h27.st S61
     exact ⟨(), _, ⟨rfl, rfl, rfl, rfl, trivial⟩, hB, hx1, h27, h9, h12, h15, h18⟩
    replace hy29 := iT hy29
    refine owp_yes rfl rfl (o_nt rfl rfl (o_pf rfl rfl rfl (o_z ?_)))
    obtain rfl := sm hy29
    replace hB := (hB.st S26).st S61
    replace hx1 := hx1.st S61
    replace h9 := (h9.st S26).st S61
    replace h12 := (h12.st S26).st S61
    replace h15 := (h15.st S26).st S61
    replace h18 := h18.st S61
    replace h27 := h27.st S61
    exact ⟨(), _, ⟨rfl, rfl, rfl, rfl, trivial⟩, hB, hx1, h27, h9, h12, h15, h18⟩
 replace hB := hB.st S26
 replace hx1 := hx1.st S26
 replace h9 := h9.st S26
 replace h12 := h12.st S26
 replace h15 := h15.st S26
 replace h18 := h18.st S26
 rintro l64 w65 ⟨x31, O66, hs67, hB, hx1, h27, h9, h12, h15, h18⟩
 refine ewp_sub _ hs67 ?_
 refine ewp_cond rfl (fun c68 => ?_) (fun c68 => ?_)
 ·
  replace hm := ip hm c68
  refine ewp_seq (ewp_region (o_as rfl rfl (o_as rfl rfl (o_z ?_))))
  refine ewp_ret ?_
  obtain rfl := sm hm
  exact ret2 rfl (res_tmp rfl) (res_tmp rfl) ⟨hB.ext, _, _, rfl, (Vb.mono (F := Fr 0 w65 O66) (Vb.nil _ _) hB.out), vBool⟩
 ·
  replace hm := im' hm c68
  refine ewp_skip (ewp_seq (ewp_region (l_bslice 3 (by decide) O66 (xs := (([] : List Int) : List Int)) rfl rfl rfl rfl trivial (by decide) (by decide) rfl fun g69 w70 O71 S72 h73 => ?_)))
  refine o_mv rfl rfl ?_
  obtain ⟨u75, e76, hm⟩ := bs hm
  obtain ⟨e76, e77, e78⟩ := appI_some e76
  replace hx1 := hx1.st S72
  refine l_append rfl h73 (hx1.rd) rfl rfl (by decide) e77 e78 rfl fun A79 c80 w81 O82 S83 h84 => ?_
  rw [← e76] at h84 ⊢
  refine o_as rfl rfl (o_z ?_)
  refine ewp_seq (ewp_seq (ewp_region (o_fa rfl rfl ?_)))
  replace h27 := (h27.st S72).st S83
  refine o_ld (hc := Blk.cell (i := 3) (h27.1) rfl) rfl rfl ?_
  refine o_mv rfl rfl ?_
  obtain ⟨a86, e87, hm⟩ := bs hm
  obtain ⟨p89, x88⟩ := atI_some' e87
  replace h18 := (h18.st S72).st S83
  obtain ⟨b90, o91, ce92, hA93, hl94, hd95, v97, v98, rfl, h99, h102, r105, z106⟩ := h18.elem' x88
  obtain ⟨A100, c101, rfl⟩ := h99.form
  obtain ⟨A103, c104, rfl⟩ := h102.form
  refine o_iaE (hA := hA93) (hj := (Int.toNat_of_nonneg p89).symm) (hlt := hl94) rfl rfl rfl ?_
  refine o_fa rfl rfl (o_ld (hc := cat3 hd95) rfl rfl ?_)
  refine o_ln rfl rfl ?_
  have l108 : a86.effs.length ≤ 9223372036854775807 := Nat.le_trans h102.len.2.1 h102.len.2.2
  have r107 : inI64 (a86.effs.length : Int) := rngNat l108
  refine o_mv rfl rfl (o_z ?_)
  obtain ⟨res109, hL110, hm⟩ := bs hm
  refine ewp_join (aft res109 (fun (s111 : (List Int)) (x112 : Unit) => [(8, (.slice A79 u75.length c80))]) (fun s111 x112 w' => ∃ O' : Lab, Bs w A w' O' ∧ Rw 3 w' O' 3 (.slice A79 u75.length c80) s111)) ?_ ?_
  ·
   refine ewp_block ?_
   replace hB := (hB.st S72).st S83
   replace hx1 := hx1.st S83
   refine ewp_rng (σ := (List Int)) (X := Unit) (a86.effs.length) hL110 rfl l108 (fun (s111 : (List Int)) (x112 : Unit) => [(1, (.slice A21 x1.length c22)), (8, (.slice A79 u75.length c80)), (39, (.slice A103 a86.effs.length c104))]) _ (fun s111 x112 w' => ∃ O' : Lab, Bs w A w' O' ∧ Vb w' (Fr 0 w' O') (.slice A21 x1.length c22) x1 ∧ Rw 3 w' O' 3 (.slice A79 u75.length c80) s111 ∧ Vb w' (Fr 0 w' O') (.slice A103 a86.effs.length c104) a86.effs) _ () ⟨O82, hB, hx1, h84, h102⟩ ⟨rfl, rfl, rfl, rfl, rfl, trivial⟩ (fun _ _ => ⟨rfl, rfl⟩) (fun _ _ => ⟨rfl, trivial⟩) (fun _ _ _ ⟨O', hB, hx1, h126, h102⟩ => ⟨O', hB, h126⟩) ⟨rfl, rfl, rfl⟩ ⟨rfl, rfl⟩ ?_
   rintro k113 a114 s111 x112 w115 cc117 hx118 ⟨O116, hB, hx1, h126, h102⟩ hf119 hret120 hbrk121
   have rk113 : inI64 (k113 : Int) := rngK hx118 l108
   refine ewp_seq (ewp_region ?_)
   obtain ⟨b128, o129, ce130, hA131, hl132, hd133, v135, rfl, h136, r139, r140⟩ := h102.elem' hx118
   obtain ⟨A137, c138, rfl⟩ := h136.form
   refine o_iaE (hA := hA131) (hj := rfl) (hlt := hl132) rfl rfl rfl ?_
   refine o_la (hl := rfl) (hc := hd133) rfl rfl ?_
   refine l_alloc 4 O116 rfl fun g141 w142 O143 S144 h145 => ?_
   refine l_store h145 rfl rfl rfl (Nat.le_of_ble_eq_true rfl) (by first | exact allOne rfl | simp [Value.cells, Value.oneCell', errV_one]) fun w146 S147 h145 => ?_
   replace h145 : Lc 4 w146 O143 g141 77 [(.slice A137 a114.cond.length c138), (.int .i64 a114.var), (.int .i64 a114.val)] := h145
   refine o_z ?_
   refine ewp_seq (ewp_region (o_fa rfl rfl (o_ld (hc := Blk.cell (i := 0) (h145.1) rfl) rfl rfl ?_)))
   refine o_mv rfl rfl ?_
   obtain ⟨q148, e149, hf119⟩ := bs hf119
   replace hx1 := (hx1.st S144).st S147
   replace h136 := (h136.st S144).st S147
   refine l_callA (O := O143) (A := All w146) (R := fun w' F v => Vb w' F v q148) (c_base_Holds (fun _ h => h) (Vb.mono (F := Fr 0 w146 O143) h136 Fr.lt) (Vb.mono (F := Fr 0 w146 O143) hx1 Fr.lt) e149) rfl rfl fun v154 w150 O151 S152 h153 => ?_
   obtain rfl := h153.bool
   cases q148
   case false =>
    replace hf119 := iF hf119
    refine o_z ?_
    refine ewp_false rfl (ewp_skip ?_)
    obtain rfl := sm hf119
    refine (?_ : Exists _)
    replace hB := ((hB.st S144).st S147).st S152
    replace hx1 := hx1.st S152
    replace h102 := ((h102.st S144).st S147).st S152
    replace h126 := ((h126.st S144).st S147).st S152
    exact ⟨_, (), rfl, ⟨rfl, rfl, rfl, rfl, rfl, trivial⟩, _, hB, hx1, h126, h102⟩
   replace hf119 := iT hf119
   refine o_z ?_
   refine ewp_true rfl (ewp_region (o_mv rfl rfl (o_fa rfl rfl ?_)))
   replace h145 := h145.st S152
   refine o_ld (hc := Blk.cell (i := 1) (h145.1) rfl) rfl rfl ?_
   refine o_fa rfl rfl (o_ld (hc := Blk.cell (i := 2) (h145.1) rfl) rfl rfl ?_)
   obtain ⟨a155, e156, hf119⟩ := bs hf119
   obtain ⟨p158, x157⟩ := atI_some' e156
   replace h126 := ((h126.st S144).st S147).st S152
   obtain ⟨b159, o160, ce161, hA162, hl163, hd164, rfl, r166⟩ := h126.elem x157
   refine o_iaE (hA := hA162) (hj := (Int.toNat_of_nonneg p158).symm) (hlt := hl163) rfl rfl rfl ?_
   refine l_setE rfl h126 (a := a114.val) (vInt r140) hA162 rfl rfl (lt_of_get x157) fun w167 S168 h126 => ?_
   refine o_z ?_
   obtain rfl := sm hf119
   refine (?_ : Exists _)
   replace hB := (((hB.st S144).st S147).st S152).st S168
   replace hx1 := (hx1.st S152).st S168
   replace h102 := (((h102.st S144).st S147).st S152).st S168
   exact ⟨_, (), rfl, ⟨rfl, rfl, rfl, rfl, rfl, trivial⟩, _, hB, hx1, h126, h102⟩
  replace hB := (hB.st S72).st S83
  rintro l169 w170 ⟨s173, x174, rfl, hs172, O171, hB, h126⟩
  replace hm := fin_done hm
  refine ewp_sub _ hs172 ?_
  refine ewp_seq (ewp_region (o_mv rfl rfl (o_as rfl rfl (o_as rfl rfl (o_z ?_)))))
  refine ewp_ret ?_
  obtain ⟨O175, S176, h126⟩ := h126.freeze
  obtain rfl := sm hm
  replace hB := hB.st S176
  exact ret2 rfl (res_tmp rfl) (res_tmp rfl) ⟨hB.ext, _, _, rfl, (Vb.mono (F := Fr 0 w170 O175) h126 hB.out), vBool⟩
noncomputable def m_base_Rank (x0 : List Int) (x1 : List Int) : Option Int :=
  bnd (rng (ρ := Int) (fun (k13 : Nat) (a14 : Int) (s11 : Int) => bnd (x0[k13]?) fun a26 => bnd (chkI (s11 * a26)) fun n36 => bnd (chkI (n36 + a14)) fun n47 => some (.next n47)) x1 0 0) fun res9 => fin res9 fun (s54 : Int) => some s54
theorem c_base_Rank {w : World} {A : Nat → Prop} (hA : ∀ k, A k → k < w.heap.size) {vx0 : Value} {x0 : List Int} (hx0 : Vb w A vx0 x0) {vx1 : Value} {x1 : List Int} (hx1 : Vb w A vx1 x1) {r : Int} (hm : m_base_Rank x0 x1 = some r) :
    Fn Try.prog 21 [vx0, vx1] w fun v w' => Ext w w' ∧ Vb w' (upA A w w') v r := by
 obtain ⟨O, hB, hA0⟩ := enter hA
 replace hx0 := hx0.mono hA0
 obtain ⟨A3, c4, rfl⟩ := hx0.form
 replace hx1 := hx1.mono hA0
 obtain ⟨A5, c6, rfl⟩ := hx1.form
 refine fn_enter Try.func21 rfl Try.ntmps21 rfl ?_
 unfold m_base_Rank at hm
 refine ewp_seq (ewp_region (o_as rfl rfl (o_z ?_)))
 refine ewp_seq (ewp_region (o_as rfl rfl (o_z ?_)))
 refine ewp_seq (ewp_seq (ewp_region (o_mv rfl rfl (o_ln rfl rfl ?_))))
 have l8 : x1.length ≤ 9223372036854775807 := Nat.le_trans hx1.len.2.1 hx1.len.2.2
 have r7 : inI64 (x1.length : Int) := rngNat l8
 refine o_mv rfl rfl (o_z ?_)
 obtain ⟨res9, hL10, hm⟩ := bs hm
 refine ewp_join (aft res9 (fun (s11 : Int) (x12 : Unit) => [(5, (.int .i64 s11))]) (fun s11 x12 w' => ∃ O' : Lab, Bs w A w' O' ∧ inI64 s11)) ?_ ?_
 ·
  refine ewp_block (ewp_rng (σ := Int) (X := Unit) (x1.length) hL10 rfl l8 (fun (s11 : Int) (x12 : Unit) => [(0, (.slice A3 x0.length c4)), (1, (.slice A5 x1.length c6)), (5, (.int .i64 s11))]) _ (fun s11 x12 w' => ∃ O' : Lab, Bs w A w' O' ∧ Vb w' (Fr 0 w' O') (.slice A3 x0.length c4) x0 ∧ Vb w' (Fr 0 w' O') (.slice A5 x1.length c6) x1 ∧ inI64 s11) _ () ⟨O, hB, hx0, hx1, (show inI64 (0) from by decide)⟩ ⟨rfl, rfl, rfl, rfl, rfl, trivial⟩ (fun _ _ => ⟨rfl, rfl⟩) (fun _ _ => ⟨rfl, trivial⟩) (fun _ _ _ ⟨O', hB, hx0, hx1, r25⟩ => ⟨O', hB, r25⟩) ⟨rfl, rfl, rfl⟩ ⟨rfl, rfl⟩ ?_)
  rintro k13 a14 s11 x12 w15 cc17 hx18 ⟨O16, hB, hx0, hx1, r25⟩ hf19 hret20 hbrk21
  have rk13 : inI64 (k13 : Int) := rngK hx18 l8
  refine ewp_seq (ewp_region (o_mv rfl rfl (o_as rfl rfl (o_z ?_))))
  refine ewp_draw (· = w15) [(0, true), (1, true), (2, true), (3, true), (4, true), (5, true), (6, true), (7, true), (8, true), (9, true), (10, true), (11, true)] (by kernel_rfl) rfl (by kernel_rfl) rfl ?_
  refine h_mv rfl rfl rfl (h_mv rfl rfl rfl (h_mv rfl rfl rfl ?_))
  obtain ⟨a26, e27, hf19⟩ := bs hf19
  obtain ⟨b28, o29, ce30, hA31, hl32, hd33, rfl, r35⟩ := hx0.elem' e27
  refine h_iaE (hA := hA31) (hj := rfl) (hlt := hl32) rfl rfl rfl rfl ?_
  refine h_ldA (hc := cat0 hd33) rfl rfl rfl ?_
  obtain ⟨n36, e37, hf19⟩ := bs hf19
  have r38 := (chkI_rng e37)
  refine h_mlE (he := e37) rfl rfl rfl rfl ?_
  refine h_mv rfl rfl rfl (h_mv rfl rfl rfl ?_)
  obtain ⟨b39, o40, ce41, hA42, hl43, hd44, rfl, r46⟩ := hx1.elem' hx18
  refine h_iaE (hA := hA42) (hj := rfl) (hlt := hl43) rfl rfl rfl rfl ?_
  refine h_ldA (hc := cat0 hd44) rfl rfl rfl ?_
  obtain ⟨n47, e48, hf19⟩ := bs hf19
  have r49 := (chkI_rng e48)
  refine h_adE (he := e48) rfl rfl rfl rfl ?_
  refine h_as rfl rfl rfl (h_z ?_)
  obtain rfl := sm hf19
  refine (?_ : Exists _)
  exact ⟨_, (), rfl, ⟨rfl, rfl, rfl, rfl, rfl, trivial⟩, _, hB, hx0, hx1, r49⟩
 rintro l50 w51 ⟨s54, x55, rfl, hs53, O52, hB, r25⟩
 replace hm := fin_done hm
 refine ewp_sub _ hs53 ?_
 refine ewp_seq (ewp_region (o_mv rfl rfl (o_as rfl rfl (o_z ?_))))
 refine ewp_ret ?_
 obtain rfl := sm hm
 exact ret1v rfl (res_tmp rfl) ⟨hB.ext, (vInt r25)⟩
noncomputable def m_base_Edges (x0 : Tsk) : Option (List Edg) :=
  bnd (m_base_States x0.vars) fun q24 => bnd (rng (ρ := (List Edg)) (fun (k39 : Nat) (a40 : List Int) (s37 : (List Edg)) => bnd (rng (ρ := Ctl (List Edg) (List Edg)) (fun (k71 : Nat) (a72 : Opr) (s69 : (List Edg)) => bnd (m_base_Apply x0 a40 (k71 : Int)) fun q86 => if q86.2 = true then (bnd (m_base_Rank x0.vars q86.1) fun q100 => bnd (appI 24 s69 [(⟨(k39 : Int), (k71 : Int), q100⟩ : Edg)]) fun u108 => some (.next u108)) else (some (.next s69))) x0.ops 0 s37) fun res67 => fin res67 fun (s124 : (List Edg)) => some (.next s124)) q24 0 ([] : List Edg)) fun res35 => fin res35 fun (s130 : (List Edg)) => some s130
theorem c_base_Edges {w : World} {A : Nat → Prop} (hA : ∀ k, A k → k < w.heap.size) {vx0 : Value} {x0 : Tsk} (hx0 : Vb w A vx0 x0) {r : (List Edg)} (hm : m_base_Edges x0 = some r) :
    Fn Try.prog 38 [vx0] w fun v w' => Ext w w' ∧ Vb w' (upA A w w') v r := by
 obtain ⟨O, hB, hA0⟩ := enter hA
 replace hx0 := hx0.mono hA0
 obtain ⟨cs2, rfl, v3, v4, v5, v6, rfl, h7, h10, h13, h16⟩ := hx0
 obtain ⟨A8, c9, rfl⟩ := h7.form
 obtain ⟨A11, c12, rfl⟩ := h10.form
 obtain ⟨A14, c15, rfl⟩ := h13.form
 obtain ⟨A17, c18, rfl⟩ := h16.form
 refine fn_enter Try.func38 rfl Try.ntmps38 rfl ?_
 unfold m_base_Edges at hm
 refine ewp_seq (ewp_region (l_box 2 O rfl rfl fun g19 w20 O21 S22 h23 => ?_))
 replace h23 : Lc 2 w20 O21 g19 26 [(.slice A8 x0.vars.length c9), (.slice A11 x0.init.length c12), (.slice A14 x0.goal.length c15), (.slice A17 x0.ops.length c18)] := h23
 refine o_as rfl rfl (o_z ?_)
 refine ewp_seq (ewp_region (o_as rfl rfl (o_z ?_)))
 refine ewp_seq (ewp_seq (ewp_region (o_fa rfl rfl (o_ld (hc := Blk.cell (i := 0) (h23.1) rfl) rfl rfl ?_))))
 obtain ⟨q24, e25, hm⟩ := bs hm
 replace h7 := h7.st S22
 refine l_call (O := O21) (R := fun w' F v => Vb w' F v q24) (c_base_States Fr.lt h7 e25) rfl rfl fun v30 w26 O27 S28 h29 => ?_
 obtain ⟨A31, c32, rfl⟩ := h29.form
 refine o_ln rfl rfl ?_
 have l34 : q24.length ≤ 9223372036854775807 := Nat.le_trans h29.len.2.1 h29.len.2.2
 have r33 : inI64 (q24.length : Int) := rngNat l34
 refine o_mv rfl rfl (o_z ?_)
 obtain ⟨res35, hL36, hm⟩ := bs hm
 refine ewp_join (aft res35 (fun (s37 : (List Edg)) (x38 : (Option Addr × Nat)) => [(3, (.slice x38.1 s37.length x38.2))]) (fun s37 x38 w' => ∃ O' : Lab, Bs w A w' O' ∧ Rw 3 w' O' 75 (.slice x38.1 s37.length x38.2) s37)) ?_ ?_
 ·
  refine ewp_block ?_
  replace hB := (hB.st S22).st S28
  replace h7 := h7.st S28
  replace h10 := (h10.st S22).st S28
  replace h13 := (h13.st S22).st S28
  replace h16 := (h16.st S22).st S28
  replace h23 := h23.st S28
  refine ewp_rng (σ := (List Edg)) (X := (Option Addr × Nat)) (q24.length) hL36 rfl l34 (fun (s37 : (List Edg)) (x38 : (Option Addr × Nat)) => [(1, (.pointer (some ⟨g19, 0, none⟩))), (3, (.slice x38.1 s37.length x38.2)), (11, (.slice A31 q24.length c32))]) _ (fun s37 x38 w' => ∃ O' : Lab, Bs w A w' O' ∧ Lc 2 w' O' g19 26 [(.slice A8 x0.vars.length c9), (.slice A11 x0.init.length c12), (.slice A14 x0.goal.length c15), (.slice A17 x0.ops.length c18)] ∧ Vb w' (Fr 0 w' O') (.slice A8 x0.vars.length c9) x0.vars ∧ Vb w' (Fr 0 w' O') (.slice A11 x0.init.length c12) x0.init ∧ Vb w' (Fr 0 w' O') (.slice A14 x0.goal.length c15) x0.goal ∧ Vb w' (Fr 0 w' O') (.slice A17 x0.ops.length c18) x0.ops ∧ Rw 3 w' O' 75 (.slice x38.1 s37.length x38.2) s37 ∧ Vb w' (Fr 0 w' O') (.slice A31 q24.length c32) q24) _ (none, 0) ⟨O27, hB, h23, h7, h10, h13, h16, (Rw.nil 3 (by decide)), h29⟩ ⟨rfl, rfl, rfl, rfl, rfl, trivial⟩ (fun _ _ => ⟨rfl, rfl⟩) (fun _ _ => ⟨rfl, trivial⟩) (fun _ _ _ ⟨O', hB, h23, h7, h10, h13, h16, h52, h29⟩ => ⟨O', hB, h52⟩) ⟨rfl, rfl, rfl⟩ ⟨rfl, rfl⟩ ?_
  rintro k39 a40 s37 x38 w41 cc43 hx44 ⟨O42, hB, h23, h7, h10, h13, h16, h52, h29⟩ hf45 hret46 hbrk47
  have rk39 : inI64 (k39 : Int) := rngK hx44 l34
  refine ewp_seq (ewp_region (o_mv rfl rfl ?_))
  obtain ⟨b54, o55, ce56, hA57, hl58, hd59, v61, rfl, h62⟩ := h29.elem' hx44
  replace h62 := Vb.of_slice h62
  obtain ⟨A63, c64, rfl⟩ := h62.form
  refine o_iaE (hA := hA57) (hj := rfl) (hlt := hl58) rfl rfl rfl ?_
  refine o_ld (hc := cat0 hd59) rfl rfl ?_
  refine o_as rfl rfl (o_as rfl rfl (o_z ?_))
  refine ewp_seq (ewp_region (o_fa rfl rfl (o_ld (hc := Blk.cell (i := 3) (h23.1) rfl) rfl rfl ?_)))
  refine o_ln rfl rfl ?_
  have l66 : x0.ops.length ≤ 9223372036854775807 := Nat.le_trans h16.len.2.1 h16.len.2.2
  have r65 : inI64 (x0.ops.length : Int) := rngNat l66
  refine o_mv rfl rfl (o_z ?_)
  obtain ⟨res67, hL68, hf45⟩ := bs hf45
  refine ewp_join (aft res67 (fun (s69 : (List Edg)) (x70 : (Option Addr × Nat)) => [(1, (.pointer (some ⟨g19, 0, none⟩))), (3, (.slice x70.1 s69.length x70.2)), (11, (.slice A31 q24.length c32)), (12, (.int .i64 (q24.length : Int))), (13, (.int .i64 (k39 : Int)))]) (fun s69 x70 w' => ∃ O' : Lab, Bs w A w' O' ∧ Lc 2 w' O' g19 26 [(.slice A8 x0.vars.length c9), (.slice A11 x0.init.length c12), (.slice A14 x0.goal.length c15), (.slice A17 x0.ops.length c18)] ∧ Vb w' (Fr 0 w' O') (.slice A8 x0.vars.length c9) x0.vars ∧ Vb w' (Fr 0 w' O') (.slice A11 x0.init.length c12) x0.init ∧ Vb w' (Fr 0 w' O') (.slice A14 x0.goal.length c15) x0.goal ∧ Vb w' (Fr 0 w' O') (.slice A17 x0.ops.length c18) x0.ops ∧ Rw 3 w' O' 75 (.slice x70.1 s69.length x70.2) s69 ∧ Vb w' (Fr 0 w' O') (.slice A31 q24.length c32) q24)) ?_ ?_
  ·
   refine ewp_block (ewp_rng (σ := (List Edg)) (X := (Option Addr × Nat)) (x0.ops.length) hL68 rfl l66 (fun (s69 : (List Edg)) (x70 : (Option Addr × Nat)) => [(1, (.pointer (some ⟨g19, 0, none⟩))), (3, (.slice x70.1 s69.length x70.2)), (4, (.int .i64 (k39 : Int))), (5, (.slice A63 a40.length c64)), (11, (.slice A31 q24.length c32)), (12, (.int .i64 (q24.length : Int))), (13, (.int .i64 (k39 : Int)))]) _ (fun s69 x70 w' => ∃ O' : Lab, Bs w A w' O' ∧ Lc 2 w' O' g19 26 [(.slice A8 x0.vars.length c9), (.slice A11 x0.init.length c12), (.slice A14 x0.goal.length c15), (.slice A17 x0.ops.length c18)] ∧ Vb w' (Fr 0 w' O') (.slice A8 x0.vars.length c9) x0.vars ∧ Vb w' (Fr 0 w' O') (.slice A11 x0.init.length c12) x0.init ∧ Vb w' (Fr 0 w' O') (.slice A14 x0.goal.length c15) x0.goal ∧ Vb w' (Fr 0 w' O') (.slice A17 x0.ops.length c18) x0.ops ∧ Rw 3 w' O' 75 (.slice x70.1 s69.length x70.2) s69 ∧ Vb w' (Fr 0 w' O') (.slice A63 a40.length c64) a40 ∧ Vb w' (Fr 0 w' O') (.slice A31 q24.length c32) q24) _ (x38.1, x38.2) ⟨O42, hB, h23, h7, h10, h13, h16, h52, h62, h29⟩ ⟨rfl, rfl, rfl, rfl, rfl, rfl, rfl, rfl, rfl, trivial⟩ (fun _ _ => ⟨rfl, rfl⟩) (fun _ _ => ⟨rfl, rfl, rfl, rfl, rfl, trivial⟩) (fun _ _ _ ⟨O', hB, h23, h7, h10, h13, h16, h84, h62, h29⟩ => ⟨O', hB, h23, h7, h10, h13, h16, h84, h29⟩) ⟨rfl, rfl, rfl⟩ ⟨rfl, rfl⟩ ?_)
   rintro k71 a72 s69 x70 w73 cc75 hx76 ⟨O74, hB, h23, h7, h10, h13, h16, h84, h62, h29⟩ hf77 hret78 hbrk79
   have rk71 : inI64 (k71 : Int) := rngK hx76 l66
   refine ewp_seq (ewp_region (o_mv rfl rfl (o_as rfl rfl (o_z ?_))))
   refine ewp_seq (ewp_region (o_la (hl := rfl) (hc := (h23.1).cellsAt) rfl rfl ?_))
   refine o_mv rfl rfl (o_mv rfl rfl ?_)
   obtain ⟨q86, e87, hf77⟩ := bs hf77
   refine l_call (O := O74) (R := fun w' F v => T2 w' F v q86) (c_base_Apply Fr.lt (Vb.ofAgg (cs := [(.slice A8 x0.vars.length c9), (.slice A11 x0.init.length c12), (.slice A14 x0.goal.length c15), (.slice A17 x0.ops.length c18)]) (x := x0) rfl ⟨_, _, _, _, rfl, h7, h10, h13, h16⟩) h62 rk71 e87) rfl rfl fun v92 w88 O89 S90 h91 => ?_
   obtain ⟨v93, v94, rfl, h95, h96⟩ := h91
   obtain ⟨A97, c98, rfl⟩ := h95.form
   obtain rfl := h96.bool
   refine o_mv rfl rfl (o_ex rfl rfl rfl (o_ex rfl rfl rfl (o_as rfl rfl (o_as rfl rfl (o_z ?_)))))
   refine ewp_seq (ewp_region (o_mv rfl rfl (o_z ?_)))
   refine ewp_cond rfl (fun c99 => ?_) (fun c99 => ?_)
   ·
    replace hf77 := ip hf77 c99
    refine ewp_region (o_mv rfl rfl (o_mv rfl rfl (o_mv rfl rfl (o_fa rfl rfl ?_))))
    replace h23 := h23.st S90
    refine o_ld (hc := Blk.cell (i := 0) (h23.1) rfl) rfl rfl ?_
    refine o_mv rfl rfl ?_
    obtain ⟨q100, e101, hf77⟩ := bs hf77
    replace h7 := h7.st S90
    refine l_callA (O := O89) (A := All w88) (R := fun w' F v => Vb w' F v q100) (c_base_Rank (fun _ h => h) (Vb.mono (F := Fr 0 w88 O89) h7 Fr.lt) (Vb.mono (F := Fr 0 w88 O89) h95 Fr.lt) e101) rfl rfl fun v106 w102 O103 S104 h105 => ?_
    obtain ⟨rfl, r107⟩ := h105.int
    refine o_bd rfl rfl rfl ?_
    obtain ⟨u108, e109, hf77⟩ := bs hf77
    obtain ⟨e109, e110, e111⟩ := appI_some e109
    replace h84 := (h84.st S90).st S104
    refine l_append1 rfl (a := (⟨(k39 : Int), (k71 : Int), q100⟩ : Edg)) h84 (Vb.ofAgg (cs := [(.int .i64 (k39 : Int)), (.int .i64 (k71 : Int)), (.int .i64 q100)]) (x := (⟨(k39 : Int), (k71 : Int), q100⟩ : Edg)) rfl ⟨rfl, rk39, rk71, r107⟩) (fun _ => rfl) rfl (by decide) (by decide) e110 e111 ⟨rfl, rfl⟩ fun g112 A113 c114 w115 O116 S117 h118 => ?_
    rw [← e109] at h118 ⊢
    refine o_as rfl rfl (o_z ?_)
    obtain rfl := sm hf77
    refine (?_ : Exists _)
    replace hB := ((hB.st S90).st S104).st S117
    replace h7 := (h7.st S104).st S117
    replace h10 := ((h10.st S90).st S104).st S117
    replace h13 := ((h13.st S90).st S104).st S117
    replace h16 := ((h16.st S90).st S104).st S117
    replace h23 := (h23.st S104).st S117
    replace h29 := ((h29.st S90).st S104).st S117
    replace h62 := ((h62.st S90).st S104).st S117
    exact ⟨_, (A113, c114), rfl, ⟨rfl, rfl, rfl, rfl, rfl, rfl, rfl, rfl, rfl, trivial⟩, _, hB, h23, h7, h10, h13, h16, h118, h62, h29⟩
   ·
    replace hf77 := im' hf77 c99
    refine ewp_skip ?_
    obtain rfl := sm hf77
    refine (?_ : Exists _)
    replace hB := hB.st S90
    replace h7 := h7.st S90
    replace h10 := h10.st S90
    replace h13 := h13.st S90
    replace h16 := h16.st S90
    replace h23 := h23.st S90
    replace h29 := h29.st S90
    replace h62 := h62.st S90
    replace h84 := h84.st S90
    exact ⟨_, (x70.1, x70.2), rfl, ⟨rfl, rfl, rfl, rfl, rfl, rfl, rfl, rfl, rfl, trivial⟩, _, hB, h23, h7, h10, h13, h16, h84, h62, h29⟩
  rintro l120 w121 ⟨s124, x125, rfl, hs123, O122, hB, h23, h7, h10, h13, h16, h84, h29⟩
  replace hf45 := fin_done hf45
  obtain rfl := sm hf45
  refine (?_ : Exists _)
  exact ⟨_, (x125.1, x125.2), rfl, ⟨(subs_lk hs123 _ _ rfl), (subs_lk hs123 _ _ rfl), (subs_lk hs123 _ _ rfl), (subs_lk hs123 _ _ rfl), (subs_lk hs123 _ _ rfl), trivial⟩, _, hB, h23, h7, h10, h13, h16, h84, h29⟩
 replace hB := (hB.st S22).st S28
 rintro l126 w127 ⟨s130, x131, rfl, hs129, O128, hB, h52⟩
 replace hm := fin_done hm
 refine ewp_sub _ hs129 ?_
 refine ewp_seq (ewp_region (o_mv rfl rfl (o_as rfl rfl (o_z ?_))))
 refine ewp_ret ?_
 obtain ⟨O132, S133, h52⟩ := h52.freeze
 obtain rfl := sm hm
 replace hB := hB.st S133
 exact ret1v rfl (res_tmp rfl) ⟨hB.ext, (Vb.mono (F := Fr 0 w127 O132) h52 hB.out)⟩
noncomputable def m_base_Distances (x0 : Tsk) : Option (List Int) :=
  bnd (m_base_States x0.vars) fun q25 => bnd (mkI 8 (0 : Int) (q25.length : Int)) fun u36 => bnd (rng (ρ := (List Int)) (fun (k55 : Nat) (a56 : List Int) (s53 : (List Int)) => bnd (s53[k55]?) fun a81 => bnd (m_base_Holds x0.goal a56) fun q93 => if q93 = true then bnd ((s53.set k55 1125899906842624)[k55]?) fun a100 => some (.next ((s53.set k55 1125899906842624).set k55 0)) else some (.next (s53.set k55 1125899906842624))) q25 0 u36) fun res51 => fin res51 fun (s116 : (List Int)) => bnd (m_base_Edges x0) fun q118 => bnd (lop (ρ := (List Int)) (fun (s129 : (List Int) × Bool) => if s129.2 = true then (bnd (rng (ρ := Ctl ((List Int) × Bool) (List Int)) (fun (k153 : Nat) (a154 : Edg) (s151 : (List Int) × Bool) => bnd (atI x0.ops a154.op) fun a185 => bnd (bnd (atI s151.1 a154.dst) fun a210 => if a210 < 1125899906842624 then (bnd (atI s151.1 a154.dst) fun a223 => bnd (chkI (a223 + a185.cost)) fun n235 => bnd (atI s151.1 a154.src) fun a238 => if n235 < a238 then (some true) else (some false)) else (some false) : Option Bool) fun y206 => if y206 = true then (bnd (atI s151.1 a154.dst) fun a256 => bnd (chkI (a256 + a185.cost)) fun n268 => bnd (atI s151.1 a154.src) fun a271 => some (.next ((s151.1.set (a154.src : Int).toNat n268), true))) else (some (.next (s151.1, s151.2)))) q118 0 (s129.1, false)) fun res149 => fin res149 fun (s289 : (List Int) × Bool) => some (.next (s289.1, s289.2))) else (some (.brk (s129.1, s129.2)))) (s116, true)) fun res127 => fin res127 fun (s295 : (List Int) × Bool) => some s295.1
theorem c_base_Distances {w : World} {A : Nat → Prop} (hA : ∀ k, A k → k < w.heap.size) {vx0 : Value} {x0 : Tsk} (hx0 : Vb w A vx0 x0) {r : (List Int)} (hm : m_base_Distances x0 = some r) :
    Fn Try.prog 37 [vx0, (.slice none 0 0)] w fun v w' => Ext w w' ∧ Vb w' (upA A w w') v r := by
 obtain ⟨O, hB, hA0⟩ := enter hA
 replace hx0 := hx0.mono hA0
 obtain ⟨cs3, rfl, v4, v5, v6, v7, rfl, h8, h11, h14, h17⟩ := hx0
 obtain ⟨A9, c10, rfl⟩ := h8.form
 obtain ⟨A12, c13, rfl⟩ := h11.form
 obtain ⟨A15, c16, rfl⟩ := h14.form
 obtain ⟨A18, c19, rfl⟩ := h17.form
 refine fn_enter Try.func37 rfl Try.ntmps37 rfl ?_
 unfold m_base_Distances at hm
 refine ewp_seq (ewp_region (l_box 2 O rfl rfl fun g20 w21 O22 S23 h24 => ?_))
 replace h24 : Lc 2 w21 O22 g20 26 [(.slice A9 x0.vars.length c10), (.slice A12 x0.init.length c13), (.slice A15 x0.goal.length c16), (.slice A18 x0.ops.length c19)] := h24
 refine o_as rfl rfl (o_z ?_)
 refine ewp_seq (ewp_region (o_fa rfl rfl (o_ld (hc := Blk.cell (i := 0) (h24.1) rfl) rfl rfl ?_)))
 obtain ⟨q25, e26, hm⟩ := bs hm
 replace h8 := h8.st S23
 refine l_call (O := O22) (R := fun w' F v => Vb w' F v q25) (c_base_States Fr.lt h8 e26) rfl rfl fun v31 w27 O28 S29 h30 => ?_
 obtain ⟨A32, c33, rfl⟩ := h30.form
 refine o_as rfl rfl (o_z ?_)
 refine ewp_seq (ewp_region (o_mv rfl rfl (o_ln rfl rfl ?_)))
 have l35 : q25.length ≤ 9223372036854775807 := Nat.le_trans h30.len.2.1 h30.len.2.2
 have r34 : inI64 (q25.length : Int) := rngNat l35
 obtain ⟨u36, e37, hm⟩ := bs hm
 obtain ⟨m38, e39, e40, e41, e42⟩ := mkI_some e37
 refine l_make 3 (by decide) O28 (z0 := (0 : Int)) rfl rfl rfl rfl rfl e39 (vInt (show inI64 0 from by decide)) e40 e41 rfl fun g43 w44 O45 S46 h47 => ?_
 rw [← e42] at h47 ⊢
 refine o_as rfl rfl (o_z ?_)
 refine ewp_seq (ewp_seq (ewp_region (o_mv rfl rfl (o_ln rfl rfl ?_))))
 replace h30 := h30.st S46
 have l50 : q25.length ≤ 9223372036854775807 := Nat.le_trans h30.len.2.1 h30.len.2.2
 have r49 : inI64 (q25.length : Int) := rngNat l50
 refine o_mv rfl rfl (o_z ?_)
 obtain ⟨res51, hL52, hm⟩ := bs hm
 refine ewp_join (aft res51 (fun (s53 : (List Int)) (x54 : Unit) => [(1, (.slice none 0 0)), (2, (.pointer (some ⟨g20, 0, none⟩))), (6, (.slice (some ⟨g43, 0, none⟩) u36.length m38))]) (fun s53 x54 w' => ∃ O' : Lab, Bs w A w' O' ∧ Lc 2 w' O' g20 26 [(.slice A9 x0.vars.length c10), (.slice A12 x0.init.length c13), (.slice A15 x0.goal.length c16), (.slice A18 x0.ops.length c19)] ∧ Vb w' (Fr 0 w' O') (.slice A9 x0.vars.length c10) x0.vars ∧ Vb w' (Fr 0 w' O') (.slice A12 x0.init.length c13) x0.init ∧ Vb w' (Fr 0 w' O') (.slice A15 x0.goal.length c16) x0.goal ∧ Vb w' (Fr 0 w' O') (.slice A18 x0.ops.length c19) x0.ops ∧ Rw 3 w' O' 3 (.slice (some ⟨g43, 0, none⟩) u36.length m38) s53)) ?_ ?_
 ·
  refine ewp_block ?_
  replace hB := ((hB.st S23).st S29).st S46
  replace h8 := (h8.st S29).st S46
  replace h11 := ((h11.st S23).st S29).st S46
  replace h14 := ((h14.st S23).st S29).st S46
  replace h17 := ((h17.st S23).st S29).st S46
  replace h24 := (h24.st S29).st S46
  refine ewp_rng (σ := (List Int)) (X := Unit) (q25.length) hL52 rfl l50 (fun (s53 : (List Int)) (x54 : Unit) => [(1, (.slice none 0 0)), (2, (.pointer (some ⟨g20, 0, none⟩))), (6, (.slice (some ⟨g43, 0, none⟩) u36.length m38)), (20, (.slice A32 q25.length c33))]) _ (fun s53 x54 w' => ∃ O' : Lab, Bs w A w' O' ∧ Lc 2 w' O' g20 26 [(.slice A9 x0.vars.length c10), (.slice A12 x0.init.length c13), (.slice A15 x0.goal.length c16), (.slice A18 x0.ops.length c19)] ∧ Vb w' (Fr 0 w' O') (.slice A9 x0.vars.length c10) x0.vars ∧ Vb w' (Fr 0 w' O') (.slice A12 x0.init.length c13) x0.init ∧ Vb w' (Fr 0 w' O') (.slice A15 x0.goal.length c16) x0.goal ∧ Vb w' (Fr 0 w' O') (.slice A18 x0.ops.length c19) x0.ops ∧ Rw 3 w' O' 3 (.slice (some ⟨g43, 0, none⟩) u36.length m38) s53 ∧ Vb w' (Fr 0 w' O') (.slice A32 q25.length c33) q25) _ () ⟨O45, hB, h24, h8, h11, h14, h17, h47, h30⟩ ⟨rfl, rfl, rfl, rfl, rfl, rfl, trivial⟩ (fun _ _ => ⟨rfl, rfl⟩) (fun _ _ => ⟨rfl, rfl, rfl, trivial⟩) (fun _ _ _ ⟨O', hB, h24, h8, h11, h14, h17, h68, h30⟩ => ⟨O', hB, h24, h8, h11, h14, h17, h68⟩) ⟨rfl, rfl, rfl⟩ ⟨rfl, rfl⟩ ?_
  rintro k55 a56 s53 x54 w57 cc59 hx60 ⟨O58, hB, h24, h8, h11, h14, h17, h68, h30⟩ hf61 hret62 hbrk63
  have rk55 : inI64 (k55 : Int) := rngK hx60 l50
  refine ewp_seq (ewp_region (o_mv rfl rfl ?_))
  obtain ⟨b70, o71, ce72, hA73, hl74, hd75, v77, rfl, h78⟩ := h30.elem' hx60
  replace h78 := Vb.of_slice h78
  obtain ⟨A79, c80, rfl⟩ := h78.form
  refine o_iaE (hA := hA73) (hj := rfl) (hlt := hl74) rfl rfl rfl ?_
  refine o_ld (hc := cat0 hd75) rfl rfl ?_
  refine o_as rfl rfl (o_as rfl rfl (o_z ?_))
  refine ewp_seq (ewp_region (o_mv rfl rfl (o_mv rfl rfl ?_)))
  obtain ⟨a81, e82, hf61⟩ := bs hf61
  obtain ⟨b83, o84, ce85, hA86, hl87, hd88, rfl, r90⟩ := h68.elem e82
  refine o_iaE (hA := hA86) (hj := rfl) (hlt := hl87) rfl rfl rfl ?_
  refine l_setE rfl h68 (a := 1125899906842624) (vInt (show inI64 (1125899906842624) from by decide)) hA86 rfl rfl (lt_of_get e82) fun w91 S92 h68 => ?_
  refine o_z ?_
  refine ewp_seq (ewp_region (o_fa rfl rfl ?_))
  replace h24 := h24.st S92
  refine o_ld (hc := Blk.cell (i := 2) (h24.1) rfl) rfl rfl ?_
  refine o_mv rfl rfl ?_
  obtain ⟨q93, e94, hf61⟩ := bs hf61
  replace h14 := h14.st S92
  replace h78 := h78.st S92
  refine l_callA (O := O58) (A := All w91) (R := fun w' F v => Vb w' F v q93) (c_base_Holds (fun _ h => h) (Vb.mono (F := Fr 0 w91 O58) h14 Fr.lt) (Vb.mono (F := Fr 0 w91 O58) h78 Fr.lt) e94) rfl rfl fun v99 w95 O96 S97 h98 => ?_
  obtain rfl := h98.bool
  cases q93
  case false =>
   replace hf61 := iF hf61
   refine o_z ?_
   refine ewp_false rfl (ewp_skip ?_)
   obtain rfl := sm hf61
   refine (?_ : Exists _)
   replace hB := (hB.st S92).st S97
   replace h8 := (h8.st S92).st S97
   replace h11 := (h11.st S92).st S97
   replace h14 := h14.st S97
   replace h17 := (h17.st S92).st S97
   replace h24 := h24.st S97
   replace h30 := (h30.st S92).st S97
   replace h68 := h68.st S97
   exact ⟨_, (), rfl, ⟨rfl, rfl, rfl, rfl, rfl, rfl, trivial⟩, _, hB, h24, h8, h11, h14, h17, h68, h30⟩
  replace hf61 := iT hf61
  refine o_z ?_
  refine ewp_true rfl (ewp_region (o_mv rfl rfl (o_mv rfl rfl ?_)))
  obtain ⟨a100, e101, hf61⟩ := bs hf61
  replace h68 := h68.st S97
  obtain ⟨b102, o103, ce104, hA105, hl106, hd107, rfl, r109⟩ := h68.elem e101
  refine o_iaE (hA := hA105) (hj := rfl) (hlt := hl106) rfl rfl rfl ?_
  refine l_setE rfl h68 (a := 0) (vInt (show inI64 (0) from by decide)) hA105 rfl rfl (lt_of_get e101) fun w110 S111 h68 => ?_
  refine o_z ?_
  obtain rfl := sm hf61
  refine (?_ : Exists _)
  replace hB := ((hB.st S92).st S97).st S111
  replace h8 := ((h8.st S92).st S97).st S111
  replace h11 := ((h11.st S92).st S97).st S111
  replace h14 := (h14.st S97).st S111
  replace h17 := ((h17.st S92).st S97).st S111
  replace h24 := (h24.st S97).st S111
  replace h30 := ((h30.st S92).st S97).st S111
  exact ⟨_, (), rfl, ⟨rfl, rfl, rfl, rfl, rfl, rfl, trivial⟩, _, hB, h24, h8, h11, h14, h17, h68, h30⟩
 replace hB := ((hB.st S23).st S29).st S46
 replace h8 := (h8.st S29).st S46
 replace h11 := ((h11.st S23).st S29).st S46
 replace h14 := ((h14.st S23).st S29).st S46
 replace h17 := ((h17.st S23).st S29).st S46
 replace h24 := (h24.st S29).st S46
 rintro l112 w113 ⟨s116, x117, rfl, hs115, O114, hB, h24, h8, h11, h14, h17, h68⟩
 replace hm := fin_done hm
 refine ewp_sub _ hs115 ?_
 refine ewp_seq (ewp_region (o_la (hl := rfl) (hc := (h24.1).cellsAt) rfl rfl ?_))
 obtain ⟨q118, e119, hm⟩ := bs hm
 refine l_call (O := O114) (R := fun w' F v => Vb w' F v q118) (c_base_Edges Fr.lt (Vb.ofAgg (cs := [(.slice A9 x0.vars.length c10), (.slice A12 x0.init.length c13), (.slice A15 x0.goal.length c16), (.slice A18 x0.ops.length c19)]) (x := x0) rfl ⟨_, _, _, _, rfl, h8, h11, h14, h17⟩) e119) rfl rfl fun v124 w120 O121 S122 h123 => ?_
 obtain ⟨A125, c126, rfl⟩ := h123.form
 refine o_as rfl rfl (o_z ?_)
 refine ewp_seq (ewp_seq (ewp_region (o_as rfl rfl (o_z ?_))))
 obtain ⟨res127, hL128, hm⟩ := bs hm
 refine ewp_join (aft res127 (fun (s129 : (List Int) × Bool) (x130 : Unit) => [(6, (.slice (some ⟨g43, 0, none⟩) u36.length m38))]) (fun s129 x130 w' => ∃ O' : Lab, Bs w A w' O' ∧ Rw 3 w' O' 3 (.slice (some ⟨g43, 0, none⟩) u36.length m38) s129.1)) ?_ ?_
 ·
  refine ewp_block ?_
  replace hB := hB.st S122
  replace h8 := h8.st S122
  replace h11 := h11.st S122
  replace h14 := h14.st S122
  replace h17 := h17.st S122
  replace h24 := h24.st S122
  replace h68 := h68.st S122
  refine ewp_lop (σ := (List Int) × Bool) (X := Unit) hL128 (fun (s129 : (List Int) × Bool) (x130 : Unit) => [(1, (.slice none 0 0)), (2, (.pointer (some ⟨g20, 0, none⟩))), (6, (.slice (some ⟨g43, 0, none⟩) u36.length m38)), (9, (.slice A125 q118.length c126)), (10, (.bool s129.2))]) _ (fun s129 x130 w' => ∃ O' : Lab, Bs w A w' O' ∧ Lc 2 w' O' g20 26 [(.slice A9 x0.vars.length c10), (.slice A12 x0.init.length c13), (.slice A15 x0.goal.length c16), (.slice A18 x0.ops.length c19)] ∧ Vb w' (Fr 0 w' O') (.slice A9 x0.vars.length c10) x0.vars ∧ Vb w' (Fr 0 w' O') (.slice A12 x0.init.length c13) x0.init ∧ Vb w' (Fr 0 w' O') (.slice A15 x0.goal.length c16) x0.goal ∧ Vb w' (Fr 0 w' O') (.slice A18 x0.ops.length c19) x0.ops ∧ Rw 3 w' O' 3 (.slice (some ⟨g43, 0, none⟩) u36.length m38) s129.1 ∧ Vb w' (Fr 0 w' O') (.slice A125 q118.length c126) q118) _ () ⟨O121, hB, h24, h8, h11, h14, h17, h68, h123⟩ ⟨rfl, rfl, rfl, rfl, rfl, trivial⟩ ?_
  rintro s129 x130 w133 cc135 ⟨O134, hB, h24, h8, h11, h14, h17, h144, h123⟩ hf137 hret138 hbrk139
  refine ewp_seq (ewp_seq (ewp_region (o_mv rfl rfl (o_z ?_))))
  refine ewp_cond rfl (fun c146 => ?_) (fun c146 => ?_)
  ·
   replace hf137 := ip hf137 c146
   refine ewp_skip (ewp_block (ewp_seq (ewp_region (o_as rfl rfl (o_z ?_)))))
   refine ewp_seq (ewp_region (o_mv rfl rfl (o_ln rfl rfl ?_)))
   have l148 : q118.length ≤ 9223372036854775807 := Nat.le_trans h123.len.2.1 h123.len.2.2
   have r147 : inI64 (q118.length : Int) := rngNat l148
   refine o_mv rfl rfl (o_z ?_)
   obtain ⟨res149, hL150, hf137⟩ := bs hf137
   refine ewp_join (aft res149 (fun (s151 : (List Int) × Bool) (x152 : Unit) => [(1, (.slice none 0 0)), (2, (.pointer (some ⟨g20, 0, none⟩))), (6, (.slice (some ⟨g43, 0, none⟩) u36.length m38)), (9, (.slice A125 q118.length c126)), (10, (.bool s151.2))]) (fun s151 x152 w' => ∃ O' : Lab, Bs w A w' O' ∧ Lc 2 w' O' g20 26 [(.slice A9 x0.vars.length c10), (.slice A12 x0.init.length c13), (.slice A15 x0.goal.length c16), (.slice A18 x0.ops.length c19)] ∧ Vb w' (Fr 0 w' O') (.slice A9 x0.vars.length c10) x0.vars ∧ Vb w' (Fr 0 w' O') (.slice A12 x0.init.length c13) x0.init ∧ Vb w' (Fr 0 w' O') (.slice A15 x0.goal.length c16) x0.goal ∧ Vb w' (Fr 0 w' O') (.slice A18 x0.ops.length c19) x0.ops ∧ Rw 3 w' O' 3 (.slice (some ⟨g43, 0, none⟩) u36.length m38) s151.1 ∧ Vb w' (Fr 0 w' O') (.slice A125 q118.length c126) q118)) ?_ ?_
   ·
    refine ewp_block (ewp_rng (σ := (List Int) × Bool) (X := Unit) (q118.length) hL150 rfl l148 (fun (s151 : (List Int) × Bool) (x152 : Unit) => [(1, (.slice none 0 0)), (2, (.pointer (some ⟨g20, 0, none⟩))), (6, (.slice (some ⟨g43, 0, none⟩) u36.length m38)), (9, (.slice A125 q118.length c126)), (10, (.bool s151.2)), (41, (.slice A125 q118.length c126))]) _ (fun s151 x152 w' => ∃ O' : Lab, Bs w A w' O' ∧ Lc 2 w' O' g20 26 [(.slice A9 x0.vars.length c10), (.slice A12 x0.init.length c13), (.slice A15 x0.goal.length c16), (.slice A18 x0.ops.length c19)] ∧ Vb w' (Fr 0 w' O') (.slice A9 x0.vars.length c10) x0.vars ∧ Vb w' (Fr 0 w' O') (.slice A12 x0.init.length c13) x0.init ∧ Vb w' (Fr 0 w' O') (.slice A15 x0.goal.length c16) x0.goal ∧ Vb w' (Fr 0 w' O') (.slice A18 x0.ops.length c19) x0.ops ∧ Rw 3 w' O' 3 (.slice (some ⟨g43, 0, none⟩) u36.length m38) s151.1 ∧ Vb w' (Fr 0 w' O') (.slice A125 q118.length c126) q118) _ () ⟨O134, hB, h24, h8, h11, h14, h17, h144, h123⟩ ⟨rfl, rfl, rfl, rfl, rfl, rfl, rfl, rfl, trivial⟩ (fun _ _ => ⟨rfl, rfl⟩) (fun _ _ => ⟨rfl, rfl, rfl, rfl, rfl, trivial⟩) (fun _ _ _ ⟨O', hB, h24, h8, h11, h14, h17, h166, h123⟩ => ⟨O', hB, h24, h8, h11, h14, h17, h166, h123⟩) ⟨rfl, rfl, rfl⟩ ⟨rfl, rfl⟩ ?_)
    rintro k153 a154 s151 x152 w155 cc157 hx158 ⟨O156, hB, h24, h8, h11, h14, h17, h166, h123⟩ hf159 hret160 hbrk161
    have rk153 : inI64 (k153 : Int) := rngK hx158 l148
    refine ewp_seq (ewp_region ?_)
    obtain ⟨b168, o169, ce170, hA171, hl172, hd173, rfl, r175, r176, r177⟩ := h123.elem' hx158
    refine o_iaE (hA := hA171) (hj := rfl) (hlt := hl172) rfl rfl rfl ?_
    refine o_la (hl := rfl) (hc := hd173) rfl rfl ?_
    refine l_alloc 4 O156 rfl fun g178 w179 O180 S181 h182 => ?_
    refine l_store h182 rfl rfl rfl (Nat.le_of_ble_eq_true rfl) (by first | exact allOne rfl | simp [Value.cells, Value.oneCell', errV_one]) fun w183 S184 h182 => ?_
    replace h182 : Lc 4 w183 O180 g178 75 [(.int .i64 a154.src), (.int .i64 a154.op), (.int .i64 a154.dst)] := h182
    refine o_z ?_
    refine ewp_seq (ewp_region (o_fa rfl rfl ?_))
    replace h24 := (h24.st S181).st S184
    refine o_ld (hc := Blk.cell (i := 3) (h24.1) rfl) rfl rfl ?_
    refine o_fa rfl rfl (o_ld (hc := Blk.cell (i := 1) (h182.1) rfl) rfl rfl ?_)
    obtain ⟨a185, e186, hf159⟩ := bs hf159
    obtain ⟨p188, x187⟩ := atI_some' e186
    replace h17 := (h17.st S181).st S184
    obtain ⟨b189, o190, ce191, hA192, hl193, hd194, v196, v197, rfl, h198, h201, r204, z205⟩ := h17.elem' x187
    obtain ⟨A199, c200, rfl⟩ := h198.form
    obtain ⟨A202, c203, rfl⟩ := h201.form
    refine o_iaE (hA := hA192) (hj := (Int.toNat_of_nonneg p188).symm) (hlt := hl193) rfl rfl rfl ?_
    refine o_fa rfl rfl (o_ld (hc := cat1 hd194) rfl rfl ?_)
    refine o_as rfl rfl (o_z ?_)
    refine ewp_seq (ewp_seq (ewp_region (o_mv rfl rfl (o_sq rfl rfl ?_))))
    refine o_z ?_
    refine ewp_false rfl (ewp_skip (ewp_seq ?_))
    obtain ⟨y206, hy207, hf159⟩ := bs hf159
    refine ewp_join (fun l' w' => ∃ (x209 : Unit) (O' : Lab), subs l' [(1, (.slice none 0 0)), (2, (.pointer (some ⟨g20, 0, none⟩))), (6, (.slice (some ⟨g43, 0, none⟩) u36.length m38)), (9, (.slice A125 q118.length c126)), (10, (.bool s151.2)), (12, (.pointer (some ⟨g178, 0, none⟩))), (13, (.int .i64 a185.cost)), (41, (.slice A125 q118.length c126)), (42, (.int .i64 (q118.length : Int))), (43, (.int .i64 (k153 : Int))), (81, (.bool y206))] ∧ Bs w A w' O' ∧ Lc 2 w' O' g20 26 [(.slice A9 x0.vars.length c10), (.slice A12 x0.init.length c13), (.slice A15 x0.goal.length c16), (.slice A18 x0.ops.length c19)] ∧ Vb w' (Fr 0 w' O') (.slice A9 x0.vars.length c10) x0.vars ∧ Vb w' (Fr 0 w' O') (.slice A12 x0.init.length c13) x0.init ∧ Vb w' (Fr 0 w' O') (.slice A15 x0.goal.length c16) x0.goal ∧ Vb w' (Fr 0 w' O') (.slice A18 x0.ops.length c19) x0.ops ∧ Rw 3 w' O' 3 (.slice (some ⟨g43, 0, none⟩) u36.length m38) s151.1 ∧ Vb w' (Fr 0 w' O') (.slice A125 q118.length c126) q118 ∧ Lc 4 w' O' g178 75 [(.int .i64 a154.src), (.int .i64 a154.op), (.int .i64 a154.dst)]) ?_ ?_
    ·
     refine ewp_draw (· = w183) [(0, true), (1, true), (2, true), (3, true), (4, true), (5, true), (6, true), (7, true), (8, true), (9, true), (10, true), (11, true), (12, true), (13, true), (14, true), (15, true), (16, true), (17, true), (18, true), (19, true), (20, true)] (by kernel_rfl) rfl (by kernel_rfl) rfl ?_
     refine h_mv rfl rfl rfl (h_fa rfl rfl rfl (h_ldA (hc := Blk.cell (i := 2) (h182.1) rfl) rfl rfl rfl ?_))
     obtain ⟨a210, e211, hy207⟩ := bs hy207
     obtain ⟨p213, x212⟩ := atI_some' e211
     replace h166 := (h166.st S181).st S184
     obtain ⟨b214, o215, ce216, hA217, hl218, hd219, rfl, r221⟩ := h166.elem x212
     refine h_iaE (hA := hA217) (hj := (Int.toNat_of_nonneg p213).symm) (hlt := hl218) rfl rfl rfl rfl ?_
     refine h_ldA (hc := cat0 hd219) rfl rfl rfl ?_
     refine h_ltS rfl rfl rfl rfl (fun c222 => ?_) fun c222 => ?_
     ·
      replace hy207 := ip hy207 c222
      refine h_mv rfl rfl rfl (hwp_o rfl (hwq_yes rfl rfl (g_mv rfl rfl (hwp_o rfl (hwq_yes rfl rfl (g_fa rfl rfl (hwp_o rfl (hwq_yes rfl rfl (g_ldA (hc := Blk.cell (i := 2) (h182.1) rfl) rfl rfl ?_)))))))))
      refine hwp_o rfl (hwq_yes rfl rfl ?_)
      obtain ⟨a223, e224, hy207⟩ := bs hy207
      obtain ⟨p226, x225⟩ := atI_some' e224
      obtain ⟨b227, o228, ce229, hA230, hl231, hd232, rfl, r234⟩ := h166.elem x225
      refine g_iaE (hA := hA230) (hj := (Int.toNat_of_nonneg p226).symm) (hlt := hl231) rfl rfl rfl ?_
      refine hwp_o rfl (hwq_yes rfl rfl (g_ldA (hc := cat0 hd232) rfl rfl ?_))
      refine hwp_o rfl (hwq_yes rfl rfl (g_mv rfl rfl (hwp_o rfl (hwq_yes rfl rfl ?_))))
      obtain ⟨n235, e236, hy207⟩ := bs hy207
      have r237 := (chkI_rng e236)
      refine g_adE (he := e236) rfl rfl rfl ?_
      refine hwp_o rfl (hwq_yes rfl rfl (g_mv rfl rfl (hwp_o rfl (hwq_yes rfl rfl (g_fa rfl rfl (hwp_o rfl (hwq_yes rfl rfl (g_ldA (hc := Blk.cell (i := 0) (h182.1) rfl) rfl rfl ?_))))))))
      refine hwp_o rfl (hwq_yes rfl rfl ?_)
      obtain ⟨a238, e239, hy207⟩ := bs hy207
      obtain ⟨p241, x240⟩ := atI_some' e239
      obtain ⟨b242, o243, ce244, hA245, hl246, hd247, rfl, r249⟩ := h166.elem x240
      refine g_iaE (hA := hA245) (hj := (Int.toNat_of_nonneg p241).symm) (hlt := hl246) rfl rfl rfl ?_
      refine hwp_o rfl (hwq_yes rfl rfl (g_ldA (hc := cat0 hd247) rfl rfl ?_))
      refine hwp_o rfl (hwq_yes rfl rfl (hwq_split (fun _ _ => ev_lss rfl rfl) rfl (fun c250 => ?_) (fun c250 => ?_)))
      ·
       replace hy207 := ip hy207 c250
       refine h_pt rfl rfl rfl rfl (h_z ?_)
       obtain rfl := sm hy207
       replace hB := (hB.st S181).st S184
       replace h8 := (h8.st S181).st S184
       replace h11 := (h11.st S181).st S184
       replace h14 := (h14.st S181).st S184
       replace h123 := (h123.st S181).st S184
       exact ⟨(), _, ⟨rfl, rfl, rfl, rfl, rfl, rfl, rfl, rfl, rfl, rfl, rfl, trivial⟩, hB, h24, h8, h11, h14, h17, h166, h123, h182⟩
      ·
       replace hy207 := im hy207 c250
       refine h_pt rfl rfl rfl rfl (h_z ?_)
       obtain rfl := sm hy207
       replace hB := (hB.st S181).st S184
       replace h8 := (h8.st S181).st S184
       replace h11 := (h11.st S181).st S184
       replace h14 := (h14.st S181).st S184
       replace h123 := (h123.st S181).st S184
       exact ⟨(), _, ⟨rfl, rfl, rfl, rfl, rfl, rfl, rfl, rfl, rfl, rfl, rfl, trivial⟩, hB, h24, h8, h11, h14, h17, h166, h123, h182⟩
     ·
      replace hy207 := im hy207 c222
      refine h_mv rfl rfl rfl (h_no rfl rfl rfl rfl rfl (h_no rfl rfl rfl rfl rfl (h_no rfl rfl rfl rfl rfl (h_no rfl rfl rfl rfl rfl (h_no rfl rfl rfl rfl rfl (h_no rfl rfl rfl rfl rfl (h_no rfl rfl rfl rfl rfl (h_no rfl rfl rfl rfl rfl (h_no rfl rfl rfl rfl rfl (h_no rfl rfl rfl rfl rfl (h_no rfl rfl rfl rfl rfl (h_no rfl rfl rfl rfl rfl (h_no rfl rfl rfl rfl rfl (h_pf rfl rfl rfl rfl ?_))))))))))))))
      refine h_z ?_
      obtain rfl := sm hy207
      replace hB := (hB.st S181).st S184
      replace h8 := (h8.st S181).st S184
      replace h11 := (h11.st S181).st S184
      replace h14 := (h14.st S181).st S184
      replace h123 := (h123.st S181).st S184
      exact ⟨(), _, ⟨rfl, rfl, rfl, rfl, rfl, rfl, rfl, rfl, rfl, rfl, rfl, trivial⟩, hB, h24, h8, h11, h14, h17, h166, h123, h182⟩
    replace hB := (hB.st S181).st S184
    replace h8 := (h8.st S181).st S184
    replace h11 := (h11.st S181).st S184
    replace h14 := (h14.st S181).st S184
    replace h123 := (h123.st S181).st S184
    replace h166 := (h166.st S181).st S184
    rintro l251 w252 ⟨x209, O253, hs254, hB, h24, h8, h11, h14, h17, h166, h123, h182⟩
    refine ewp_sub _ hs254 ?_
    refine ewp_cond rfl (fun c255 => ?_) (fun c255 => ?_)
    ·
     replace hf159 := ip hf159 c255
     refine ewp_seq (ewp_drawX [] O253 ?_)
     refine x_pre (fuel := 1) [] [(0, true), (1, true), (2, true), (3, true), (4, true), (5, true), (6, true), (7, true), (8, true), (9, true), (10, true)] (by kernel_rfl) rfl ?_
     refine h_mv rfl rfl rfl (h_fa rfl rfl rfl (h_ldC (hc := fun w' ⟨O', hq⟩ => Blk.cell (i := 0) ((h182.st hq (by decide)).1) rfl) rfl rfl rfl ?_))
     refine h_mv rfl rfl rfl (h_fa rfl rfl rfl (h_ldC (hc := fun w' ⟨O', hq⟩ => Blk.cell (i := 2) ((h182.st hq (by decide)).1) rfl) rfl rfl rfl ?_))
     obtain ⟨a256, e257, hf159⟩ := bs hf159
     obtain ⟨p259, x258⟩ := atI_some' e257
     obtain ⟨b260, o261, ce262, hA263, hF266, hl264, hd265, rfl, r267⟩ := h166.elemF x258
     refine h_iaE (hA := hA263) (hj := (Int.toNat_of_nonneg p259).symm) (hlt := hl264) rfl rfl rfl rfl ?_
     refine h_ldC (hc := fun w' ⟨O', hq⟩ => cat0 (cellsAt_agree (hq.agree (i := 3) (by decide)) hF266 hd265)) rfl rfl rfl ?_
     refine h_mv rfl rfl rfl ?_
     obtain ⟨n268, e269, hf159⟩ := bs hf159
     have r270 := (chkI_rng e269)
     refine h_adE (he := e269) rfl rfl rfl rfl ?_
     obtain ⟨a271, e272, hf159⟩ := bs hf159
     obtain ⟨p274, x273⟩ := atI_some' e272
     obtain ⟨b275, o276, ce277, hA278, hF281, hl279, hd280, rfl, r282⟩ := h166.elemF x273
     refine h_iaE (hA := hA278) (hj := (Int.toNat_of_nonneg p274).symm) (hlt := hl279) rfl rfl rfl rfl ?_
     refine hwp_nilT ?_
     refine x_one (i := 11) (by kernel_rfl) rfl ?_
     refine l_setE rfl h166 (a := n268) (vInt r270) hA278 rfl rfl (lt_of_get x273) fun w283 S284 h166 => ?_
     refine x_end (by kernel_rfl) ?_
     refine x_nil (by kernel_rfl) ?_
     refine ewp_region (o_as rfl rfl (o_z ?_))
     obtain rfl := sm hf159
     refine (?_ : Exists _)
     replace hB := hB.st S284
     replace h8 := h8.st S284
     replace h11 := h11.st S284
     replace h14 := h14.st S284
     replace h17 := h17.st S284
     replace h24 := h24.st S284
     replace h123 := h123.st S284
     exact ⟨_, (), rfl, ⟨rfl, rfl, rfl, rfl, rfl, rfl, rfl, rfl, trivial⟩, _, hB, h24, h8, h11, h14, h17, h166, h123⟩
    ·
     replace hf159 := im' hf159 c255
     refine ewp_skip ?_
     obtain rfl := sm hf159
     refine (?_ : Exists _)
     exact ⟨_, (), rfl, ⟨rfl, rfl, rfl, rfl, rfl, rfl, rfl, rfl, trivial⟩, _, hB, h24, h8, h11, h14, h17, h166, h123⟩
   rintro l285 w286 ⟨s289, x290, rfl, hs288, O287, hB, h24, h8, h11, h14, h17, h166, h123⟩
   replace hf137 := fin_done hf137
   obtain rfl := sm hf137
   refine (?_ : Exists _)
   exact ⟨_, (), rfl, ⟨(subs_lk hs288 _ _ rfl), (subs_lk hs288 _ _ rfl), (subs_lk hs288 _ _ rfl), (subs_lk hs288 _ _ rfl), (subs_lk hs288 _ _ rfl), trivial⟩, _, hB, h24, h8, h11, h14, h17, h166, h123⟩
  ·
   replace hf137 := im' hf137 c146
   refine ewp_exit ?_
   obtain rfl := sm hf137
   refine (?_ : Exists _)
   exact ⟨_, (), hbrk139 _ rfl, ⟨rfl, trivial⟩, _, hB, h144⟩
 replace hB := hB.st S122
 rintro l291 w292 ⟨s295, x296, rfl, hs294, O293, hB, h144⟩
 replace hm := fin_done hm
 refine ewp_sub _ hs294 ?_
 refine ewp_seq (ewp_region (o_mv rfl rfl (o_as rfl rfl (o_z ?_))))
 refine ewp_ret ?_
 obtain ⟨O297, S298, h144⟩ := h144.freeze
 obtain rfl := sm hm
 replace hB := hB.st S298
 exact ret1v rfl (res_tmp rfl) ⟨hB.ext, (Vb.mono (F := Fr 0 w292 O297) h144 hB.out)⟩
end
section
section
variable {α σ ρ : Type}
theorem fin_d {s : σ} {f : σ → Option ρ} : fin (.done s) f = f s := rfl
theorem if_t {x y : α} : (if true = true then x else y) = x := rfl
theorem if_f {x y : α} : (if false = true then x else y) = y := rfl
theorem not_t {x y : α} : (if (!true) = true then x else y) = y := rfl
theorem rng_inv_from {f : Nat → α → σ → Option (Ctl σ ρ)} {I : Nat → σ → Prop} {R : ρ → Prop} : ∀ (ys : List α) (j : Nat) (s : σ), I j s →
    (∀ k x s, ys[k]? = some x → I (j + k) s → (∃ s', f (j + k) x s = some (.next s') ∧ I (j + k + 1) s') ∨ (∃ r, f (j + k) x s = some (.ret r) ∧ R r)) →
    (∃ s', rng f ys j s = some (.done s') ∧ I (j + ys.length) s') ∨ ∃ r, rng f ys j s = some (.ret r) ∧ R r
  | [], j, s, h0, _ => .inl ⟨s, rfl, h0⟩
  | y :: ys, j, s, h0, h => by
    rcases h 0 y s rfl h0 with ⟨s', h1, h2⟩ | ⟨r, h1, h2⟩
    · have h1' : f j y s = some (.next s') := h1
      simp only [rng, h1']
      rcases rng_inv_from (I := I) (R := R) ys (j + 1) s' h2 (fun k x s hk hI => by
        have := h (k + 1) x s (by simpa using hk) (by rwa [show j + (k + 1) = j + 1 + k from by omega])
        rwa [show j + (k + 1) = j + 1 + k from by omega] at this) with ⟨s2, h3, h4⟩ | h3
      · exact .inl ⟨s2, h3, by rw [List.length_cons, show j + (ys.length + 1) = j + 1 + ys.length from by omega]; exact h4⟩
      · exact .inr h3
    · have h1' : f j y s = some (.ret r) := h1
      simp only [rng, h1']
      exact .inr ⟨r, rfl, h2⟩
theorem rng_inv {f : Nat → α → σ → Option (Ctl σ ρ)} {xs : List α} {s₀ : σ} (I : Nat → σ → Prop) (R : ρ → Prop) (h0 : I 0 s₀)
    (h : ∀ k x s, xs[k]? = some x → I k s → (∃ s', f k x s = some (.next s') ∧ I (k + 1) s') ∨ (∃ r, f k x s = some (.ret r) ∧ R r)) :
    (∃ s', rng f xs 0 s₀ = some (.done s') ∧ I xs.length s') ∨ ∃ r, rng f xs 0 s₀ = some (.ret r) ∧ R r := by
  have := rng_inv_from (f := f) (I := I) (R := R) xs 0 s₀ h0 (fun k x s hk hI => by rw [Nat.zero_add] at hI ⊢; exact h k x s hk hI)
  rwa [Nat.zero_add] at this
/-- A loop that runs to its end. -/
theorem rng_all {f : Nat → α → σ → Option (Ctl σ ρ)} {xs : List α} {s₀ : σ} (I : Nat → σ → Prop) (h0 : I 0 s₀) (h : ∀ k x s, xs[k]? = some x → I k s → ∃ s', f k x s = some (.next s') ∧ I (k + 1) s') :
    ∃ s', rng f xs 0 s₀ = some (.done s') ∧ I xs.length s' := by
  rcases rng_inv I (fun _ => False) h0 (fun k x s hk hI => .inl (h k x s hk hI)) with h | ⟨_, _, h⟩
  · exact h
  · exact h.elim
/-- A loop whose state is known in each round. -/
theorem rng_fun {f : Nat → α → σ → Option (Ctl σ ρ)} {xs : List α} (g : Nat → σ) (h : ∀ k x, xs[k]? = some x → f k x (g k) = some (.next (g (k + 1)))) : rng f xs 0 (g 0) = some (.done (g xs.length)) := by
  obtain ⟨s', h1, h2⟩ := rng_all (f := f) (xs := xs) (s₀ := g 0) (fun k s => s = g k) rfl (fun k x s hk hI => ⟨_, by rw [hI]; exact h k x hk, rfl⟩)
  rw [h1, h2]
theorem rng_from {f : Nat → α → σ → Option (Ctl σ ρ)} {xs : List α} {s₀ : σ} (g : Nat → σ) (h0 : s₀ = g 0) (h : ∀ k x, xs[k]? = some x → f k x (g k) = some (.next (g (k + 1)))) : rng f xs 0 s₀ = some (.done (g xs.length)) := by
  rw [h0]; exact rng_fun g h
theorem rngN_fun {f : Nat → σ → Option (Ctl σ ρ)} {N : Nat} (g : Nat → σ) (h : ∀ k, k < N → f k (g k) = some (.next (g (k + 1)))) : rngN f N (g 0) = some (.done (g N)) := by
  have := rng_fun (f := fun _ k s => f k s) (xs := List.range N) g (fun k x hk => by
    obtain ⟨hlt, rfl⟩ := List.getElem?_eq_some_iff.1 hk
    simpa using h k (by simpa using hlt))
  rwa [List.length_range] at this
theorem rngN_from {f : Nat → σ → Option (Ctl σ ρ)} {N : Nat} {s₀ : σ} (g : Nat → σ) (h0 : s₀ = g 0) (h : ∀ k, k < N → f k (g k) = some (.next (g (k + 1)))) : rngN f N s₀ = some (.done (g N)) := by
  rw [h0]; exact rngN_fun g h
end
end
section
open Go Go.RowKit
theorem rng_any_from {α ρ : Type} {f : Nat → α → Unit → Option (Ctl Unit ρ)} (p : α → Bool) (c : ρ) : ∀ (xs : List α) (j : Nat), (∀ k x, xs[k]? = some x → f (j + k) x () = some (if p x = true then .ret c else .next ())) → rng f xs j () = some (if xs.any p = true then .ret c else .done ())
  | [], _, _ => rfl
  | x :: xs, j, h => by
    have h0 := h 0 x rfl
    rw [Nat.add_zero] at h0
    simp only [rng, h0]
    by_cases hp : p x = true
    · simp [hp]
    · rw [if_neg hp]
      have := rng_any_from p c xs (j + 1) (fun k y hy => by rw [show j + 1 + k = j + (k + 1) from by omega]; exact h (k + 1) y (by simpa using hy))
      simp only [this]
      simp [hp]
theorem rng_any {α ρ : Type} {f : Nat → α → Unit → Option (Ctl Unit ρ)} {xs : List α} (p : α → Bool) (c : ρ) (h : ∀ k x, xs[k]? = some x → f k x () = some (if p x = true then .ret c else .next ())) : rng f xs 0 () = some (if xs.any p = true then .ret c else .done ()) :=
  rng_any_from p c xs 0 fun k x hx => by rw [Nat.zero_add]; exact h k x hx
/-- A list of facts demands another value of an effect's variable. -/
def contra (l : List Fct) (e : Eff) : Bool := l.any fun f => decide (f.var = e.var) && decide (f.val ≠ e.val)
def onvar (l : List Fct) (v : Int) : Bool := l.any fun f => decide (f.var = v)
def clash (e f : Eff) : Bool := onvar f.cond e.var || (decide (f.var = e.var) && decide (f.val ≠ e.val))
def disB (a b : Opr) : Bool := a.effs.any fun e => contra b.pre e || b.effs.any (clash e)
def intB (a b : Opr) : Bool := disB a b || disB b a
theorem at_nat {α : Type} {l : List α} {i : Int} (h0 : 0 ≤ i) (h1 : i < l.length) : ∃ x, atI l i = some x ∧ l[i.toNat]? = some x := by
  have hlt : i.toNat < l.length := by omega
  refine ⟨l[i.toNat], ?_, List.getElem?_eq_getElem hlt⟩
  unfold atI
  rw [if_pos h0]
  exact List.getElem?_eq_getElem hlt
theorem on_eq (l : List Fct) (v : Int) : m_stubborn_on l v = some (match l.find? (fun f => decide (f.var = v)) with | some f => (f.val, true) | none => (0, false)) := by
  unfold m_stubborn_on
  have key : ∀ (l : List Fct) (j : Nat), rng (ρ := Int × Bool) (fun (_ : Nat) (a12 : Fct) (_ : Unit) => if a12.var = v then (some (.ret (a12.val, true))) else (some (.next ()))) l j () = some (match l.find? (fun f => decide (f.var = v)) with | some f => .ret (f.val, true) | none => .done ()) := by
    intro l
    induction l with
    | nil => intro j; rfl
    | cons x l ih =>
      intro j
      simp only [rng]
      by_cases h : x.var = v
      · simp [h]
      · simp only [h, if_false]
        rw [ih (j + 1)]
        simp [h]
  rw [key, bnd_some]
  cases l.find? (fun f => decide (f.var = v)) <;> rfl
/-- With at most one fact for each variable: the first fact of a variable is the only one. -/
theorem on_contra {vars : List Int} {l : List Fct} (h : FactsOk vars l) (e : Eff) : (match l.find? (fun f => decide (f.var = e.var)) with | some f => decide (f.val ≠ e.val) | none => false) = contra l e := by
  cases hf : l.find? (fun f => decide (f.var = e.var)) with
  | none =>
    symm
    unfold contra
    rw [List.any_eq_false]
    intro f hm
    have := List.find?_eq_none.1 hf f hm
    simp at this
    simp [this]
  | some f =>
    have h1 := List.mem_of_find?_eq_some hf
    have h2 : f.var = e.var := by simpa using List.find?_some hf
    have uniq : ∀ g ∈ l, g.var = e.var → g = f := fun g hg hv => by
      obtain ⟨i, hi⟩ := List.getElem?_of_mem hg
      obtain ⟨j, hj⟩ := List.getElem?_of_mem h1
      rcases Nat.lt_trichotomy i j with hlt | rfl | hlt
      · have := factsOk_lt h j i g f hlt hi hj; omega
      · rw [hi] at hj; exact Option.some.inj hj
      · have := factsOk_lt h i j f g hlt hj hi; omega
    unfold contra
    by_cases hv : f.val = e.val
    · simp only [hv, ne_eq, not_true_eq_false, decide_false]
      symm
      rw [List.any_eq_false]
      intro g hg
      by_cases hq : g.var = e.var
      · rw [uniq g hg hq]; simp [hv]
      · simp [hq]
    · simp only [ne_eq, hv, not_false_eq_true, decide_true]
      symm
      rw [List.any_eq_true]
      exact ⟨f, h1, by simp [h2, hv]⟩
theorem on_var (l : List Fct) (v : Int) : (match l.find? (fun f => decide (f.var = v)) with | some _ => true | none => false) = onvar l v := by
  unfold onvar
  cases hf : l.find? (fun f => decide (f.var = v)) with
  | none =>
    symm
    rw [List.any_eq_false]
    intro f hm
    have := List.find?_eq_none.1 hf f hm
    simpa using this
  | some f =>
    symm
    rw [List.any_eq_true]
    exact ⟨f, List.mem_of_find?_eq_some hf, by have := List.find?_some hf; simpa using this⟩
theorem hinders_eq {vars : List Int} (a b : Opr) (hb : FactsOk vars b.pre) : m_stubborn_hinders a b = some (disB a b) := by
  unfold m_stubborn_hinders
  rw [rng_any (fun e => contra b.pre e || b.effs.any (clash e)) true ?_, bnd_some]
  · unfold disB
    split <;> simp_all [fin]
  · intro k e _
    rw [on_eq, bnd_some]
    have hc := on_contra hb e
    have hx : ∀ {ρ : Type} (F : Bool → Option ρ), (bnd (if (match b.pre.find? (fun f : Fct => decide (f.var = e.var)) with | some f => (f.val, true) | none => ((0 : Int), false)).2 = true then (if (match b.pre.find? (fun f : Fct => decide (f.var = e.var)) with | some f => (f.val, true) | none => ((0 : Int), false)).1 ≠ e.val then (some true) else (some false)) else (some false) : Option Bool) F) = F (contra b.pre e) := by
      intro ρ F
      rw [← hc]
      cases b.pre.find? (fun f => decide (f.var = e.var)) with
      | none => simp [bnd]
      | some f => by_cases hv : f.val = e.val <;> simp [hv, bnd]
    rw [hx]
    cases h1 : contra b.pre e with
    | true => simp
    | false =>
      simp only [Bool.false_eq_true, if_false, Bool.false_or]
      rw [rng_any (clash e) (Ctl.ret true : Ctl Unit Bool) ?_, bnd_some]
      · by_cases h2 : b.effs.any (clash e) = true
        · simp only [h2, if_true, fin]
        · have h2' : b.effs.any (clash e) = false := by simpa using h2
          simp only [h2', Bool.false_eq_true, if_false, fin]
      · intro k2 f _
        rw [on_eq, bnd_some]
        have hv := on_var f.cond e.var
        unfold clash
        rw [← hv]
        cases f.cond.find? (fun f => decide (f.var = e.var)) with
        | none => by_cases h4 : f.var = e.var <;> by_cases h5 : f.val = e.val <;> simp [h4, h5, bnd]
        | some g => simp [bnd]
theorem int_eq {t : Tsk} (h : TaskOk t) {a b : Int} (ha : 0 ≤ a ∧ a < t.ops.length) (hb : 0 ≤ b ∧ b < t.ops.length) : ∃ x y, atI t.ops a = some x ∧ atI t.ops b = some y ∧ t.ops[a.toNat]? = some x ∧ t.ops[b.toNat]? = some y ∧ m_stubborn_interfere t a b = some (decide (a ≠ b) && intB x y) := by
  obtain ⟨x, hx, hx'⟩ := at_nat ha.1 ha.2
  obtain ⟨y, hy, hy'⟩ := at_nat hb.1 hb.2
  refine ⟨x, y, hx, hy, hx', hy', ?_⟩
  have px := (h.2.2.2.2.2 _ x hx').2.2.2.2.1
  have py := (h.2.2.2.2.2 _ y hy').2.2.2.2.1
  unfold m_stubborn_interfere
  by_cases he : a = b
  · simp [he, bnd]
  · rw [if_pos he, hx, hy, bnd_some, bnd_some, hinders_eq x y py, bnd_some]
    unfold intB
    cases h : disB x y
    · simp only [Bool.false_eq_true, if_false, bnd_some, hinders_eq y x px]
      cases h2 : disB y x <;> simp [he, bnd]
    · simp [he, bnd]
theorem check_t {t : Tsk} (h : TaskOk t) : m_task_Check t = some ⟨0⟩ := by unfold m_task_Check; rw [check_ok.2 h]
end
section
open Go Go.RowKit
theorem states_eq {vars : List Int} (h0 : ∀ (i : Nat) n, vars[i]? = some n → 0 ≤ n ∧ n ≤ 64) (hb : ∀ k, (statesL (vars.take k)).length ≤ 1000000) (hvn : vars.length ≤ 1000) : m_base_States vars = some (statesL vars) := by
  unfold m_base_States
  rw [rng_from (fun k => statesL (vars.take k)) ?_ ?_]
  · rw [bnd_some, fin_d, List.take_length]
  · rfl
  intro k n hn
  obtain ⟨N, rfl⟩ := Int.eq_ofNat_of_zero_le (h0 k n hn).1
  have hN := (h0 k _ hn).2
  have hk := lt_of_get hn
  have hlen := hb k
  rw [rng_from (fun i => ((statesL (vars.take k)).take i).flatMap (exts N)) ?_ ?_]
  · rw [bnd_some, fin_d, List.take_length, statesL_step hn]; rfl
  · rfl
  intro i s hs
  have hsl := statesL_mem vars k (by omega) s (List.mem_of_getElem? hs)
  have hfl := grows_len N ((statesL (vars.take k)).take i)
  have hfl2 : ((statesL (vars.take k)).take i).length * N ≤ 1000000 * 64 := Nat.mul_le_mul (by rw [List.length_take]; omega) (by omega)
  rw [natI_eq, bnd_some, rngN_from (fun x => ((statesL (vars.take k)).take i).flatMap (exts N) ++ exts x s) ?_ ?_]
  · rw [bnd_some, fin_d, flat_step _ hs]
  · simp [exts]
  intro x hx
  rw [appI_eq (by simp; omega) (by simp; omega), bnd_some, appI_eq (by simp; omega) (by simp; omega), bnd_some, appI_eq (by simp only [List.length_append, exts_len, List.length_singleton]; omega) (by simp only [List.length_append, exts_len, List.length_singleton]; omega), bnd_some, exts_step]
  simp
theorem states_small {t : Tsk} (h : SmallOk t) : m_base_States t.vars = some (statesL t.vars) :=
  states_eq (fun i n hn => by have := h.ok.vars i n hn; omega) (fun k => by have := h.states k; omega) (by have := h.1; omega)
end
section
open Go Go.RowKit
/-- The state after an operator's effects. -/
def effsOn (s : List Int) : List Eff → List Int → List Int
  | [], out => out
  | e :: r, out => effsOn s r (if holdsB e.cond s = true then out.set e.var.toNat e.val else out)
theorem effsOn_append (s : List Int) : ∀ (a b : List Eff) (out : List Int), effsOn s (a ++ b) out = effsOn s b (effsOn s a out)
  | [], _, _ => rfl
  | e :: a, b, out => by simp [effsOn, effsOn_append s a b]
theorem effsOn_length (s : List Int) : ∀ (a : List Eff) (out : List Int), (effsOn s a out).length = out.length
  | [], _ => rfl
  | e :: a, out => by
    rw [effsOn, effsOn_length s a]
    split <;> simp
theorem effsOn_step (s : List Int) {l : List Eff} {k : Nat} {e : Eff} (h : l[k]? = some e) (out : List Int) : effsOn s (l.take (k + 1)) out = if holdsB e.cond s = true then (effsOn s (l.take k) out).set e.var.toNat e.val else effsOn s (l.take k) out := by
  rw [List.take_add_one, h, effsOn_append]; rfl
/-- The effects name variables of the state. -/
def EffsIn (s : List Int) (l : List Eff) : Prop := ∀ (i : Nat) e, l[i]? = some e → 0 ≤ e.var ∧ e.var < s.length
def succ (o : Opr) (s : List Int) : List Int := effsOn s o.effs s
end
section
open Go Go.RowKit
theorem holds_eq (f : List Fct) (s : List Int) : m_base_Holds f s = some (holdsB f s) := rfl
theorem effs_run {ρ : Type} {s : List Int} {effs : List Eff} (he : EffsIn s effs) (m : List Fct → List Int → Option Bool) (hm : ∀ f s, m f s = some (holdsB f s)) (u : List Int) (hu : u.length = s.length) :
    rng (ρ := ρ) (fun (_ : Nat) (e : Eff) (out : List Int) => bnd (m e.cond s) fun q => if q = true then bnd (atI out e.var) fun _ => some (.next (out.set (e.var).toNat e.val)) else some (.next out)) effs 0 u = some (.done (effsOn s effs u)) := by
  rw [rng_from (fun k => effsOn s (effs.take k) u) ?_ ?_, List.take_length]
  · rfl
  intro k e hk
  rw [hm, bnd_some, effsOn_step s hk]
  have hin := he k e hk
  have hl := effsOn_length s (effs.take k) u
  by_cases hb : holdsB e.cond s = true
  · rw [if_pos hb, if_pos hb]
    obtain ⟨j, hj⟩ := Int.eq_ofNat_of_zero_le hin.1
    rw [hj, atI_eq, List.getElem?_eq_getElem (by omega), bnd_some]
  · rw [if_neg hb, if_neg hb]
theorem apply_eq {t : Tsk} {s : List Int} {j : Nat} {o : Opr} (ho : t.ops[j]? = some o) (hp : holdsB o.pre s = true) (hl : s.length ≤ 1000000) (he : EffsIn s o.effs) : m_base_Apply t s (j : Int) = some (succ o s, true) := by
  have hj := lt_of_get ho
  unfold m_base_Apply
  rw [if_neg (by omega), if_neg (by omega), atI_eq, ho, bnd_some, holds_eq, bnd_some, hp, if_t, bnd_some, if_f, appI_eq (by simp; omega) (by simp; omega), bnd_some, bnd_some, List.nil_append, effs_run he m_base_Holds holds_eq s rfl, bnd_some, fin_d]
  rfl
theorem TaskOk.effs {t : Tsk} (h : TaskOk t) {s : List Int} (hs : StateOk t.vars s) : ∀ (i : Nat) o, t.ops[i]? = some o → EffsIn s o.effs := fun i o ho j e he => by
  obtain ⟨h1, _, y, hy, _⟩ := ((h.2.2.2.2.2 i o ho).2.2.2.2.2 j e he).2
  refine ⟨h1, ?_⟩
  have := lt_of_get hy
  rw [hs.1]
  simp only at h1 this
  omega
theorem effsOn_ok {vars s : List Int} : ∀ (l : List Eff), (∀ e ∈ l, EffOk vars e) → ∀ (u : List Int), StateOk vars u → StateOk vars (effsOn s l u)
  | [], _, _, hu => hu
  | e :: l, he, u, hu => by
    refine effsOn_ok l (fun e' h' => he e' (List.mem_cons_of_mem _ h')) _ ?_
    split
    · obtain ⟨_, h1, h2, y, hy, h3⟩ := he e List.mem_cons_self
      refine ⟨by rw [List.length_set]; exact hu.1, fun i x n hx hn => ?_⟩
      rw [List.getElem?_set] at hx
      by_cases hi : e.var.toNat = i
      · subst hi
        rw [if_pos rfl] at hx
        split at hx
        · obtain rfl := Option.some.inj hx
          simp only at hy h2 h3
          rw [hy] at hn
          obtain rfl := Option.some.inj hn
          exact ⟨h2, h3⟩
        · cases hx
      · rw [if_neg hi] at hx
        exact hu.2 i x n hx hn
    · exact hu
theorem succ_ok {t : Tsk} (h : TaskOk t) {s : List Int} (hs : StateOk t.vars s) {k : Nat} {o : Opr} (ho : t.ops[k]? = some o) : StateOk t.vars (succ o s) :=
  effsOn_ok o.effs (fun e he => by obtain ⟨j, hj⟩ := List.getElem?_of_mem he; exact (h.2.2.2.2.2 k o ho).2.2.2.2.2 j e hj) s hs
theorem apply_all {t : Tsk} (h : TaskOk t) {s : List Int} (hs : StateOk t.vars s) {k : Nat} {o : Opr} (ho : t.ops[k]? = some o) : m_base_Apply t s (k : Int) = some (if holdsB o.pre s = true then (succ o s, true) else ([], false)) := by
  have hk := lt_of_get ho
  by_cases hp : holdsB o.pre s = true
  · rw [apply_eq ho hp (by have := hs.1; have := h.1; omega) (h.effs hs k o ho), if_pos hp]
  · unfold m_base_Apply
    rw [if_neg (by omega), if_neg (by omega), atI_eq, ho, bnd_some, holds_eq, bnd_some, if_neg hp, if_neg hp, bnd_some, if_t]
theorem flat_get {n : Nat} (hn : 0 < n) : ∀ (l : List (List Int)) (q : Nat), (l.flatMap (exts n))[q]? = (l[q / n]?).map (· ++ [((q % n : Nat) : Int)])
  | [], q => by simp
  | a :: l, q => by
    rw [List.flatMap_cons]
    by_cases hq : q < n
    · rw [List.getElem?_append_left (by rw [exts_len]; exact hq), Nat.div_eq_of_lt hq, Nat.mod_eq_of_lt hq]
      simp [exts, hq]
    · rw [List.getElem?_append_right (by rw [exts_len]; omega), exts_len, flat_get hn l (q - n)]
      obtain ⟨r, rfl⟩ : ∃ r, q = r + n := ⟨q - n, by omega⟩
      rw [Nat.add_sub_cancel, Nat.add_div_right _ hn, Nat.add_mod_right]
      simp
theorem states_inj {vars : List Int} (hv : ∀ (i : Nat) n, vars[i]? = some n → 1 ≤ n) : ∀ (k : Nat), k ≤ vars.length → ∀ (i j : Nat) (s : List Int), (statesL (vars.take k))[i]? = some s → (statesL (vars.take k))[j]? = some s → i = j
  | 0, _, i, j, s, h1, h2 => by
    have e1 := lt_of_get h1
    have e2 := lt_of_get h2
    simp [statesL] at e1 e2
    omega
  | k + 1, hk, i, j, s, h1, h2 => by
    obtain ⟨n, hn⟩ := some_of_lt (l := vars) (k := k) (by omega)
    have hn1 := hv k n hn
    rw [statesL_step hn] at h1 h2
    unfold grows at h1 h2
    rw [flat_get (by omega)] at h1 h2
    obtain ⟨p, hp, rfl⟩ := Option.map_eq_some_iff.1 h1
    obtain ⟨p', hp', e⟩ := Option.map_eq_some_iff.1 h2
    obtain ⟨e1, e2⟩ := List.append_inj' e rfl
    subst e1
    have := states_inj hv k (by omega) _ _ _ hp hp'
    have e3 : j % n.toNat = i % n.toNat := by
      have := List.singleton_inj.1 e2
      omega
    have d1 := Nat.div_add_mod i n.toNat
    have d2 := Nat.div_add_mod j n.toNat
    rw [this, ← e3] at d1
    omega
theorem states_uniq {t : Tsk} (h : TaskOk t) {i j : Nat} {s : List Int} (h1 : (statesL t.vars)[i]? = some s) (h2 : (statesL t.vars)[j]? = some s) : i = j := by
  have := states_inj (vars := t.vars) (fun i n hn => (h.vars i n hn).1) t.vars.length (Nat.le_refl _) i j s
  rw [List.take_length] at this
  exact this h1 h2
theorem rank_at {t : Tsk} (h : SmallOk t) {s : List Int} (hs : StateOk t.vars s) : ∃ i : Nat, m_base_Rank t.vars s = some (i : Int) ∧ (statesL t.vars)[i]? = some s := by
  unfold m_base_Rank
  obtain ⟨r, h1, i, rfl, h2⟩ := rng_all (ρ := Int) (f := fun (k11 : Nat) (a12 : Int) (s9 : Int) => bnd (t.vars[k11]?) fun a24 => bnd (chkI (s9 * a24)) fun n34 => bnd (chkI (n34 + a12)) fun n45 => some (.next n45)) (xs := s) (s₀ := 0) (fun k r => ∃ i : Nat, r = (i : Int) ∧ (statesL (t.vars.take k))[i]? = some (s.take k)) ⟨0, rfl, by simp [statesL]⟩ (fun k x r hk hI => by
    obtain ⟨i, rfl, hi⟩ := hI
    have hlt := lt_of_get hk
    obtain ⟨n, hn⟩ := some_of_lt (l := t.vars) (k := k) (by rw [← hs.1]; exact hlt)
    have hn1 := h.ok.vars k n hn
    obtain ⟨hx1, hx2⟩ := hs.2 k x n hk hn
    obtain ⟨x, rfl⟩ := Int.eq_ofNat_of_zero_le hx1
    obtain ⟨n, rfl⟩ := Int.eq_ofNat_of_zero_le (by omega : 0 ≤ n)
    have hget : (statesL (t.vars.take (k + 1)))[i * n + x]? = some (s.take (k + 1)) := by
      rw [statesL_step hn]
      show ((statesL (t.vars.take k)).flatMap (exts ((n : Int)).toNat))[i * n + x]? = _
      rw [show ((n : Int)).toNat = n from by omega, flat_get (by omega)]
      have e1 : (i * n + x) / n = i := by
        rw [Nat.mul_comm, Nat.mul_add_div (by omega), Nat.div_eq_of_lt (by omega)]; omega
      have e2 : (i * n + x) % n = x := by
        rw [Nat.mul_comm, Nat.mul_add_mod, Nat.mod_eq_of_lt (by omega)]
      rw [e1, e2, hi, List.take_add_one, hk]; rfl
    have hb := lt_of_get hget
    have hb2 := h.states (k + 1)
    have e3 : (i : Int) * (n : Int) = ((i * n : Nat) : Int) := by simp
    rw [hn, bnd_some, e3, chkI_eq (by unfold inI64; omega), bnd_some, chkI_eq (by unfold inI64; omega), bnd_some]
    exact ⟨_, rfl, i * n + x, by omega, hget⟩)
  rw [List.take_length, hs.1, List.take_length] at h2
  exact ⟨i, by rw [h1, bnd_some, fin_d], h2⟩
/-- A step from a state to another, both by rank. -/
def EdgeOk (t : Tsk) (e : Edg) : Prop := ∃ (i k j : Nat) (s : List Int) (o : Opr), e = ⟨i, k, j⟩ ∧ (statesL t.vars)[i]? = some s ∧ t.ops[k]? = some o ∧ holdsB o.pre s = true ∧ (statesL t.vars)[j]? = some (succ o s)
theorem edges_eq {t : Tsk} (h : SmallOk t) : ∃ es, m_base_Edges t = some es ∧ ∀ e, e ∈ es ↔ EdgeOk t e := by
  have hlen : (statesL t.vars).length ≤ 512 := by have := h.states t.vars.length; rwa [List.take_length] at this
  have hops := h.2.1
  have uniq : ∀ {i i' : Nat} {s : List Int}, (statesL t.vars)[i]? = some s → (statesL t.vars)[i']? = some s → i = i' := fun h1 h2 => states_uniq h.ok h1 h2
  unfold m_base_Edges
  rw [states_small h, bnd_some]
  obtain ⟨es, h1, h2, h3⟩ := rng_all (ρ := List Edg) (f := fun (k38 : Nat) (a39 : List Int) (s36 : (List Edg)) => bnd (rng (ρ := Ctl (List Edg) (List Edg)) (fun (k70 : Nat) (_ : Opr) (s68 : (List Edg)) => bnd (m_base_Apply t a39 (k70 : Int)) fun q85 => if q85.2 = true then (bnd (m_base_Rank t.vars q85.1) fun q99 => bnd (appI 24 s68 [(⟨(k38 : Int), (k70 : Int), q99⟩ : Edg)]) fun u107 => some (.next u107)) else (some (.next s68))) t.ops 0 s36) fun res66 => fin res66 fun (s123 : (List Edg)) => some (.next s123)) (xs := statesL t.vars) (s₀ := [])
    (fun n acc => acc.length ≤ n * 20 ∧ ∀ e, e ∈ acc ↔ EdgeOk t e ∧ e.src < (n : Int)) ⟨by simp, fun e => ⟨fun he => by simp at he, fun ⟨⟨i, _, _, _, _, hE, _⟩, hlt⟩ => by subst hE; simp only at hlt; omega⟩⟩ (fun n s acc hn hI => by
      obtain ⟨i1, i2⟩ := hI
      have hnlt := lt_of_get hn
      have hs : StateOk t.vars s := mem_statesL.1 (List.mem_of_getElem? hn)
      obtain ⟨es, g1, g2, g3⟩ := rng_all (ρ := Ctl (List Edg) (List Edg)) (f := fun (k70 : Nat) (_ : Opr) (s68 : (List Edg)) => bnd (m_base_Apply t s (k70 : Int)) fun q85 => if q85.2 = true then (bnd (m_base_Rank t.vars q85.1) fun q99 => bnd (appI 24 s68 [(⟨(n : Int), (k70 : Int), q99⟩ : Edg)]) fun u107 => some (.next u107)) else (some (.next s68))) (xs := t.ops) (s₀ := acc)
        (fun m acc' => acc'.length ≤ n * 20 + m ∧ ∀ e, e ∈ acc' ↔ EdgeOk t e ∧ (e.src < (n : Int) ∨ e.src = (n : Int) ∧ e.op < (m : Int))) ⟨by omega, fun e => by
          rw [i2]
          constructor
          · rintro ⟨a, b⟩; exact ⟨a, .inl b⟩
          · rintro ⟨a, b | ⟨b, c⟩⟩
            · exact ⟨a, b⟩
            · obtain ⟨i, k, j, s', o, rfl, _⟩ := a
              simp at c; omega⟩ (fun m o acc' hm hI => by
          obtain ⟨j1, j2⟩ := hI
          have hmlt := lt_of_get hm
          rw [apply_all h.ok hs hm, bnd_some]
          by_cases hp : holdsB o.pre s = true
          · obtain ⟨r, hr, hr2⟩ := rank_at h (succ_ok h.ok hs hm)
            rw [if_pos hp, if_t, hr, bnd_some, appI_eq (by simp; omega) (by simp; omega), bnd_some]
            refine ⟨_, rfl, by simp; omega, fun e => ?_⟩
            rw [List.mem_append, j2]
            constructor
            · rintro (⟨a, b⟩ | hmem)
              · refine ⟨a, ?_⟩
                rcases b with b | ⟨b, c⟩
                · exact .inl b
                · exact .inr ⟨b, by omega⟩
              · obtain rfl : e = ⟨(n : Int), (m : Int), (r : Int)⟩ := by simpa using hmem
                exact ⟨⟨n, m, r, s, o, rfl, hn, hm, hp, hr2⟩, .inr ⟨rfl, by simp; omega⟩⟩
            · rintro ⟨a, b⟩
              obtain ⟨i, k, j, s', o', rfl, a1, a2, a3, a4⟩ := a
              simp only at b
              by_cases hc : i = n ∧ k = m
              · obtain ⟨rfl, rfl⟩ := hc
                obtain rfl : s' = s := by rw [hn] at a1; exact (Option.some.inj a1).symm
                obtain rfl : o' = o := by rw [hm] at a2; exact (Option.some.inj a2).symm
                obtain rfl := uniq a4 hr2
                exact .inr (by simp)
              · exact .inl ⟨⟨i, k, j, s', o', rfl, a1, a2, a3, a4⟩, by simp only; omega⟩
          · rw [if_neg hp]
            refine ⟨_, if_neg (by simp), by omega, fun e => ?_⟩
            rw [j2]
            constructor
            · rintro ⟨a, b⟩
              refine ⟨a, ?_⟩
              rcases b with b | ⟨b, c⟩
              · exact .inl b
              · exact .inr ⟨b, by omega⟩
            · rintro ⟨a, b⟩
              obtain ⟨i, k, j, s', o', rfl, a1, a2, a3, a4⟩ := a
              simp only at b
              by_cases hc : i = n ∧ k = m
              · obtain ⟨rfl, rfl⟩ := hc
                obtain rfl : s' = s := by rw [hn] at a1; exact (Option.some.inj a1).symm
                obtain rfl : o' = o := by rw [hm] at a2; exact (Option.some.inj a2).symm
                exact absurd a3 hp
              · exact ⟨⟨i, k, j, s', o', rfl, a1, a2, a3, a4⟩, by simp only; omega⟩)
      rw [g1, bnd_some, fin_d]
      refine ⟨_, rfl, by omega, fun e => ?_⟩
      rw [g3]
      constructor
      · rintro ⟨a, b⟩
        exact ⟨a, by rcases b with b | ⟨b, _⟩ <;> omega⟩
      · rintro ⟨a, b⟩
        refine ⟨a, ?_⟩
        obtain ⟨i, k, j, s', o', rfl, a1, a2, a3, a4⟩ := a
        simp only at b ⊢
        have := lt_of_get a2
        omega)
  refine ⟨es, by rw [h1, bnd_some, fin_d], fun e => ?_⟩
  rw [h3]
  refine ⟨fun a => a.1, fun a => ⟨a, ?_⟩⟩
  obtain ⟨i, k, j, s', o', rfl, a1, a2, a3, a4⟩ := a
  have := lt_of_get a1
  simp only; omega
end
section
open Go Go.RowKit
/-- The value that effects give a variable, if any. -/
def lastv (s : List Int) : List Eff → Nat → Option Int
  | [], _ => none
  | e :: r, v => match lastv s r v with
    | some c => some c
    | none => if holdsB e.cond s = true ∧ e.var.toNat = v then some e.val else none
theorem lastv_mem {s : List Int} : ∀ {l : List Eff} {v : Nat} {c : Int}, lastv s l v = some c → ∃ e ∈ l, holdsB e.cond s = true ∧ e.var.toNat = v ∧ e.val = c
  | [], v, c, h => by simp [lastv] at h
  | e :: r, v, c, h => by
    simp only [lastv] at h
    cases hr : lastv s r v with
    | some d =>
      rw [hr] at h
      obtain ⟨e', h1, h2⟩ := lastv_mem hr
      exact ⟨e', List.mem_cons_of_mem _ h1, h2.1, h2.2.1, h2.2.2.trans (Option.some.inj h)⟩
    | none =>
      rw [hr] at h
      simp only at h
      split at h
      · rename_i hc
        exact ⟨e, List.mem_cons_self, hc.1, hc.2, Option.some.inj h⟩
      · cases h
theorem effsOn_at (s : List Int) : ∀ (l : List Eff) (u : List Int) (v : Nat), v < u.length → (effsOn s l u)[v]? = match lastv s l v with | some c => some c | none => u[v]?
  | [], u, v, _ => rfl
  | e :: r, u, v, hv => by
    simp only [effsOn, lastv]
    by_cases hc : holdsB e.cond s = true
    · rw [if_pos hc, effsOn_at s r _ v (by simpa using hv)]
      cases lastv s r v with
      | some c => rfl
      | none =>
        by_cases he : e.var.toNat = v
        · simp [hc, he, List.getElem?_set, hv]
        · simp [he, List.getElem?_set]
    · rw [if_neg hc, effsOn_at s r u v hv]
      cases lastv s r v with
      | some c => rfl
      | none => simp [hc]
theorem holds_iff {f : List Fct} {s : List Int} : holdsB f s = true ↔ ∀ x ∈ f, 0 ≤ x.var ∧ s[x.var.toNat]? = some x.val := by
  unfold holdsB hasB
  rw [List.all_eq_true]
  constructor
  · intro h x hx
    have := h x hx
    simp at this
    exact this
  · intro h x hx
    have := h x hx
    simp [this.1, this.2]
/-- What holds on variables that are not written stays. -/
theorem succ_get {o : Opr} {s : List Int} {v : Nat} (hv : v < s.length) : (succ o s)[v]? = s[v]? ∨ ∃ e ∈ o.effs, holdsB e.cond s = true ∧ e.var.toNat = v ∧ (succ o s)[v]? = some e.val := by
  unfold succ
  rw [effsOn_at s o.effs s v hv]
  cases h : lastv s o.effs v with
  | none => exact .inl rfl
  | some c =>
    obtain ⟨e, h1, h2, h3, h4⟩ := lastv_mem h
    exact .inr ⟨e, h1, h2, h3, by rw [h4]⟩
theorem get_none_of {l : List Int} {v : Nat} {x : Int} (h : l[v]? = some x) : v < l.length := (List.getElem?_eq_some_iff.1 h).1
theorem succ_length (o : Opr) (s : List Int) : (succ o s).length = s.length := effsOn_length s o.effs s
/-- a's effects contradict none of the facts. -/
theorem pre_kept {x : Opr} {s : List Int} {f : List Fct} (he : EffsIn s x.effs) (hf : holdsB f s = true) (hc : ∀ e ∈ x.effs, contra f e = false) : holdsB f (succ x s) = true := by
  rw [holds_iff] at hf ⊢
  intro y hy
  obtain ⟨h1, h2⟩ := hf y hy
  refine ⟨h1, ?_⟩
  have hlt := get_none_of h2
  rcases succ_get (o := x) hlt with h | ⟨e, g1, _, g3, g4⟩
  · rw [h, h2]
  · have hc' := hc e g1
    unfold contra at hc'
    rw [List.any_eq_false] at hc'
    have := hc' y hy
    obtain ⟨j, hj⟩ := List.getElem?_of_mem g1
    have h0 := (he j e hj).1
    have hv : y.var = e.var := by omega
    simp [hv] at this
    rw [g4, this]
/-- Conditions on variables that are not written: as before. -/
theorem cond_same {x : Opr} {s : List Int} {f : List Fct} (he : EffsIn s x.effs) (hc : ∀ e ∈ x.effs, onvar f e.var = false) : holdsB f (succ x s) = holdsB f s := by
  have key : ∀ y ∈ f, 0 ≤ y.var → (succ x s)[y.var.toNat]? = s[y.var.toNat]? := fun y hy h0 => by
    by_cases hlt : y.var.toNat < s.length
    · rcases succ_get (o := x) hlt with h | ⟨e, g1, _, g3, g4⟩
      · exact h
      · exfalso
        have hc' := hc e g1
        unfold onvar at hc'
        rw [List.any_eq_false] at hc'
        obtain ⟨j, hj⟩ := List.getElem?_of_mem g1
        have h1 := (he j e hj).1
        exact hc' y hy (by simp; omega)
    · rw [List.getElem?_eq_none (by rw [succ_length]; omega), List.getElem?_eq_none (by omega)]
  cases h : holdsB f s with
  | true =>
    rw [holds_iff] at h ⊢
    intro y hy
    exact ⟨(h y hy).1, by rw [key y hy (h y hy).1]; exact (h y hy).2⟩
  | false =>
    cases h2 : holdsB f (succ x s) with
    | false => rfl
    | true =>
      rw [holds_iff] at h2
      have : holdsB f s = true := holds_iff.2 fun y hy => ⟨(h2 y hy).1, by rw [← key y hy (h2 y hy).1]; exact (h2 y hy).2⟩
      rw [h] at this; cases this
theorem effsOn_congr {s s' : List Int} : ∀ (l : List Eff) (u : List Int), (∀ e ∈ l, holdsB e.cond s = holdsB e.cond s') → effsOn s l u = effsOn s' l u
  | [], _, _ => rfl
  | e :: r, u, h => by
    simp only [effsOn]
    rw [h e List.mem_cons_self]
    exact effsOn_congr r _ fun e he => h e (List.mem_cons_of_mem _ he)
theorem intB_f {x y : Opr} (h : intB x y = false) : disB x y = false ∧ disB y x = false := by
  unfold intB at h
  simpa using h
theorem disB_f {x y : Opr} (h : disB x y = false) : ∀ e ∈ x.effs, contra y.pre e = false ∧ ∀ f ∈ y.effs, onvar f.cond e.var = false ∧ (f.var = e.var → f.val = e.val) := fun e he => by
  unfold disB at h
  rw [List.any_eq_false] at h
  have := h e he
  simp only [Bool.or_eq_true, not_or, Bool.not_eq_true] at this
  refine ⟨this.1, fun f hf => ?_⟩
  have h2 := this.2
  rw [List.any_eq_false] at h2
  have h3 := h2 f hf
  unfold clash at h3
  simp only [Bool.or_eq_true, not_or, Bool.not_eq_true] at h3
  refine ⟨h3.1, fun hv => ?_⟩
  have := h3.2
  simp [hv] at this
  exact this
theorem commute {s : List Int} {x y : Opr} (hx : EffsIn s x.effs) (hy : EffsIn s y.effs) (px : holdsB x.pre s = true) (py : holdsB y.pre s = true) (h : intB x y = false) :
    holdsB y.pre (succ x s) = true ∧ holdsB x.pre (succ y s) = true ∧ succ y (succ x s) = succ x (succ y s) := by
  obtain ⟨h1, h2⟩ := intB_f h
  have d1 := disB_f h1
  have d2 := disB_f h2
  refine ⟨pre_kept hx py fun e he => (d1 e he).1, pre_kept hy px fun e he => (d2 e he).1, ?_⟩
  have c1 : succ y (succ x s) = effsOn s y.effs (succ x s) := by
    show effsOn (succ x s) y.effs (succ x s) = _
    exact effsOn_congr _ _ fun f hf => cond_same hx fun e he => ((d1 e he).2 f hf).1
  have c2 : succ x (succ y s) = effsOn s x.effs (succ y s) := by
    show effsOn (succ y s) x.effs (succ y s) = _
    exact effsOn_congr _ _ fun f hf => cond_same hy fun e he => ((d2 e he).2 f hf).1
  rw [c1, c2]
  apply List.ext_getElem?
  intro v
  by_cases hv : v < s.length
  · rw [effsOn_at s _ _ v (by rw [succ_length]; exact hv), effsOn_at s _ _ v (by rw [succ_length]; exact hv)]
    unfold succ
    rw [effsOn_at s _ _ v hv, effsOn_at s _ _ v hv]
    cases ha : lastv s y.effs v with
    | none => cases lastv s x.effs v <;> rfl
    | some a =>
      cases hb : lastv s x.effs v with
      | none => rfl
      | some b =>
        obtain ⟨f, f1, _, f3, f4⟩ := lastv_mem ha
        obtain ⟨e, e1, _, e3, e4⟩ := lastv_mem hb
        obtain ⟨i, hi⟩ := List.getElem?_of_mem f1
        obtain ⟨j, hj⟩ := List.getElem?_of_mem e1
        have g1 := (hy i f hi).1
        have g2 := (hx j e hj).1
        have := ((d1 e e1).2 f f1).2 (by omega)
        simp only
        rw [← f4, ← e4, this]
  · rw [List.getElem?_eq_none (by rw [effsOn_length, succ_length]; omega), List.getElem?_eq_none (by rw [effsOn_length, succ_length]; omega)]
end
section
open Go Go.RowKit
/-- A way to the goal with its cost. -/
inductive Walk (t : Tsk) : List Int → Int → Prop
  | goal {s : List Int} : holdsB t.goal s = true → Walk t s 0
  | step {s : List Int} {k : Nat} {o : Opr} {c : Int} : t.ops[k]? = some o → holdsB o.pre s = true → Walk t (succ o s) c → Walk t s (c + o.cost)
def Inf : Int := 1125899906842624
theorem lop_wf {σ ρ : Type} {f : σ → Option (Ctl σ ρ)} (I : σ → Prop) (B : σ → Prop) (μ : σ → Nat) (h : ∀ s, I s → (∃ s', f s = some (.next s') ∧ I s' ∧ μ s' < μ s) ∨ (∃ s', f s = some (.brk s') ∧ B s')) : ∀ s, I s → ∃ s', lop f s = some (.done s') ∧ B s' := by
  have key : ∀ (n : Nat) s, I s → μ s < n → ∃ s', itr f n s = some (.done s') ∧ B s' := by
    intro n
    induction n with
    | zero => intro s _ h0; omega
    | succ n ih =>
      intro s hs hn
      rcases h s hs with ⟨s', h1, h2, h3⟩ | ⟨s', h1, h2⟩
      · obtain ⟨r, hr, hb⟩ := ih s' h2 (by omega)
        exact ⟨r, by simp only [itr, h1]; exact hr, hb⟩
      · exact ⟨s', by simp only [itr, h1], h2⟩
  intro s hs
  obtain ⟨r, hr, hb⟩ := key (μ s + 1) s hs (by omega)
  exact ⟨r, lop_some.2 ⟨_, hr⟩, hb⟩
def sumN : List Int → Nat
  | [] => 0
  | x :: l => x.toNat + sumN l
theorem sumN_set : ∀ (l : List Int) (i : Nat) (x y : Int), l[i]? = some x → 0 ≤ y → y < x → sumN (l.set i y) < sumN l
  | [], i, x, y, h, _, _ => by simp at h
  | a :: l, 0, x, y, h, h1, h2 => by
    obtain rfl : a = x := by simpa using h
    show y.toNat + sumN l < a.toNat + sumN l
    omega
  | a :: l, i + 1, x, y, h, h1, h2 => by
    have := sumN_set l i x y (by simpa using h) h1 h2
    show a.toNat + sumN (l.set i y) < a.toNat + sumN l
    omega
/-- What is true of distances at all times. -/
def DistI (t : Tsk) (d : List Int) : Prop := d.length = (statesL t.vars).length ∧ ∀ (i : Nat) s, (statesL t.vars)[i]? = some s → ∃ c, d[i]? = some c ∧ 0 ≤ c ∧ c ≤ Inf ∧ (c < Inf → Walk t s c) ∧ (holdsB t.goal s = true → c = 0)
/-- The distances are the least costs. -/
def DistP (t : Tsk) (d : List Int) : Prop := DistI t d ∧ ∀ (i : Nat) s c C, (statesL t.vars)[i]? = some s → d[i]? = some c → Walk t s C → c ≤ C
theorem take_mem {α : Type} {l : List α} {k : Nat} {x y : α} (h : l[k]? = some x) : y ∈ l.take (k + 1) ↔ y ∈ l.take k ∨ y = x := by
  rw [List.take_add_one, h, List.mem_append]; simp
theorem dist_eq {t : Tsk} (h : SmallOk t) : ∃ d, m_base_Distances t = some d ∧ DistP t d := by
  have hlen : (statesL t.vars).length ≤ 512 := by have := h.states t.vars.length; rwa [List.take_length] at this
  unfold m_base_Distances
  rw [states_small h, bnd_some, mkI_eq (by omega) (by omega), bnd_some]
  obtain ⟨d0, h1, h2, h3⟩ := rng_all (ρ := List Int) (f := fun (k53 : Nat) (a54 : List Int) (s51 : (List Int)) => bnd (s51[k53]?) fun _ => bnd (m_base_Holds t.goal a54) fun q91 => if q91 = true then bnd ((s51.set k53 1125899906842624)[k53]?) fun _ => some (.next ((s51.set k53 1125899906842624).set k53 0)) else some (.next (s51.set k53 1125899906842624))) (xs := statesL t.vars) (s₀ := List.replicate (statesL t.vars).length 0)
    (fun n d => d.length = (statesL t.vars).length ∧ ∀ (i : Nat) s, i < n → (statesL t.vars)[i]? = some s → d[i]? = some (if holdsB t.goal s = true then 0 else Inf)) ⟨by simp, fun i s hi => by omega⟩ (fun n s d hn hI => by
      obtain ⟨i1, i2⟩ := hI
      have hlt := lt_of_get hn
      obtain ⟨u, hu⟩ := some_of_lt (l := d) (k := n) (by omega)
      rw [hu, bnd_some, holds_eq, bnd_some]
      by_cases hg : holdsB t.goal s = true
      · rw [if_pos hg, List.getElem?_set_self (by omega), bnd_some]
        refine ⟨_, rfl, by simpa using i1, fun i s' hi hs' => ?_⟩
        by_cases e : i = n
        · subst e
          obtain rfl : s' = s := by rw [hn] at hs'; exact (Option.some.inj hs').symm
          rw [List.getElem?_set_self (by simp; omega), if_pos hg]
        · rw [List.getElem?_set_ne (by omega), List.getElem?_set_ne (by omega)]
          exact i2 i s' (by omega) hs'
      · rw [if_neg hg]
        refine ⟨_, rfl, by simpa using i1, fun i s' hi hs' => ?_⟩
        by_cases e : i = n
        · subst e
          obtain rfl : s' = s := by rw [hn] at hs'; exact (Option.some.inj hs').symm
          rw [List.getElem?_set_self (by omega), if_neg hg]; rfl
        · rw [List.getElem?_set_ne (by omega)]
          exact i2 i s' (by omega) hs')
  obtain ⟨es, he, hes⟩ := edges_eq h
  rw [h1, bnd_some, fin_d, he, bnd_some]
  have hd0 : DistI t d0 := ⟨h2, fun i s hi => by
    refine ⟨_, h3 i s (lt_of_get hi) hi, ?_⟩
    by_cases hg : holdsB t.goal s = true
    · rw [if_pos hg]; exact ⟨by omega, by unfold Inf; omega, fun _ => .goal hg, fun _ => rfl⟩
    · rw [if_neg hg]; exact ⟨by unfold Inf; omega, by omega, fun hh => absurd hh (by omega), fun hh => absurd hh hg⟩⟩
  -- one pass over the edges
  have pass : ∀ d, DistI t d → ∃ (d' : List Int) (b : Bool), rng (ρ := Ctl ((List Int) × Bool) (List Int)) (fun (_ : Nat) (a152 : Edg) (s149 : (List Int) × Bool) => bnd (atI t.ops a152.op) fun a183 => bnd (bnd (atI s149.1 a152.dst) fun a208 => if a208 < 1125899906842624 then (bnd (atI s149.1 a152.dst) fun a221 => bnd (chkI (a221 + a183.cost)) fun n233 => bnd (atI s149.1 a152.src) fun a236 => if n233 < a236 then (some true) else (some false)) else (some false) : Option Bool) fun y204 => if y204 = true then (bnd (atI s149.1 a152.dst) fun a254 => bnd (chkI (a254 + a183.cost)) fun n266 => bnd (atI s149.1 a152.src) fun _ => some (.next ((s149.1.set (a152.src).toNat n266), true))) else (some (.next (s149.1, s149.2)))) es 0 (d, false) = some (.done (d', b)) ∧ DistI t d' ∧ (b = true → sumN d' < sumN d) ∧ (b = false → d' = d ∧ ∀ e ∈ es, ∀ (i k j : Nat) o x y, e = ⟨i, k, j⟩ → t.ops[k]? = some o → d[i]? = some x → d[j]? = some y → y < Inf → x ≤ y + o.cost) := by
    intro d hd
    obtain ⟨⟨d', b⟩, g1, g2, g3, g4⟩ := rng_all (ρ := Ctl ((List Int) × Bool) (List Int)) (f := fun (_ : Nat) (a152 : Edg) (s149 : (List Int) × Bool) => bnd (atI t.ops a152.op) fun a183 => bnd (bnd (atI s149.1 a152.dst) fun a208 => if a208 < 1125899906842624 then (bnd (atI s149.1 a152.dst) fun a221 => bnd (chkI (a221 + a183.cost)) fun n233 => bnd (atI s149.1 a152.src) fun a236 => if n233 < a236 then (some true) else (some false)) else (some false) : Option Bool) fun y204 => if y204 = true then (bnd (atI s149.1 a152.dst) fun a254 => bnd (chkI (a254 + a183.cost)) fun n266 => bnd (atI s149.1 a152.src) fun _ => some (.next ((s149.1.set (a152.src).toNat n266), true))) else (some (.next (s149.1, s149.2)))) (xs := es) (s₀ := (d, false))
      (fun m r => DistI t r.1 ∧ (r.2 = true → sumN r.1 < sumN d) ∧ (r.2 = false → r.1 = d ∧ ∀ e ∈ es.take m, ∀ (i k j : Nat) o x y, e = ⟨i, k, j⟩ → t.ops[k]? = some o → d[i]? = some x → d[j]? = some y → y < Inf → x ≤ y + o.cost)) ⟨hd, fun hh => by simp at hh, fun _ => ⟨rfl, fun e he => by simp at he⟩⟩ (fun m e r hm hI => by
        obtain ⟨i1, i2, i3⟩ := hI
        obtain ⟨r1, r2⟩ := r
        simp only at i1 i2 i3
        obtain ⟨i, k, j, s, o, rfl, a1, a2, a3, a4⟩ := (hes e).1 (List.mem_of_getElem? hm)
        obtain ⟨x, x1, x2, x3, x4, x5⟩ := i1.2 i s a1
        obtain ⟨y, y1, y2, y3, y4, y5⟩ := i1.2 j _ a4
        have hco := h.ok.2.2.2.2.2 k o a2
        have hc1 := hco.1
        have hc2 := hco.2.1
        simp only
        rw [atI_eq, a2, bnd_some, atI_eq, y1, bnd_some, atI_eq, x1]
        have keep : ∀ (hx : y < Inf → x ≤ y + o.cost), DistI t r1 ∧ (r2 = true → sumN r1 < sumN d) ∧ (r2 = false → r1 = d ∧ ∀ e ∈ es.take (m + 1), ∀ (i k j : Nat) o x y, e = ⟨i, k, j⟩ → t.ops[k]? = some o → d[i]? = some x → d[j]? = some y → y < Inf → x ≤ y + o.cost) := fun hx => by
          refine ⟨i1, i2, fun hf => ⟨(i3 hf).1, fun e' he' => ?_⟩⟩
          obtain ⟨e1, e2⟩ := i3 hf
          rcases (take_mem hm).1 he' with hh | rfl
          · exact e2 e' hh
          · intro i' k' j' o' x' y' hE ho' hx' hy' hlt
            injection hE with h1 h2 h3
            obtain rfl : i = i' := by omega
            obtain rfl : k = k' := by omega
            obtain rfl : j = j' := by omega
            obtain rfl : o = o' := by rw [a2] at ho'; exact Option.some.inj ho'
            rw [← e1, x1] at hx'
            rw [← e1, y1] at hy'
            obtain rfl := Option.some.inj hx'
            obtain rfl := Option.some.inj hy'
            exact hx hlt
        by_cases hy : y < 1125899906842624
        · rw [if_pos hy, bnd_some, chkI_eq (by unfold inI64; unfold Inf at *; omega), bnd_some, bnd_some]
          by_cases hx : y + o.cost < x
          · rw [if_pos hx, bnd_some, if_t, bnd_some, chkI_eq (by unfold inI64; unfold Inf at *; omega), bnd_some, bnd_some]
            refine ⟨_, rfl, ⟨by simpa using i1.1, fun i' s' hs' => ?_⟩, fun _ => ?_, fun hh => by simp at hh⟩
            · show ∃ c, (r1.set ((i : Int)).toNat (y + o.cost))[i']? = some c ∧ _
              rw [show ((i : Int)).toNat = i from by omega]
              by_cases e : i = i'
              · subst e
                obtain rfl : s = s' := by rw [a1] at hs'; exact Option.some.inj hs'
                refine ⟨_, by rw [List.getElem?_set_self (lt_of_get x1)], by omega, by omega, fun _ => .step a2 a3 (y4 hy), fun hg => ?_⟩
                have := x5 hg; omega
              · rw [List.getElem?_set_ne e]; exact i1.2 i' s' hs'
            · show sumN (r1.set ((i : Int)).toNat (y + o.cost)) < _
              rw [show ((i : Int)).toNat = i from by omega]
              have hlt := sumN_set r1 i x (y + o.cost) x1 (by omega) hx
              cases hr : r2 with
              | true => have := i2 hr; omega
              | false => rw [(i3 hr).1] at hlt; rwa [(i3 hr).1]
          · rw [if_neg hx, bnd_some, if_f]
            exact ⟨_, rfl, keep fun _ => by omega⟩
        · rw [if_neg hy, bnd_some, if_f]
          exact ⟨_, rfl, keep fun hh => absurd hh hy⟩)
    refine ⟨d', b, g1, g2, g3, fun hb => ?_⟩
    obtain ⟨e1, e2⟩ := g4 hb
    rw [List.take_length] at e2
    exact ⟨e1, e2⟩
  obtain ⟨⟨d, b⟩, l1, l2, l3⟩ := lop_wf (ρ := List Int) (f := fun (s127 : (List Int) × Bool) => if s127.2 = true then (bnd (rng (ρ := Ctl ((List Int) × Bool) (List Int)) (fun (_ : Nat) (a152 : Edg) (s149 : (List Int) × Bool) => bnd (atI t.ops a152.op) fun a183 => bnd (bnd (atI s149.1 a152.dst) fun a208 => if a208 < 1125899906842624 then (bnd (atI s149.1 a152.dst) fun a221 => bnd (chkI (a221 + a183.cost)) fun n233 => bnd (atI s149.1 a152.src) fun a236 => if n233 < a236 then (some true) else (some false)) else (some false) : Option Bool) fun y204 => if y204 = true then (bnd (atI s149.1 a152.dst) fun a254 => bnd (chkI (a254 + a183.cost)) fun n266 => bnd (atI s149.1 a152.src) fun _ => some (.next ((s149.1.set (a152.src).toNat n266), true))) else (some (.next (s149.1, s149.2)))) es 0 (s127.1, false)) fun res147 => fin res147 fun (s287 : (List Int) × Bool) => some (.next (s287.1, s287.2))) else (some (.brk (s127.1, s127.2))))
    (fun r => DistI t r.1 ∧ (r.2 = false → ∀ e ∈ es, ∀ (i k j : Nat) o x y, e = ⟨i, k, j⟩ → t.ops[k]? = some o → r.1[i]? = some x → r.1[j]? = some y → y < Inf → x ≤ y + o.cost)) (fun r => DistI t r.1 ∧ ∀ e ∈ es, ∀ (i k j : Nat) o x y, e = ⟨i, k, j⟩ → t.ops[k]? = some o → r.1[i]? = some x → r.1[j]? = some y → y < Inf → x ≤ y + o.cost) (fun r => 2 * sumN r.1 + if r.2 = true then 1 else 0) (fun r hr => by
      obtain ⟨r1, r2⟩ := r
      obtain ⟨i1, i2⟩ := hr
      cases r2 with
      | true =>
        obtain ⟨d', b, p1, p2, p3, p4⟩ := pass r1 i1
        refine .inl ⟨(d', b), ?_, ⟨p2, fun hb => ?_⟩, ?_⟩
        · simp only [if_true]
          rw [p1, bnd_some, fin_d]
        · obtain ⟨e1, e2⟩ := p4 hb
          show ∀ e ∈ es, _
          intro e he i k j o x y hE ho hx hy
          simp only at hx hy
          rw [e1] at hx hy
          exact e2 e he i k j o x y hE ho hx hy
        · cases b with
          | true => have := p3 rfl; simp; omega
          | false => rw [(p4 rfl).1]; simp
      | false => exact .inr ⟨(r1, false), by simp, i1, i2 rfl⟩) (d0, true) ⟨hd0, fun hh => by simp at hh⟩
  refine ⟨d, by rw [l1, bnd_some, fin_d], l2, fun i s c C hi hc hw => ?_⟩
  induction hw generalizing i c with
  | goal hg =>
    obtain ⟨c', q1, _, _, _, q5⟩ := l2.2 i _ hi
    rw [hc] at q1
    obtain rfl := Option.some.inj q1
    have := q5 hg; omega
  | @step s k o C' ho hp hw ih =>
    have hs : StateOk t.vars s := mem_statesL.1 (List.mem_of_getElem? hi)
    obtain ⟨j, _, hj⟩ := rank_at h (succ_ok h.ok hs ho)
    obtain ⟨y, y1, y2, y3, y4, y5⟩ := l2.2 j _ hj
    have h5 := ih j y hj y1
    obtain ⟨x, x1, x2, x3, x4, x5⟩ := l2.2 i s hi
    rw [x1] at hc
    obtain rfl := Option.some.inj hc
    have hco := (h.ok.2.2.2.2.2 k o ho).1
    by_cases hy : y < Inf
    · have := l3 ⟨i, k, j⟩ ((hes _).2 ⟨i, k, j, s, o, rfl, hi, ho, hp, hj⟩) i k j o x y rfl ho x1 y1 hy
      omega
    · omega
end
section
open Go Go.RowKit
/-- The numbers below n with a property, ascending. -/
def pick (p : Nat → Bool) (n : Nat) : List Int := ((List.range n).filter p).map fun i : Nat => (i : Int)
theorem pick_succ (p : Nat → Bool) (n : Nat) : pick p (n + 1) = if p n = true then pick p n ++ [(n : Int)] else pick p n := by
  unfold pick
  rw [List.range_succ, List.filter_append, List.map_append]
  by_cases h : p n = true <;> simp [h]
theorem mem_pick {p : Nat → Bool} {n : Nat} {x : Int} : x ∈ pick p n ↔ ∃ i : Nat, x = (i : Int) ∧ i < n ∧ p i = true := by
  unfold pick
  rw [List.mem_map]
  constructor
  · rintro ⟨i, hi, rfl⟩
    rw [List.mem_filter, List.mem_range] at hi
    exact ⟨i, rfl, hi.1, hi.2⟩
  · rintro ⟨i, rfl, h1, h2⟩
    exact ⟨i, List.mem_filter.2 ⟨List.mem_range.2 h1, h2⟩, rfl⟩
theorem pick_len (p : Nat → Bool) : ∀ n, (pick p n).length ≤ n
  | 0 => by simp [pick]
  | n + 1 => by
    rw [pick_succ]
    have := pick_len p n
    split
    · simp; omega
    · omega
theorem pick_sorted (p : Nat → Bool) : ∀ n, (pick p n).Pairwise (· < ·)
  | 0 => by simp [pick]
  | n + 1 => by
    rw [pick_succ]
    split
    · rw [List.pairwise_append]
      refine ⟨pick_sorted p n, by simp, fun a ha b hb => ?_⟩
      obtain ⟨i, rfl, hi, _⟩ := mem_pick.1 ha
      have : b = (n : Int) := by simpa using hb
      omega
    · exact pick_sorted p n
/-- A loop that collects numbers. -/
theorem rng_pick {α ρ : Type} {f : Nat → α → List Int → Option (Ctl (List Int) ρ)} {xs : List α} (p : Nat → Bool) (hl : xs.length ≤ 1000000) (h : ∀ k x (l : List Int), xs[k]? = some x → l.length ≤ k → f k x l = some (.next (if p k = true then l ++ [(k : Int)] else l))) : rng f xs 0 ([] : List Int) = some (.done (pick p xs.length)) := by
  refine rng_from (fun k => pick p k) rfl fun k x hk => ?_
  rw [h k x _ hk (pick_len p k), pick_succ]
theorem app1 {l : List Int} {x : Int} (h : l.length ≤ 1000000) : appI 8 l [x] = some (l ++ [x]) := appI_eq (by simp; omega) (by simp; omega)
/-- The first fact that does not hold. -/
def lackF (f : List Fct) (s : List Int) : Option Fct := f.find? fun x => decide (s[x.var.toNat]? ≠ some x.val)
theorem lack_loop {vars s : List Int} (hs : StateOk vars s) : ∀ (f : List Fct) (j : Nat), (∀ x ∈ f, FactOk vars x) → rng (ρ := Fct × Bool) (fun (_ : Nat) (a19 : Fct) (_ : Unit) => bnd (atI s a19.var) fun a45 => if a45 ≠ a19.val then (some (.ret (a19, true))) else (some (.next ()))) f j () = some (match lackF f s with | some x => .ret (x, true) | none => .done ())
  | [], _, _ => rfl
  | x :: f, j, h => by
    obtain ⟨h0, _, y, hy, _⟩ := h x List.mem_cons_self
    have hlt : x.var.toNat < s.length := by rw [hs.1]; exact get_none_of hy
    have hat : atI s x.var = some s[x.var.toNat] := by unfold atI; rw [if_pos h0]; exact List.getElem?_eq_getElem hlt
    have hg : s[x.var.toNat]? = some s[x.var.toNat] := List.getElem?_eq_getElem hlt
    simp only [rng, hat, bnd_some, lackF, List.find?_cons, hg]
    by_cases hv : s[x.var.toNat] = x.val
    · simp only [hv, ne_eq, not_true_eq_false, if_false, decide_false]
      exact lack_loop hs f (j + 1) fun y hy => h y (List.mem_cons_of_mem _ hy)
    · simp [hv]
def lackP (f : List Fct) (s : List Int) : Fct × Bool := match lackF f s with
  | some x => (x, true)
  | none => (⟨0, 0⟩, false)
theorem lackP_some {f : List Fct} {s : List Int} {x : Fct} (h : lackF f s = some x) : lackP f s = (x, true) := by unfold lackP; rw [h]
theorem lackP_none {f : List Fct} {s : List Int} (h : lackF f s = none) : lackP f s = (⟨0, 0⟩, false) := by unfold lackP; rw [h]
theorem missing_eq {vars s : List Int} (hs : StateOk vars s) {f : List Fct} (hf : FactsOk vars f) : m_stubborn_missing f s = some (lackP f s) := by
  unfold m_stubborn_missing
  rw [lack_loop hs f 0 (fun x hx => by obtain ⟨i, hi⟩ := List.getElem?_of_mem hx; exact hf.1 i x hi), bnd_some]
  unfold lackP
  cases lackF f s <;> rfl
theorem lack_none {vars s : List Int} {f : List Fct} (hf : FactsOk vars f) : lackF f s = none ↔ holdsB f s = true := by
  unfold lackF
  rw [List.find?_eq_none, holds_iff]
  constructor
  · intro h x hx
    obtain ⟨i, hi⟩ := List.getElem?_of_mem hx
    exact ⟨(hf.1 i x hi).1, by have := h x hx; simpa using this⟩
  · intro h x hx
    simp [(h x hx).2]
theorem lack_some {s : List Int} {f : List Fct} {x : Fct} (h : lackF f s = some x) : x ∈ f ∧ s[x.var.toNat]? ≠ some x.val := ⟨List.mem_of_find?_eq_some h, by have := List.find?_some h; simpa using this⟩
/-- An operator has an effect that makes a fact true. -/
def writesB (o : Opr) (f : Fct) : Bool := o.effs.any fun e => decide (e.var = f.var) && decide (e.val = f.val)
theorem contains_eq (l : List Eff) (f : Fct) : m_slices_ContainsFunc_Lapi_Effect_api_Effect__stubborn_writers_l1 l f = some (l.any fun e => decide (e.var = f.var) && decide (e.val = f.val)) := by
  unfold m_slices_ContainsFunc_Lapi_Effect_api_Effect__stubborn_writers_l1 m_slices_IndexFunc_Lapi_Effect_api_Effect__stubborn_writers_l1
  have key : ∀ (l : List Eff) (j : Nat), ∃ q : Option Nat, rng (ρ := Int) (fun (k13 : Nat) (a14 : Eff) (_ : Unit) => bnd (m_stubborn_writers_l1 a14 f) fun q37 => if q37 = true then some (.ret (k13 : Int)) else some (.next ())) l j () = some (match q with | some i => .ret (i : Int) | none => .done ()) ∧ q.isSome = l.any fun e => decide (e.var = f.var) && decide (e.val = f.val) := by
    intro l
    induction l with
    | nil => intro j; exact ⟨none, rfl, rfl⟩
    | cons e l ih =>
      intro j
      have h1 : m_stubborn_writers_l1 e f = some (decide (e.var = f.var) && decide (e.val = f.val)) := by
        unfold m_stubborn_writers_l1
        by_cases h4 : e.var = f.var <;> by_cases h5 : e.val = f.val <;> simp [h4, h5, bnd]
      simp only [rng, h1, bnd_some]
      cases hc : (decide (e.var = f.var) && decide (e.val = f.val)) with
      | true => exact ⟨some j, by simp, by rw [List.any_cons, hc]; rfl⟩
      | false =>
        obtain ⟨q, h2, h3⟩ := ih (j + 1)
        exact ⟨q, by simpa using h2, by rw [List.any_cons, hc, h3, Bool.false_or]⟩
  obtain ⟨q, h1, h2⟩ := key l 0
  rw [h1, bnd_some, ← h2]
  cases q with
  | none => rfl
  | some i =>
    show (bnd (bnd (some (i : Int)) fun q11 => if 0 ≤ q11 then some true else some false) fun y => some y) = _
    rw [bnd_some, if_pos (by omega)]; rfl
theorem writers_eq {t : Tsk} (hl : t.ops.length ≤ 1000000) (f : Fct) : m_stubborn_writers t f = some (pick (fun k => (t.ops[k]?).any fun o => writesB o f) t.ops.length) := by
  unfold m_stubborn_writers
  rw [rng_pick (fun k => (t.ops[k]?).any fun o => writesB o f) hl ?_, bnd_some]
  · rfl
  · intro k o l hk hlk
    have := lt_of_get hk
    rw [contains_eq, bnd_some, app1 (by omega), bnd_some, hk]
    simp only [Option.any_some]
    unfold writesB
    by_cases hc : (o.effs.any fun e => decide (e.var = f.var) && decide (e.val = f.val)) = true <;> simp only [hc, if_true, if_false, Bool.false_eq_true]
def meetB (t : Tsk) (i k : Nat) : Bool := (t.ops[i]?).any fun x => (t.ops[k]?).any fun y => decide (i ≠ k) && intB x y
theorem meets_eq {t : Tsk} (h : TaskOk t) {i : Nat} (hi : i < t.ops.length) : m_stubborn_meets t (i : Int) = some (pick (meetB t i) t.ops.length) := by
  have hl := h.2.1
  unfold m_stubborn_meets
  rw [rng_pick (meetB t i) (by omega) ?_, bnd_some]
  · rfl
  · intro k o l hk hlk
    have hkl := lt_of_get hk
    obtain ⟨x, y, _, _, h3, h4, h5⟩ := int_eq h (a := (i : Int)) (b := (k : Int)) ⟨by omega, by omega⟩ ⟨by omega, by omega⟩
    simp only [Int.toNat_natCast] at h3 h4
    rw [h5, bnd_some, app1 (by omega), bnd_some]
    unfold meetB
    rw [h3, h4]
    simp only [Option.any_some, ne_eq, Int.natCast_inj]
    by_cases hc : (decide (¬i = k) && intB x y) = true <;> simp only [hc, if_true, if_false, Bool.false_eq_true]
/-- The stubborn set. -/
inductive Clo (t : Tsk) (s : List Int) : Nat → Prop
  | all {k : Nat} : lackF t.goal s = none → k < t.ops.length → Clo t s k
  | goal {k : Nat} {f : Fct} {o : Opr} : lackF t.goal s = some f → t.ops[k]? = some o → writesB o f = true → Clo t s k
  | need {i k : Nat} {f : Fct} {x o : Opr} : Clo t s i → t.ops[i]? = some x → lackF x.pre s = some f → t.ops[k]? = some o → writesB o f = true → Clo t s k
  | meet {i k : Nat} {x : Opr} : Clo t s i → t.ops[i]? = some x → lackF x.pre s = none → meetB t i k = true → Clo t s k
theorem meetB_t {t : Tsk} {i k : Nat} (h : meetB t i k = true) : ∃ x y, t.ops[i]? = some x ∧ t.ops[k]? = some y ∧ i ≠ k ∧ intB x y = true := by
  unfold meetB at h
  cases hx : t.ops[i]? with
  | none => rw [hx] at h; cases h
  | some x =>
    cases hy : t.ops[k]? with
    | none => rw [hx, hy] at h; cases h
    | some y =>
      rw [hx, hy] at h
      simp at h
      exact ⟨x, y, rfl, rfl, h.1, h.2⟩
def firsts (t : Tsk) (s : List Int) : Nat → Bool := fun k => match lackF t.goal s with
  | none => true
  | some f => (t.ops[k]?).any fun o => writesB o f
def nexts (t : Tsk) (s : List Int) (i : Nat) : Nat → Bool := fun k => (t.ops[i]?).any fun x => match lackF x.pre s with
  | some f => (t.ops[k]?).any fun o => writesB o f
  | none => meetB t i k
theorem any_some {α : Type} {x : Option α} {p : α → Bool} (h : x.any p = true) : ∃ a, x = some a ∧ p a = true := by
  cases x with
  | none => cases h
  | some a => exact ⟨a, rfl, h⟩
theorem clo_first {t : Tsk} {s : List Int} {k : Nat} (hk : k < t.ops.length) (h : firsts t s k = true) : Clo t s k := by
  unfold firsts at h
  cases hf : lackF t.goal s with
  | none => exact .all hf hk
  | some f =>
    rw [hf] at h
    obtain ⟨o, h1, h2⟩ := any_some h
    exact .goal hf h1 h2
theorem clo_next {t : Tsk} {s : List Int} {i k : Nat} (hi : Clo t s i) (h : nexts t s i k = true) : Clo t s k := by
  unfold nexts at h
  obtain ⟨x, h1, h2⟩ := any_some h
  cases hf : lackF x.pre s with
  | none => rw [hf] at h2; exact .meet hi h1 hf h2
  | some f =>
    rw [hf] at h2
    obtain ⟨o, h3, h4⟩ := any_some h2
    exact .need hi h1 hf h3 h4
/-- What has the first ones and is closed has all. -/
theorem clo_sub {t : Tsk} {s : List Int} {C : Nat → Prop} (h0 : ∀ k, k < t.ops.length → firsts t s k = true → C k) (h1 : ∀ i k, C i → k < t.ops.length → nexts t s i k = true → C k) : ∀ k, Clo t s k → C k := fun k h => by
  induction h with
  | all hf hk => exact h0 _ hk (by unfold firsts; rw [hf])
  | goal hf ho hw => exact h0 _ (lt_of_get ho) (by unfold firsts; rw [hf]; simp [ho, hw])
  | need hi hx hf ho hw ih => exact h1 _ _ ih (lt_of_get ho) (by unfold nexts; rw [hx]; simp [hf, ho, hw])
  | meet hi hx hf hm ih => obtain ⟨_, _, _, hk, _⟩ := meetB_t hm; exact h1 _ _ ih (lt_of_get hk) (by unfold nexts; rw [hx]; simp [hf, hm])
/-- The applicable operators of the stubborn set. -/
noncomputable def stubL (t : Tsk) (s : List Int) : List Int := pick (fun i => bof (Clo t s i) && (t.ops[i]?).any fun o => holdsB o.pre s) t.ops.length
theorem count_le_one {l : List Int} (h : l.Nodup) (x : Int) : l.count x ≤ 1 := List.nodup_iff_count.1 h x
theorem nodup_le : ∀ (n : Nat) (l : List Int), l.Nodup → (∀ x ∈ l, 0 ≤ x ∧ x < (n : Int)) → l.length ≤ n
  | 0, l, _, h => by
    cases l with
    | nil => simp
    | cons x l => have := h x List.mem_cons_self; omega
  | n + 1, l, hn, h => by
    have h1 := nodup_le n (l.filter fun x => decide (x ≠ (n : Int))) (hn.filter _) (fun x hx => by
      rw [List.mem_filter] at hx
      have := h x hx.1
      have h2 : x ≠ (n : Int) := by simpa using hx.2
      omega)
    have h2 : l.length = (l.filter fun x => decide (x ≠ (n : Int))).length + l.count (n : Int) := by
      rw [← List.countP_eq_length_filter, List.count, List.length_eq_countP_add_countP (fun x => decide (x ≠ (n : Int)))]
      congr 1
      apply List.countP_congr
      intro x _
      simp
    have := count_le_one hn (n : Int)
    omega
theorem perm_of_mem {a b : List Int} (ha : a.Nodup) (hb : b.Nodup) (h : ∀ x, x ∈ a ↔ x ∈ b) : a.Perm b := by
  rw [List.perm_iff_count]
  intro x
  have h1 := count_le_one ha x
  have h2 := count_le_one hb x
  have h3 : 0 < a.count x ↔ 0 < b.count x := by rw [List.count_pos_iff, List.count_pos_iff]; exact h x
  omega
end
section
open Go Go.RowKit
/-- Operators that can be carried out one behind the other. -/
inductive Run (t : Tsk) : List Int → List Nat → List Int → Prop
  | nil {s : List Int} : Run t s [] s
  | cons {s s' : List Int} {k : Nat} {ks : List Nat} {o : Opr} : t.ops[k]? = some o → holdsB o.pre s = true → Run t (succ o s) ks s' → Run t s (k :: ks) s'
def costL (t : Tsk) : List Nat → Int
  | [] => 0
  | k :: ks => ((t.ops[k]?).map (·.cost)).getD 0 + costL t ks
theorem costL_perm {t : Tsk} {a b : List Nat} (h : a.Perm b) : costL t a = costL t b := by
  induction h with
  | nil => rfl
  | cons x _ ih => simp only [costL, ih]
  | swap x y l => simp only [costL]; omega
  | trans _ _ h1 h2 => exact h1.trans h2
theorem Run.append {t : Tsk} {s s' s'' : List Int} {a b : List Nat} (h : Run t s a s') (k : Run t s' b s'') : Run t s (a ++ b) s'' := by
  induction h with
  | nil => exact k
  | cons ho hp _ ih => exact .cons ho hp (ih k)
theorem Run.split {t : Tsk} : ∀ {a b : List Nat} {s s'' : List Int}, Run t s (a ++ b) s'' → ∃ s', Run t s a s' ∧ Run t s' b s''
  | [], _, s, _, h => ⟨s, .nil, h⟩
  | k :: a, b, s, s'', h => by
    cases h with
    | cons ho hp hr =>
      obtain ⟨s', h1, h2⟩ := Run.split hr
      exact ⟨s', .cons ho hp h1, h2⟩
/-- A fact that comes true is written. -/
theorem Run.writes {t : Tsk} (h : TaskOk t) {f : Fct} (hf : FactOk t.vars f) {s s' : List Int} {ks : List Nat} (hr : Run t s ks s') (hs : StateOk t.vars s) (h0 : s[f.var.toNat]? ≠ some f.val) (h1 : s'[f.var.toNat]? = some f.val) : ∃ k ∈ ks, ∃ o, t.ops[k]? = some o ∧ writesB o f = true := by
  induction hr with
  | nil => exact absurd h1 h0
  | @cons s s' k ks o ho hp hr ih =>
    by_cases hq : (succ o s)[f.var.toNat]? = some f.val
    · refine ⟨k, List.mem_cons_self, o, ho, ?_⟩
      have hlt : f.var.toNat < s.length := by rw [← succ_length o s]; exact get_none_of hq
      rcases succ_get (o := o) hlt with h2 | ⟨e, e1, _, e3, e4⟩
      · rw [h2] at hq; exact absurd hq h0
      · unfold writesB
        rw [List.any_eq_true]
        refine ⟨e, e1, ?_⟩
        obtain ⟨j, hj⟩ := List.getElem?_of_mem e1
        have g := (h.effs hs k o ho j e hj).1
        have g2 := hf.1
        rw [hq] at e4
        have : f.val = e.val := Option.some.inj e4
        have hv : e.var = f.var := by omega
        simp [hv, this]
    · obtain ⟨k', m, o', h2, h3⟩ := ih (succ_ok h hs ho) hq h1
      exact ⟨k', List.mem_cons_of_mem _ m, o', h2, h3⟩
/-- An operator that does not interfere with those before it can come first. -/
theorem Run.front {t : Tsk} (h : TaskOk t) {k : Nat} {o : Opr} (ho : t.ops[k]? = some o) {s s' : List Int} {ks : List Nat} (hr : Run t s ks s') (hs : StateOk t.vars s) (hp : holdsB o.pre s = true) (hi : ∀ i ∈ ks, ∀ x, t.ops[i]? = some x → intB o x = false) : Run t (succ o s) ks (succ o s') := by
  induction hr with
  | nil => exact .nil
  | @cons s s' j ks x hx hpx hr ih =>
    obtain ⟨c1, c2, c3⟩ := commute (h.effs hs k o ho) (h.effs hs j x hx) hp hpx (hi j List.mem_cons_self x hx)
    refine .cons hx c1 ?_
    rw [c3]
    exact ih (succ_ok h hs hx) c2 fun i m => hi i (List.mem_cons_of_mem _ m)
theorem first_split {p : Nat → Prop} : ∀ (l : List Nat), (∃ k ∈ l, p k) → ∃ a k b, l = a ++ k :: b ∧ p k ∧ ∀ x ∈ a, ¬ p x
  | [], h => by obtain ⟨k, hk, _⟩ := h; cases hk
  | x :: l, h => by
    by_cases hx : p x
    · exact ⟨[], x, l, rfl, hx, fun _ h => by cases h⟩
    · obtain ⟨k, hk, hp⟩ := h
      have : ∃ k ∈ l, p k := by
        rcases List.mem_cons.1 hk with rfl | hk
        · exact absurd hp hx
        · exact ⟨k, hk, hp⟩
      obtain ⟨a, k', b, h1, h2, h3⟩ := first_split l this
      refine ⟨x :: a, k', b, by rw [h1]; rfl, h2, fun y hy => ?_⟩
      rcases List.mem_cons.1 hy with rfl | hy
      · exact hx
      · exact h3 y hy
/-- The stubborn set is safe. -/
theorem safe {t : Tsk} (h : TaskOk t) {s s' : List Int} {ks : List Nat} (hs : StateOk t.vars s) (hg : holdsB t.goal s = false) (hr : Run t s ks s') (hg' : holdsB t.goal s' = true) :
    ∃ k o ks', t.ops[k]? = some o ∧ Clo t s k ∧ holdsB o.pre s = true ∧ Run t (succ o s) ks' s' ∧ (k :: ks').Perm ks := by
  have hgoal := h.2.2.2.2.1
  have hpre : ∀ (i : Nat) o, t.ops[i]? = some o → FactsOk t.vars o.pre := fun i o ho => (h.2.2.2.2.2 i o ho).2.2.2.2.1
  obtain ⟨f, hf⟩ : ∃ f, lackF t.goal s = some f := by
    cases hl : lackF t.goal s with
    | some f => exact ⟨f, rfl⟩
    | none => rw [(lack_none hgoal).1 hl] at hg; cases hg
  have hin := lack_some hf
  have hfok : FactOk t.vars f := by obtain ⟨i, hi⟩ := List.getElem?_of_mem hin.1; exact hgoal.1 i f hi
  have hex : ∃ k ∈ ks, Clo t s k := by
    obtain ⟨k, m, o, h1, h2⟩ := hr.writes h hfok hs hin.2 ((holds_iff.1 hg') f hin.1).2
    exact ⟨k, m, .goal hf h1 h2⟩
  obtain ⟨a, k, b, rfl, hk, hno⟩ := first_split ks hex
  obtain ⟨s1, r1, r2⟩ := Run.split hr
  cases r2 with
  | @cons _ _ _ _ o ho hp r3 =>
    have happ : lackF o.pre s = none := by
      cases hl : lackF o.pre s with
      | none => rfl
      | some g =>
        exfalso
        have gin := lack_some hl
        have gok : FactOk t.vars g := by obtain ⟨i, hi⟩ := List.getElem?_of_mem gin.1; exact (hpre k o ho).1 i g hi
        obtain ⟨i, m, x, h1, h2⟩ := r1.writes h gok hs gin.2 ((holds_iff.1 hp) g gin.1).2
        exact hno i m (.need hk ho hl h1 h2)
    have hps : holdsB o.pre s = true := (lack_none (hpre k o ho)).1 happ
    have hint : ∀ i ∈ a, ∀ x, t.ops[i]? = some x → intB o x = false := fun i m x hx => by
      cases hb : intB o x with
      | false => rfl
      | true =>
        exfalso
        have hne : k ≠ i := fun e => hno i m (e ▸ hk)
        exact hno i m (.meet hk ho happ (by unfold meetB; rw [ho, hx]; simp [hne, hb]))
    have r4 := r1.front h ho hs hps hint
    refine ⟨k, o, a ++ b, ho, hk, hps, r4.append r3, ?_⟩
    exact List.perm_middle.symm
end
section
section
variable {α σ ρ β : Type}
theorem lop_wf' {f : σ → Option (Ctl σ ρ)} (I : σ → Prop) (B : σ → Prop) (R : ρ → Prop) (μ : σ → Nat) (h : ∀ s, I s → (∃ s', f s = some (.next s') ∧ I s' ∧ μ s' < μ s) ∨ (∃ s', f s = some (.brk s') ∧ B s') ∨ ∃ r, f s = some (.ret r) ∧ R r) :
    ∀ s, I s → (∃ s', lop f s = some (.done s') ∧ B s') ∨ ∃ r, lop f s = some (.ret r) ∧ R r := by
  have key : ∀ (n : Nat) s, I s → μ s < n → (∃ s', lop f s = some (.done s') ∧ B s') ∨ ∃ r, lop f s = some (.ret r) ∧ R r := by
    intro n
    induction n with
    | zero => intro s _ hn; omega
    | succ n ih =>
      intro s hI hn
      rw [lop_eq]
      rcases h s hI with ⟨s', h1, h2, h3⟩ | ⟨s', h1, h2⟩ | ⟨r, h1, h2⟩
      · rw [h1]; exact ih s' h2 (by omega)
      · rw [h1]; exact .inl ⟨s', rfl, h2⟩
      · rw [h1]; exact .inr ⟨r, rfl, h2⟩
  exact fun s hI => key (μ s + 1) s hI (by omega)
/-- A loop, and what is said of what comes behind it. -/
theorem lop_ex {f : σ → Option (Ctl σ ρ)} {s₀ : σ} {k : Fin σ ρ → Option β} {P : β → Prop} (I : σ → Prop) (B : σ → Prop) (R : ρ → Prop) (μ : σ → Nat) (h0 : I s₀)
    (h : ∀ s, I s → (∃ s', f s = some (.next s') ∧ I s' ∧ μ s' < μ s) ∨ (∃ s', f s = some (.brk s') ∧ B s') ∨ ∃ r, f s = some (.ret r) ∧ R r)
    (hb : ∀ s, B s → ∃ r, k (.done s) = some r ∧ P r) (hr : ∀ q, R q → ∃ r, k (.ret q) = some r ∧ P r) : ∃ r, bnd (lop f s₀) k = some r ∧ P r := by
  rcases lop_wf' I B R μ h s₀ h0 with ⟨s, h1, h2⟩ | ⟨q, h1, h2⟩
  · rw [h1, bnd_some]; exact hb s h2
  · rw [h1, bnd_some]; exact hr q h2
theorem rng_ex {f : Nat → α → σ → Option (Ctl σ ρ)} {xs : List α} {s₀ : σ} {k : Fin σ ρ → Option β} {P : β → Prop} (I : Nat → σ → Prop) (R : ρ → Prop) (h0 : I 0 s₀)
    (h : ∀ i x s, xs[i]? = some x → I i s → (∃ s', f i x s = some (.next s') ∧ I (i + 1) s') ∨ ∃ q, f i x s = some (.ret q) ∧ R q)
    (hb : ∀ s, I xs.length s → ∃ r, k (.done s) = some r ∧ P r) (hr : ∀ q, R q → ∃ r, k (.ret q) = some r ∧ P r) : ∃ r, bnd (rng f xs 0 s₀) k = some r ∧ P r := by
  have key : ∀ (ys : List α) (j : Nat) (s : σ), (∀ i, ys[i]? = xs[j + i]?) → j + ys.length = xs.length → I j s → ∃ r, bnd (rng f ys j s) k = some r ∧ P r := by
    intro ys
    induction ys with
    | nil => intro j s _ hl hI; exact hb s (by simp at hl; rw [← hl]; exact hI)
    | cons y ys ih =>
      intro j s hg hl hI
      have hy : xs[j]? = some y := by have := hg 0; simpa using this.symm
      simp only [rng]
      rcases h j y s hy hI with ⟨s', h1, h2⟩ | ⟨q, h1, h2⟩
      · rw [h1]
        exact ih (j + 1) s' (fun i => by have := hg (i + 1); rw [show j + 1 + i = j + (i + 1) from by omega, ← this]; simp) (by simp at hl; omega) h2
      · rw [h1, bnd_some]; exact hr q h2
  exact key xs 0 s₀ (fun i => by rw [Nat.zero_add]) (by omega) h0
theorem rng_bnd {f : Nat → α → σ → Option (Ctl σ ρ)} {xs : List α} {s₀ : σ} {k : Fin σ ρ → Option β} {r : Option β} (I : Nat → σ → Prop) (h0 : I 0 s₀)
    (h : ∀ i x s, xs[i]? = some x → I i s → ∃ s', f i x s = some (.next s') ∧ I (i + 1) s') (hb : ∀ s, I xs.length s → k (.done s) = r) : bnd (rng f xs 0 s₀) k = r := by
  obtain ⟨s, h1, h2⟩ := rng_all I h0 h
  rw [h1, bnd_some]
  exact hb s h2
theorem bnd_ex {x : Option α} {a : α} {f : α → Option β} {P : β → Prop} (h : x = some a) (hf : ∃ r, f a = some r ∧ P r) : ∃ r, bnd x f = some r ∧ P r := by rw [h, bnd_some]; exact hf
end
end
section
open Go Go.RowKit
/-- Flags and list say the same. -/
structure Flag (n : Nat) (inn : List Bool) (l : List Int) : Prop where
  len : inn.length = n
  flag : ∀ i : Nat, i < n → inn[i]? = some (decide ((i : Int) ∈ l))
  nodup : l.Nodup
  rng : ∀ x ∈ l, 0 ≤ x ∧ x < (n : Int)
theorem Flag.le {n : Nat} {inn : List Bool} {l : List Int} (h : Flag n inn l) : l.length ≤ n := nodup_le n l h.nodup h.rng
theorem add_loop {n : Nat} (hn : n ≤ 1000000) {ρ : Type} : ∀ (xs : List Int) (j : Nat) (inn : List Bool) (l : List Int) , Flag n inn l → (∀ x ∈ xs, 0 ≤ x ∧ x < (n : Int)) →
    ∃ inn' r, rng (ρ := ρ) (fun (_ : Nat) (a11 : Int) (s8 : (BxR 55 4 Bool) × (BxR 22 3 Int)) => bnd (atI s8.1.l a11) fun a42 => if (!a42) = true then (bnd (atI s8.1.l a11) fun _ => bnd (appI 8 s8.2.l [a11]) fun u76 => some (.next ((⟨(s8.1.l.set (a11 : Int).toNat true)⟩ : BxR 55 4 Bool), (⟨u76⟩ : BxR 22 3 Int)))) else (some (.next (s8.1, s8.2)))) xs j (⟨inn⟩, ⟨l⟩) = some (.done (⟨inn'⟩, ⟨l ++ r⟩)) ∧ Flag n inn' (l ++ r) ∧ ∀ x, x ∈ l ++ r ↔ x ∈ l ∨ x ∈ xs
  | [], _, inn, l, h, _ => ⟨inn, [], by simp [rng], by simpa using h, fun x => by simp⟩
  | x :: xs, j, inn, l, h, hx => by
    obtain ⟨h0, h1⟩ := hx x List.mem_cons_self
    have hlt : x.toNat < n := by omega
    have hf := h.flag x.toNat hlt
    have hcast : ((x.toNat : Nat) : Int) = x := by omega
    rw [hcast] at hf
    have hat : atI inn x = some (decide (x ∈ l)) := by unfold atI; rw [if_pos h0]; exact hf
    have hle := h.le
    by_cases hm : x ∈ l
    · obtain ⟨inn', r, g1, g2, g3⟩ := add_loop hn xs (j + 1) inn l h fun y hy => hx y (List.mem_cons_of_mem _ hy)
      refine ⟨inn', r, ?_, g2, fun y => ?_⟩
      · simp only [rng, hat, bnd_some, hm, decide_true, Bool.not_true, Bool.false_eq_true, if_false]
        exact g1
      · rw [g3 y, List.mem_cons]
        constructor
        · rintro (h | h)
          · exact .inl h
          · exact .inr (.inr h)
        · rintro (h | rfl | h)
          · exact .inl h
          · exact .inl hm
          · exact .inr h
    · have hF : Flag n (inn.set x.toNat true) (l ++ [x]) := by
        refine ⟨by simp [h.len], fun i hi => ?_, ?_, fun y hy => ?_⟩
        · rw [List.getElem?_set]
          by_cases he : x.toNat = i
          · subst he
            rw [if_pos rfl, if_pos (by rw [h.len]; exact hlt), hcast]
            simp
          · rw [if_neg he, h.flag i hi]
            have hne : (i : Int) ≠ x := by omega
            simp [hne]
        · rw [List.nodup_append]
          refine ⟨h.nodup, by simp, fun a ha b hb => ?_⟩
          have : b = x := by simpa using hb
          subst this
          exact fun e => hm (e ▸ ha)
        · rcases List.mem_append.1 hy with hy | hy
          · exact h.rng y hy
          · have : y = x := by simpa using hy
            subst this; exact ⟨h0, h1⟩
      obtain ⟨inn', r, g1, g2, g3⟩ := add_loop hn xs (j + 1) (inn.set x.toNat true) (l ++ [x]) hF fun y hy => hx y (List.mem_cons_of_mem _ hy)
      refine ⟨inn', [x] ++ r, ?_, by rw [← List.append_assoc]; exact g2, fun y => ?_⟩
      · simp only [rng, hat, bnd_some, hm, decide_false, Bool.not_false, if_true]
        rw [app1 (by omega), bnd_some, ← List.append_assoc]
        exact g1
      · rw [← List.append_assoc, g3 y, List.mem_append, List.mem_singleton, List.mem_cons, or_assoc]
theorem add_eq {n : Nat} (hn : n ≤ 1000000) {xs : List Int} {inn : List Bool} {l : List Int} (h : Flag n inn l) (hx : ∀ x ∈ xs, 0 ≤ x ∧ x < (n : Int)) :
    ∃ inn' r, m_stubborn_set_l1 xs ⟨inn⟩ ⟨l⟩ = some (⟨inn'⟩, ⟨l ++ r⟩) ∧ Flag n inn' (l ++ r) ∧ ∀ x, x ∈ l ++ r ↔ x ∈ l ∨ x ∈ xs := by
  obtain ⟨inn', r, h1, h2, h3⟩ := add_loop hn (ρ := (BxR 55 4 Bool) × (BxR 22 3 Int)) xs 0 inn l h hx
  refine ⟨inn', r, ?_, h2, h3⟩
  unfold m_stubborn_set_l1
  rw [h1]; rfl
theorem pick_rng {p : Nat → Bool} {n : Nat} : ∀ x ∈ pick p n, 0 ≤ x ∧ x < (n : Int) := fun x hx => by
  obtain ⟨i, rfl, h, _⟩ := mem_pick.1 hx
  omega
def appB (t : Tsk) (s : List Int) (x : Int) : Bool := (t.ops[x.toNat]?).any fun o => holdsB o.pre s
/-- The state of the work list. -/
structure Work (t : Tsk) (s : List Int) (out : List Int) (k : Nat) (l : List Int) (inn : List Bool) : Prop where
  flag : Flag t.ops.length inn l
  le : k ≤ l.length
  clo : ∀ x ∈ l, Clo t s x.toNat
  first : ∀ i : Nat, i < t.ops.length → firsts t s i = true → (i : Int) ∈ l
  next : ∀ (j : Nat) (x : Int), j < k → l[j]? = some x → ∀ i : Nat, i < t.ops.length → nexts t s x.toNat i = true → (i : Int) ∈ l
  out : out = (l.take k).filter (appB t s)
theorem flag0 (n : Nat) : Flag n (List.replicate n false) [] := ⟨by simp, fun i hi => by simp [hi], by simp, fun x hx => by simp at hx⟩
theorem mk_eq {n : Nat} (h : n ≤ 1000000) : mkI 1 false (n : Int) = some (List.replicate n false) := mkI_eq (by omega) (by omega)
theorem set_eq {t : Tsk} (h : TaskOk t) {s : List Int} (hs : StateOk t.vars s) : m_stubborn_set t s = some (stubL t s) := by
  have hl := h.2.1
  have hl6 : t.ops.length ≤ 1000000 := by omega
  have hpre : ∀ (i : Nat) o, t.ops[i]? = some o → FactsOk t.vars o.pre := fun i o ho => (h.2.2.2.2.2 i o ho).2.2.2.2.1
  unfold m_stubborn_set
  rw [mk_eq hl6, bnd_some, missing_eq hs h.2.2.2.2.1, bnd_some]
  -- the first operators
  have hstart : ∃ inn l, (bnd (if (!(lackP t.goal s).2) = true then (bnd (rng (ρ := (BxR 22 3 Int) × (BxR 55 4 Bool)) (fun (k100 : Nat) (_ : Opr) (s98 : (BxR 22 3 Int) × (BxR 55 4 Bool)) => bnd (m_stubborn_set_l1 [(k100 : Int)] s98.2 s98.1) fun q123 => some (.next (q123.2, q123.1))) t.ops 0 ((⟨([] : List Int)⟩ : BxR 22 3 Int), (⟨List.replicate t.ops.length false⟩ : BxR 55 4 Bool))) fun res96 => fin res96 fun (s136 : (BxR 22 3 Int) × (BxR 55 4 Bool)) => some (s136.1, s136.2)) else (bnd (m_stubborn_writers t (lackP t.goal s).1) fun q138 => bnd (m_stubborn_set_l1 q138 (⟨List.replicate t.ops.length false⟩ : BxR 55 4 Bool) (⟨([] : List Int)⟩ : BxR 22 3 Int)) fun q159 => some (q159.2, q159.1)) : Option ((BxR 22 3 Int) × (BxR 55 4 Bool))) fun y => some y) = some (⟨l⟩, ⟨inn⟩) ∧ Flag t.ops.length inn l ∧ ∀ x : Int, x ∈ l ↔ ∃ i : Nat, x = (i : Int) ∧ i < t.ops.length ∧ firsts t s i = true := by
    cases hf : lackF t.goal s with
    | none =>
      rw [lackP_none hf]
      simp only [Bool.not_false, if_true]
      obtain ⟨st, h1, l, inn, rfl, h2, h3⟩ := rng_all (ρ := (BxR 22 3 Int) × (BxR 55 4 Bool)) (f := fun (k100 : Nat) (_ : Opr) (s98 : (BxR 22 3 Int) × (BxR 55 4 Bool)) => bnd (m_stubborn_set_l1 [(k100 : Int)] s98.2 s98.1) fun q123 => some (.next (q123.2, q123.1))) (xs := t.ops) (s₀ := ((⟨([] : List Int)⟩ : BxR 22 3 Int), (⟨List.replicate t.ops.length false⟩ : BxR 55 4 Bool)))
        (fun k st => ∃ l inn, st = (⟨l⟩, ⟨inn⟩) ∧ Flag t.ops.length inn l ∧ ∀ x : Int, x ∈ l ↔ 0 ≤ x ∧ x < (k : Int)) ⟨[], _, rfl, flag0 _, fun x => ⟨fun hx => by simp at hx, fun hx => by omega⟩⟩ (fun k o st hk hI => by
          obtain ⟨l, inn, rfl, g1, g2⟩ := hI
          have := lt_of_get hk
          obtain ⟨inn', r, e1, e2, e3⟩ := add_eq hl6 (xs := [(k : Int)]) g1 (fun x hx => by have : x = (k : Int) := by simpa using hx
                                                                                            omega)
          refine ⟨(⟨l ++ r⟩, ⟨inn'⟩), by simp only [e1, bnd_some], l ++ r, inn', rfl, e2, fun x => ?_⟩
          rw [e3 x, g2 x]
          simp
          omega)
      refine ⟨inn, l, by rw [h1]; rfl, h2, fun x => ?_⟩
      rw [h3 x]
      unfold firsts
      rw [hf]
      constructor
      · intro hx; exact ⟨x.toNat, by omega, by omega, rfl⟩
      · rintro ⟨i, rfl, hi, _⟩; omega
    | some f =>
      rw [lackP_some hf]
      simp only [Bool.not_true, Bool.false_eq_true, if_false]
      rw [writers_eq hl6, bnd_some]
      obtain ⟨inn', r, e1, e2, e3⟩ := add_eq hl6 (flag0 t.ops.length) (pick_rng (p := fun k => (t.ops[k]?).any fun o => writesB o f) (n := t.ops.length))
      refine ⟨inn', [] ++ r, by rw [e1]; rfl, e2, fun x => ?_⟩
      rw [e3 x, mem_pick]
      unfold firsts
      rw [hf]
      simp
  obtain ⟨inn, l, hst, hfl, hmem⟩ := hstart
  have hst' : ∀ {β : Type} {e : Option ((BxR 22 3 Int) × (BxR 55 4 Bool))} {r : (BxR 22 3 Int) × (BxR 55 4 Bool)} (F : (BxR 22 3 Int) × (BxR 55 4 Bool) → Option β), bnd e (fun y => some y) = some r → bnd e F = F r := by
    intro β e r F he
    obtain ⟨a, h1, h2⟩ := bs he
    rw [h1, bnd_some, sm h2]
  rw [hst' _ hst]
  -- the work list
  have hmain := lop_wf (σ := (List Int) × Int × (BxR 22 3 Int) × (BxR 55 4 Bool)) (ρ := List Int) (f := fun s174 => if s174.2.1 < (s174.2.2.1.l.length : Int) then (bnd (bnd (atI s174.2.2.1.l s174.2.1) fun a217 => bnd (atI t.ops a217) fun a219 => bnd (m_stubborn_missing a219.pre s) fun q221 => bnd (some () : Option Unit) fun _ => if q221.2 = true then (bnd (m_stubborn_writers t q221.1) fun q310 => bnd (m_stubborn_set_l1 q310 s174.2.2.2 s174.2.2.1) fun q319 => some (s174.1, q319.2, q319.1)) else (bnd (atI s174.2.2.1.l s174.2.1) fun a337 => bnd (appI 8 s174.1 [a337]) fun u349 => bnd (atI s174.2.2.1.l s174.2.1) fun a361 => bnd (m_stubborn_meets t a361) fun q373 => bnd (m_stubborn_set_l1 q373 s174.2.2.2 s174.2.2.1) fun q387 => some (u349, q387.2, q387.1)) : Option ((List Int) × (BxR 22 3 Int) × (BxR 55 4 Bool))) fun y209 => bnd (chkI (s174.2.1 + 1)) fun n400 => some (.next (y209.1, n400, y209.2.1, y209.2.2))) else (some (.brk (s174.1, s174.2.1, s174.2.2.1, s174.2.2.2))))
    (fun st => ∃ out k l inn, st = (out, ((k : Nat) : Int), ⟨l⟩, ⟨inn⟩) ∧ Work t s out k l inn) (fun st => ∃ out l inn k, st = (out, k, ⟨l⟩, ⟨inn⟩) ∧ Work t s out l.length l inn) (fun st => t.ops.length - st.2.1.toNat) (fun st hI => by
      obtain ⟨out, k, l, inn, rfl, hW⟩ := hI
      have hle := hW.flag.le
      dsimp only
      by_cases hk : (k : Int) < (l.length : Int)
      case neg =>
        rw [if_neg hk]
        have : k = l.length := by have := hW.le; omega
        subst this
        exact .inr ⟨_, rfl, out, l, inn, _, rfl, hW⟩
      rw [if_pos hk]
      refine .inl ?_
      have hkl : k < l.length := by omega
      have hx : l[k]? = some l[k] := List.getElem?_eq_getElem hkl
      generalize l[k] = x at hx
      have hxm : x ∈ l := List.mem_of_getElem? hx
      obtain ⟨hx0, hx1⟩ := hW.flag.rng x hxm
      have hxn : ((x.toNat : Nat) : Int) = x := by omega
      obtain ⟨o, ho, ho'⟩ := at_nat (l := t.ops) hx0 hx1
      rw [atI_eq, hx, bnd_some, ho, bnd_some, missing_eq hs (hpre _ o ho'), bnd_some, bnd_some]
      have hclo := hW.clo x hxm
      have htake : l.take (k + 1) = l.take k ++ [x] := by rw [List.take_add_one, hx]; rfl
      have hchk : chkI ((k : Int) + 1) = some (((k + 1 : Nat) : Nat) : Int) := by rw [chkI_eq (by unfold inI64; omega)]; rfl
      have done : ∀ (p : Nat → Bool) (out' : List Int), (∀ i, p i = nexts t s x.toNat i) → out' = (l.take (k + 1)).filter (appB t s) →
          ∃ inn' r, m_stubborn_set_l1 (pick p t.ops.length) ⟨inn⟩ ⟨l⟩ = some (⟨inn'⟩, ⟨l ++ r⟩) ∧ Work t s out' (k + 1) (l ++ r) inn' := fun p out' hp hout => by
        obtain ⟨inn', r, e1, e2, e3⟩ := add_eq hl6 hW.flag (pick_rng (p := p) (n := t.ops.length))
        refine ⟨inn', r, e1, e2, by simp; omega, fun y hy => ?_, fun i hi h1 => List.mem_append_left _ (hW.first i hi h1), fun j y hj hy i hi h1 => ?_, ?_⟩
        · rcases (e3 y).1 hy with hy | hy
          · exact hW.clo y hy
          · obtain ⟨i, rfl, hi, hpi⟩ := mem_pick.1 hy
            rw [hp] at hpi
            rw [Int.toNat_natCast]
            exact clo_next hclo hpi
        · rw [List.getElem?_append_left (by omega)] at hy
          by_cases hjk : j = k
          · subst hjk
            rw [hx] at hy
            have := Option.some.inj hy
            subst this
            exact (e3 _).2 (.inr (mem_pick.2 ⟨i, rfl, hi, by rw [hp]; exact h1⟩))
          · exact List.mem_append_left _ (hW.next j y (by omega) hy i hi h1)
        · rw [hout, List.take_append_of_le_length (by omega)]
      have hnext : ∀ f, lackF o.pre s = some f → ∀ i, ((t.ops[i]?).any fun o' => writesB o' f) = nexts t s x.toNat i := fun f hf i => by
        unfold nexts; rw [ho']; simp only [Option.any_some, hf]
      have hnext2 : lackF o.pre s = none → ∀ i, meetB t x.toNat i = nexts t s x.toNat i := fun hf i => by
        unfold nexts; rw [ho']; simp only [Option.any_some, hf]
      have happ : appB t s x = holdsB o.pre s := by unfold appB; rw [ho']; rfl
      cases hf : lackF o.pre s with
      | some f =>
        rw [lackP_some hf]
        simp only [if_true]
        rw [writers_eq hl6, bnd_some]
        have hno : holdsB o.pre s = false := by
          cases hb : holdsB o.pre s with
          | false => rfl
          | true => rw [(lack_none (hpre _ o ho')).2 hb] at hf; cases hf
        obtain ⟨inn', r, e1, e2⟩ := done _ out (hnext f hf) (by rw [htake, List.filter_append, hW.out]; simp [happ, hno])
        rw [e1, bnd_some, bnd_some, hchk, bnd_some]
        refine ⟨_, rfl, ⟨out, k + 1, l ++ r, inn', rfl, e2⟩, ?_⟩
        simp only [Int.toNat_natCast]
        omega
      | none =>
        rw [lackP_none hf]
        simp only [Bool.false_eq_true, if_false]
        have hyes : holdsB o.pre s = true := (lack_none (hpre _ o ho')).1 hf
        have holen : out.length ≤ k := by rw [hW.out]; exact Nat.le_trans (List.length_filter_le _ _) (by simp; omega)
        rw [bnd_some, app1 (by omega), bnd_some, bnd_some, show m_stubborn_meets t x = m_stubborn_meets t ((x.toNat : Nat) : Int) from by rw [hxn], meets_eq h (by omega), bnd_some]
        obtain ⟨inn', r, e1, e2⟩ := done _ (out ++ [x]) (hnext2 hf) (by rw [htake, List.filter_append, hW.out]; simp [happ, hyes])
        rw [e1, bnd_some, bnd_some, hchk, bnd_some]
        refine ⟨_, rfl, ⟨out ++ [x], k + 1, l ++ r, inn', rfl, e2⟩, ?_⟩
        simp only [Int.toNat_natCast]
        omega) (([] : List Int), 0, ⟨l⟩, ⟨inn⟩) ⟨[], 0, l, inn, rfl, hfl, Nat.zero_le _, fun x hx => by
          obtain ⟨i, rfl, hi, h1⟩ := (hmem x).1 hx
          rw [Int.toNat_natCast]
          exact clo_first hi h1, fun i hi h1 => (hmem _).2 ⟨i, rfl, hi, h1⟩, fun j x hj => by omega, by simp⟩
  obtain ⟨st, hlop, out, l', inn', k, rfl, hW⟩ := hmain
  rw [hlop, bnd_some]
  show (bnd (m_slices_Sort_Lint_int out) fun q414 => some q414) = _
  have hout : out = l'.filter (appB t s) := by rw [hW.out, List.take_length]
  have holen : out.length ≤ 4096 := by rw [hout]; have := hW.flag.le; exact Nat.le_trans (List.length_filter_le _ _) (by omega)
  unfold m_slices_Sort_Lint_int
  rw [if_pos (by omega), bnd_some]
  congr 1
  have hall : ∀ i : Nat, Clo t s i → (i : Int) ∈ l' := clo_sub hW.first fun i k hi hk hn => by
    obtain ⟨j, hj⟩ := List.getElem?_of_mem hi
    exact hW.next j _ (lt_of_get hj) hj k hk (by rw [Int.toNat_natCast]; exact hn)
  refine sorted_uniq (sortL_sorted _) ((pick_sorted _ _).imp fun h => Int.le_of_lt h) ((sortL_perm _).trans (perm_of_mem (by rw [hout]; exact hW.flag.nodup.filter _) ?_ fun x => ?_))
  · exact (pick_sorted _ _).imp fun h => Int.ne_of_lt h
  · unfold stubL
    rw [hout, List.mem_filter, mem_pick]
    constructor
    · rintro ⟨h1, h2⟩
      obtain ⟨g1, g2⟩ := hW.flag.rng x h1
      refine ⟨x.toNat, by omega, by omega, ?_⟩
      rw [bof_t (hW.clo x h1), Bool.true_and]
      exact h2
    · rintro ⟨i, rfl, hi, h1⟩
      rw [Bool.and_eq_true, bof_iff] at h1
      exact ⟨hall i h1.1, by unfold appB; rw [Int.toNat_natCast]; exact h1.2⟩
end
end Go.Proofs.Ytgnmjmcjadpmhaa

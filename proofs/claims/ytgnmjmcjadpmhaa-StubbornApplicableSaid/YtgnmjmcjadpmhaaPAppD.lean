/- Own text: what the proof of stubbornApplicable_holds uses, part 4: rules, models and their proofs, plain laws. -/
import Derived.Test.YtgnmjmcjadpmhaaPAppC
namespace Go.Proofs.Ytgnmjmcjadpmhaa
open Go Go.RowKit
section
open Go Go.RowKit
attribute [local irreducible] ewp owp hwp hwq Ev Evg Fn retPost Res1
attribute [local irreducible] hwx loudX
instance : TMap Try.prog 103 3 22 := ⟨Try.underlying103⟩
instance : TKey Try.prog 3 Int := ⟨Try.underlying3⟩
structure RLk where
  parent : Int
  op : Int
  cost : Int
structure REn where
  words : List U64
  link : RLk
instance : Rp REn where
  isAgg := true
  size := 4
  R w F cs x := ∃ v0, cs = [v0, .int .i64 x.link.parent, .int .i64 x.link.op, .int .i64 x.link.cost] ∧ Vb w F v0 x.words ∧ inI64 x.link.parent ∧ inI64 x.link.op ∧ inI64 x.link.cost
  len := by rintro w F cs x ⟨v0, rfl, h0, h1, h2, h3⟩; rfl
  one := by rintro w F cs x ⟨v0, rfl, h0, h1, h2, h3⟩ u hu; simp at hu; rcases hu with rfl | rfl | rfl | rfl <;> first | rfl | exact Vb.one rfl (by assumption)
  agree := by rintro w w' F cs x ⟨v0, rfl, h0, h1, h2, h3⟩ ha; exact ⟨v0, rfl, h0.agree ha, h1, h2, h3⟩
  mono := by rintro w F G cs x ⟨v0, rfl, h0, h1, h2, h3⟩ ha; exact ⟨v0, rfl, h0.mono ha, h1, h2, h3⟩
structure Reg where
  packer : Pkr
  entries : List REn
  table : MapR 3 Int Int
instance : Ow Reg where
  R w F M v x := ∃ (g : Nat) (L : Lab) (c0 c1 c2 : Value), v = .pointer (some ⟨g, 0, none⟩) ∧ Blk w g 106 [c0, c1, c2] ∧ M g ∧ L g = 0 ∧ Ow.R w F (fun k => M k ∧ L k = 1) c0 x.packer ∧ RwM w F (fun k => M k ∧ L k = 2) 137 c1 x.entries ∧ Ow.R w F (fun k => M k ∧ L k = 3) c2 x.table
  agree := by rintro w w' F M v x ⟨g, L, c0, c1, c2, rfl, hb, hM, hL, h0, h1, h2⟩ a1 a2; exact ⟨g, L, c0, c1, c2, rfl, hb.keep (a2 g hM), hM, hL, Ow.agree h0 a1 fun k hk => a2 k hk.1, h1.agree a1 fun k hk => a2 k hk.1, Ow.agree h2 a1 fun k hk => a2 k hk.1⟩
  mono := by rintro w F M F' M' v x ⟨g, L, c0, c1, c2, rfl, hb, hM, hL, h0, h1, h2⟩ a1 a2 a3; exact ⟨g, L, c0, c1, c2, rfl, hb, a2 g hM, hL, Ow.mono h0 a1 (fun k hk => ⟨a2 k hk.1, hk.2⟩) fun k hf hm => a3 k hf hm.1, h1.mono a1 (fun k hk => ⟨a2 k hk.1, hk.2⟩) fun k hf hm => a3 k hf hm.1, Ow.mono h2 a1 (fun k hk => ⟨a2 k hk.1, hk.2⟩) fun k hf hm => a3 k hf hm.1⟩
instance : OwP Reg := ⟨by rintro w F M v x ⟨g, L, c0, c1, c2, rfl, _⟩; exact ⟨g, rfl⟩⟩
theorem Reg.opn {i : Nat} {w : World} {O : Lab} {p : Nat} {x : Reg} (h : Ob i w O (.pointer (some ⟨p, 0, none⟩)) x) (l0 l1 l2 l3 : Nat) (hl : l0 ≠ 0 ∧ l1 ≠ 0 ∧ l2 ≠ 0 ∧ l3 ≠ 0) : ∃ (O' : Lab) (c0 c1 c2 : Value), St (eT i) w O w O' ∧ (∀ k, Fr i w O k → ∃ q, q ∈ [l0, l1, l2, l3] ∧ Fr q w O' k) ∧ Lc l0 w O' p 106 [c0, c1, c2] ∧ Ob l1 w O' c0 x.packer ∧ Rw l2 w O' 137 c1 x.entries ∧ Ob l3 w O' c2 x.table := by
  obtain ⟨⟨g, L, c0, c1, c2, hv, hb, hM, hL, h0, h1, h2⟩, hi⟩ := h
  obtain rfl : p = g := by injection hv with hv; injection hv with hv; injection hv
  exact ⟨part O i L [l0, l1, l2, l3], c0, c1, c2, part_st hi, part_all (by simp), ⟨hb, (part_fr (j := 0) rfl p ⟨hM, hL⟩).2⟩, ⟨Ow.mono h0 (part_fr0 hi) (part_fr (j := 1) rfl) (frNe0 hl.2.1), hl.2.1⟩, h1.rw (part_fr0 hi) (part_fr (j := 2) rfl) hl.2.2.1, ⟨Ow.mono h2 (part_fr0 hi) (part_fr (j := 3) rfl) (frNe0 hl.2.2.2), hl.2.2.2⟩⟩
theorem Reg.shut {w : World} {O : Lab} {p : Nat} {x : Reg} {l0 l1 l2 l3 : Nat} {c0 c1 c2 : Value} (hd : ¬ 0 ∈ [l0, l1, l2, l3] ∧ [l0, l1, l2, l3].idxOf l0 = 0 ∧ [l0, l1, l2, l3].idxOf l1 = 1 ∧ [l0, l1, l2, l3].idxOf l2 = 2 ∧ [l0, l1, l2, l3].idxOf l3 = 3) (hb : Lc l0 w O p 106 [c0, c1, c2]) (h0 : Ob l1 w O c0 x.packer) (h1 : Rw l2 w O 137 c1 x.entries) (h2 : Ob l3 w O c2 x.table) : ∃ O', St (· ∈ [l0, l1, l2, l3]) w O w O' ∧ (∀ k, Fr 0 w O k → Fr 0 w O' k) ∧ (∀ q, q ∈ [l0, l1, l2, l3] → ∀ k, Fr q w O k → Fr l0 w O' k) ∧ Ob l0 w O' (.pointer (some ⟨p, 0, none⟩)) x := by
  have hb1 : l0 ≠ 0 := fun e => hd.1 (by simp [e])
  have hg := whole_fr (i := l0) hd.2.1 (by simp) p ⟨hb.1.lt, hb.2⟩
  exact ⟨whole O l0 [l0, l1, l2, l3], whole_st, whole_fr0 hd.1, whole_all, ⟨p, fun k => [l0, l1, l2, l3].idxOf (O k), c0, c1, c2, rfl, hb.1, hg.1, hg.2, Ow.mono h0.1 (whole_fr0 hd.1) (whole_fr hd.2.2.1 (by simp)) (fun k a b => frNe0 hb1 k a b.1), h1.m (whole_fr0 hd.1) (whole_fr hd.2.2.2.1 (by simp)) (fun k a b => frNe0 hb1 k a b.1), Ow.mono h2.1 (whole_fr0 hd.1) (whole_fr hd.2.2.2.2 (by simp)) (fun k a b => frNe0 hb1 k a b.1)⟩, hb1⟩
noncomputable def m_registry_New (x0 : List Int) : Option ((Option Reg) × Err) :=
  bnd (m_pack_New x0) fun q4 => if q4.2.n ≠ 0 then (some (none, (⟨q4.2.n⟩ : Err))) else (bnd q4.1 fun o22 => some ((some (⟨o22, ([] : List REn), (⟨[]⟩ : MapR 3 Int Int)⟩ : Reg)), (⟨0⟩ : Err)))
theorem c_registry_New {w : World} {O : Lab} {vx0 : Value} {x0 : List Int} (hx0 : Vb w (Fr 0 w O) vx0 x0) (j0 : Nat) (hj0 : j0 ≠ 0) {r : (Option Reg) × Err} (hm : m_registry_New x0 = some r) :
    Fn Try.prog 39 [vx0] w fun v w' => ∃ O', St nT w O w' O' ∧ ∃ v0 v1 : Value, v = .tuple #[v0, v1] ∧ Obo j0 w' O' v0 r.1 ∧ Vb w' (Fr 0 w' O') v1 r.2 := by
 obtain ⟨O0, hE, hz0⟩ := ent0 (w := w) (O := O)
 have hB : Bm w O0 w O0 := Bm.refl
 replace hx0 := hx0.mono hz0
 obtain ⟨A2, c3, rfl⟩ := hx0.form
 refine fn_enter Try.func39 rfl Try.ntmps39 rfl ?_
 unfold m_registry_New at hm
 refine ewp_seq (ewp_region (o_as rfl rfl (o_as rfl rfl (o_z ?_))))
 refine ewp_seq (ewp_region (o_mv rfl rfl ?_))
 obtain ⟨q4, e5, hm⟩ := bs hm
 refine l_callM (O := O0) (c_pack_New hx0 2 (by decide) e5) rfl rfl fun v10 w6 O7 S8 h9 => ?_
 obtain ⟨v11, v12, rfl, h13, h14⟩ := h9
 obtain ⟨rfl, r15⟩ := h14.err
 refine o_mv rfl rfl (o_ex rfl rfl rfl (o_ex rfl rfl rfl (o_as rfl rfl (o_as rfl rfl (o_z ?_)))))
 refine ewp_seq (ewp_seq (ewp_region (o_mv rfl rfl (o_rnS rfl rfl (fun c16 => ?_) fun c16 => ?_))))
 ·
  replace hm := ip hm c16
  refine o_z ?_
  refine ewp_true rfl (ewp_seq (ewp_region (o_mv rfl rfl (o_as rfl rfl (o_as rfl rfl (o_z ?_))))))
  refine ewp_ret ?_
  obtain rfl := sm hm
  replace hB := hB.st S8
  obtain ⟨O', hS', hz, hl⟩ := hE.leave (fun _ => 0) rfl hB
  exact ret2 rfl (res_tmp rfl) (res_tmp rfl) ⟨O', hS', _, _, rfl, rfl, (vErr r15)⟩
 ·
  replace hm := im hm c16
  refine o_z ?_
  refine ewp_false rfl (ewp_skip (ewp_seq (ewp_region (o_mv rfl rfl (l_mkmapR (K := Int) (V := Int) 3 3 (by decide) O7 rfl fun p17 w18 O19 S20 h21 => ?_)))))
  obtain ⟨o22, e23, hm⟩ := bs hm
  replace h13 := h13.st S20
  rw [e23] at h13
  obtain ⟨p24, rfl⟩ := Ob.ptr h13
  refine o_bd rfl rfl rfl ?_
  refine l_box 4 O19 rfl rfl fun g25 w26 O27 S28 h29 => ?_
  replace h29 : Lc 4 w26 O27 g25 106 [(.pointer (some ⟨p24, 0, none⟩)), (.slice none 0 0), (.map (some p17))] := h29
  refine o_as rfl rfl (o_as rfl rfl (o_z ?_))
  refine ewp_ret ?_
  have h30 : Rw 5 w26 O27 137 (.slice none 0 0) ([] : List REn) := Rw.nil 5 (by decide)
  replace h13 := h13.st S28
  replace h21 := h21.st S28
  obtain ⟨O32, S33, hz35, ha36, h34⟩ := Reg.shut (x := (⟨o22, ([] : List REn), (⟨[]⟩ : MapR 3 Int Int)⟩ : Reg)) (l0 := 4) (l1 := 2) (l2 := 5) (l3 := 3) (by decide) h29 h13 h30 h21
  obtain rfl := sm hm
  replace hB := (((hB.st S8).st S20).st S28).st S33
  obtain ⟨O', hS', hz, hl⟩ := hE.leave (fun q => if q = 4 then j0 else 0) rfl hB
  exact ret2 rfl (res_tmp rfl) (res_tmp rfl) ⟨O', hS', _, _, rfl, (Ob.leave h34 hz (hl 4 (by decide) (by decide)) hj0), (vErr (show inI64 0 from by decide))⟩
noncomputable def m_registry_Registry_find (x0 : Reg) (x1 : List Int) : Option ((List U64) × Int × Int × Err) :=
  bnd (m_pack_Packer_Pack x0.packer x1) fun q20 => if q20.2.n ≠ 0 then (some (([] : List U64), 0, (-1), (⟨2⟩ : Err))) else (bnd (m_pack_Packer_Hash x0.packer q20.1) fun q41 => bnd (rng (ρ := (List U64) × Int × Int × Err) (fun (k66 : Nat) (a67 : Int) (s64 : Unit) => bnd (atI x0.entries a67) fun a100 => bnd (m_slices_Equal_Luint64_uint64 a100.words q20.1) fun q118 => if q118 = true then some (.ret (q20.1, q41, a67, (⟨0⟩ : Err))) else some (.next ())) (mget ([] : List Int) x0.table.l q41) 0 ()) fun res62 => fin res62 fun (s139 : Unit) => some (q20.1, q41, (-1), (⟨0⟩ : Err)))
theorem c_registry_Registry_find {w : World} {O : Lab} {p0 i0 : Nat} {x0 : Reg} (hx0 : Ob i0 w O (.pointer (some ⟨p0, 0, none⟩)) x0) {vx1 : Value} {x1 : List Int} (hx1 : Vb w (Fr 0 w O) vx1 x1) {r : (List U64) × Int × Int × Err} (hm : m_registry_Registry_find x0 x1 = some r) :
    Fn Try.prog 74 [(.pointer (some ⟨p0, 0, none⟩)), vx1] w fun v w' => ∃ O', St (eT i0) w O w' O' ∧ ∃ v0 v1 v2 v3 : Value, Ob i0 w' O' (.pointer (some ⟨p0, 0, none⟩)) x0 ∧ v = .tuple #[v0, v1, v2, v3] ∧ Vb w' (Fr 0 w' O') v0 r.1 ∧ Vb w' (Fr 0 w' O') v1 r.2.1 ∧ Vb w' (Fr 0 w' O') v2 r.2.2.1 ∧ Vb w' (Fr 0 w' O') v3 r.2.2.2 := by
 obtain ⟨O0, hE, hz0, hl2⟩ := ent1 (w := w) (O := O) hx0.2
 have hx0' := Ob.leave hx0 hz0 hl2 (j := 2) (by decide)
 have hB : Bm w O0 w O0 := Bm.refl
 replace hx1 := hx1.mono hz0
 obtain ⟨A3, c4, rfl⟩ := hx1.form
 refine fn_enter Try.func74 rfl Try.ntmps74 rfl ?_
 unfold m_registry_Registry_find at hm
 refine ewp_seq (ewp_region (o_as rfl rfl (o_as rfl rfl (o_as rfl rfl (o_as rfl rfl (o_z ?_))))))
 refine ewp_seq (ewp_region (o_mv rfl rfl (o_nc rfl rfl ?_)))
 obtain ⟨O5, v9, v12, v17, S6, ha8, h7, h10, h13, h18⟩ := Reg.opn hx0' 2 3 4 5 (by decide)
 obtain ⟨p11, rfl⟩ := h10.ptr
 obtain ⟨A14, c15, rfl⟩ := h13.form
 obtain ⟨p19, rfl⟩ := h18.mptr
 refine o_fa rfl rfl (o_ld (hc := Blk.cell (i := 0) (h7.1) rfl) rfl rfl ?_)
 refine o_mv rfl rfl ?_
 obtain ⟨q20, e21, hm⟩ := bs hm
 replace hx1 := hx1.st S6
 refine l_callM (O := O5) (c_pack_Packer_Pack h10 hx1 e21) rfl rfl fun v26 w22 O23 S24 h25 => ?_
 obtain ⟨v28, v29, h27, rfl, h30, h31⟩ := h25
 obtain ⟨A32, c33, rfl⟩ := h30.form
 obtain ⟨rfl, r34⟩ := h31.err
 refine o_mv rfl rfl (o_ex rfl rfl rfl (o_ex rfl rfl rfl (o_as rfl rfl (o_as rfl rfl (o_z ?_)))))
 refine ewp_seq (ewp_seq (ewp_region (o_mv rfl rfl (o_rnS rfl rfl (fun c35 => ?_) fun c35 => ?_))))
 ·
  replace hm := ip hm c35
  refine o_z ?_
  refine ewp_true rfl (ewp_seq (ewp_region (o_miE rfl rfl ?_)))
  refine o_as rfl rfl (o_as rfl rfl (o_as rfl rfl (o_as rfl rfl (o_z ?_))))
  refine ewp_ret ?_
  replace h7 := h7.st S24
  replace h13 := h13.st S24
  replace h18 := h18.st S24
  obtain ⟨O36, S37, hz39, ha40, h38⟩ := Reg.shut (x := x0) (l0 := 2) (l1 := 3) (l2 := 4) (l3 := 5) (by decide) h7 h27 h13 h18
  obtain rfl := sm hm
  replace hB := ((hB.st S6).st S24).st S37
  obtain ⟨O', hS', hz, hl⟩ := hE.leave (fun q => if q = 2 then i0 else 0) rfl hB
  exact ret4 rfl (res_tmp rfl) (res_tmp rfl) (res_tmp rfl) (res_tmp rfl) ⟨O', hS', _, _, _, _, (Ob.leave h38 hz (hl 2 (by decide) (by decide)) hx0.2), rfl, (Vb.mono (Vb.nil _ _) hz), (vInt (show inI64 (0) from by decide)), (vInt (show inI64 (-1) from by decide)), (vErr (by decide))⟩
 ·
  replace hm := im hm c35
  refine o_z ?_
  refine ewp_false rfl (ewp_skip (ewp_seq (ewp_region (o_mv rfl rfl (o_nc rfl rfl (o_fa rfl rfl ?_))))))
  replace h7 := h7.st S24
  refine o_ld (hc := Blk.cell (i := 0) (h7.1) rfl) rfl rfl ?_
  refine o_mv rfl rfl ?_
  obtain ⟨q41, e42, hm⟩ := bs hm
  refine l_callM (O := O23) (c_pack_Packer_Hash h27 h30 e42) rfl rfl fun v47 w43 O44 S45 h46 => ?_
  obtain ⟨h48, h49⟩ := h46
  obtain ⟨rfl, r50⟩ := h49.int
  refine o_as rfl rfl (o_z ?_)
  refine ewp_seq (ewp_seq (ewp_region (o_mv rfl rfl (o_nc rfl rfl (o_fa rfl rfl ?_)))))
  replace h7 := h7.st S45
  refine o_ld (hc := Blk.cell (i := 2) (h7.1) rfl) rfl rfl ?_
  refine o_mv rfl rfl ?_
  replace h18 := (h18.st S24).st S45
  obtain ⟨A53, c54, hl51, h52⟩ := MapR.get h18 q41
  refine o_lk q41 hl51 rfl rfl rfl ?_
  refine o_ln rfl rfl ?_
  have l56 : (mget ([] : List Int) x0.table.l q41).length ≤ 9223372036854775807 := Nat.le_trans h52.len.2.1 h52.len.2.2
  have r55 : inI64 ((mget ([] : List Int) x0.table.l q41).length : Int) := rngNat l56
  refine o_mv rfl rfl (o_z ?_)
  replace h13 := (h13.st S24).st S45
  obtain ⟨O57, S58, hz60, ha61, h59⟩ := Reg.shut (x := x0) (l0 := 2) (l1 := 3) (l2 := 4) (l3 := 5) (by decide) h7 h48 h13 h18
  replace h52 := h52.shutS S58 hz60 ha61 [2] (by decide)
  obtain ⟨res62, hL63, hm⟩ := bs hm
  refine ewp_join (aft res62 (fun (s64 : Unit) (x65 : Unit) => [(8, (.slice A32 q20.1.length c33)), (10, (.int .i64 q41))]) (fun s64 x65 w' => ∃ O' : Lab, Bm w O0 w' O' ∧ Vb w' (Fr 0 w' O') (.slice A32 q20.1.length c33) q20.1 ∧ Ob 2 w' O' (.pointer (some ⟨p0, 0, none⟩)) x0)) ?_ ?_
  ·
   refine ewp_block ?_
   replace hB := (((hB.st S6).st S24).st S45).st S58
   replace h30 := (h30.st S45).st S58
   refine ewp_rng (σ := Unit) (X := Unit) ((mget ([] : List Int) x0.table.l q41).length) hL63 rfl l56 (fun (s64 : Unit) (x65 : Unit) => [(0, (.pointer (some ⟨p0, 0, none⟩))), (8, (.slice A32 q20.1.length c33)), (10, (.int .i64 q41)), (36, (.slice A53 (mget ([] : List Int) x0.table.l q41).length c54))]) _ (fun s64 x65 w' => ∃ O' : Lab, Bm w O0 w' O' ∧ Ob 2 w' O' (.pointer (some ⟨p0, 0, none⟩)) x0 ∧ Vb w' (Fr 0 w' O') (.slice A32 q20.1.length c33) q20.1 ∧ Vb w' (FrS [2] w' O') (.slice A53 (mget ([] : List Int) x0.table.l q41).length c54) (mget ([] : List Int) x0.table.l q41)) _ () ⟨O57, hB, h59, h30, h52⟩ ⟨rfl, rfl, rfl, rfl, rfl, rfl, trivial⟩ (fun _ _ => ⟨rfl, rfl⟩) (fun _ _ => ⟨rfl, rfl, trivial⟩) (fun _ _ _ ⟨O', hB, h59, h30, h52⟩ => ⟨O', hB, h30, h59⟩) ⟨rfl, rfl, rfl⟩ ⟨rfl, rfl⟩ ?_
   rintro k66 a67 s64 x65 w68 cc70 hx71 ⟨O69, hB, h59, h30, h52⟩ hf72 hret73 hbrk74
   have rk66 : inI64 (k66 : Int) := rngK hx71 l56
   refine ewp_seq (ewp_region ?_)
   obtain ⟨b77, o78, ce79, hA80, hl81, hd82, rfl, r84⟩ := h52.elem' hx71
   refine o_iaE (hA := hA80) (hj := rfl) (hlt := hl81) rfl rfl rfl ?_
   refine o_ld (hc := cat0 hd82) rfl rfl ?_
   refine o_as rfl rfl (o_z ?_)
   refine ewp_seq (ewp_region (o_mv rfl rfl (o_nc rfl rfl ?_)))
   obtain ⟨O85, v89, v92, v97, S86, ha88, h87, h90, h93, h98⟩ := Reg.opn h59 2 3 4 5 (by decide)
   obtain ⟨p91, rfl⟩ := h90.ptr
   obtain ⟨A94, c95, rfl⟩ := h93.form
   obtain ⟨p99, rfl⟩ := h98.mptr
   replace h52 := h52.opnS S86 (by decide) ha88 [2, 3, 4, 5] (by decide)
   refine o_fa rfl rfl (o_ld (hc := Blk.cell (i := 1) (h87.1) rfl) rfl rfl ?_)
   refine o_mv rfl rfl ?_
   obtain ⟨a100, e101, hf72⟩ := bs hf72
   obtain ⟨p103, x102⟩ := atI_some' e101
   obtain ⟨b104, o105, ce106, hA107, hl108, hd109, v111, rfl, h112, r115, r116, r117⟩ := h93.elem x102
   obtain ⟨A113, c114, rfl⟩ := h112.form
   refine o_iaE (hA := hA107) (hj := (Int.toNat_of_nonneg p103).symm) (hlt := hl108) rfl rfl rfl ?_
   refine o_fa rfl rfl (o_ld (hc := cat0 hd109) rfl rfl ?_)
   refine o_mv rfl rfl ?_
   obtain ⟨q118, e119, hf72⟩ := bs hf72
   replace h30 := h30.st S86
   refine l_callA (O := O85) (A := All w68) (R := fun w' F v => Vb w' F v q118) (c_slices_Equal_Luint64_uint64 (fun _ h => h) (Vb.mono (F := Fr 0 w68 O85) h112 Fr.lt) (Vb.mono (F := Fr 0 w68 O85) h30 Fr.lt) e119) rfl rfl fun v124 w120 O121 S122 h123 => ?_
   obtain rfl := h123.bool
   replace h52 := h52.stS S122 id (fun _ _ => id)
   cases q118
   case false =>
    replace hf72 := iF hf72
    refine o_z ?_
    refine ewp_false rfl (ewp_skip ?_)
    replace h87 := h87.st S122
    replace h90 := h90.st S122
    replace h93 := h93.st S122
    replace h98 := h98.st S122
    obtain ⟨O125, S126, hz128, ha129, h127⟩ := Reg.shut (x := x0) (l0 := 2) (l1 := 3) (l2 := 4) (l3 := 5) (by decide) h87 h90 h93 h98
    replace h52 := h52.shutS S126 hz128 ha129 [2] (by decide)
    obtain rfl := sm hf72
    refine (?_ : Exists _)
    replace hB := ((hB.st S86).st S122).st S126
    replace h30 := (h30.st S122).st S126
    exact ⟨_, (), rfl, ⟨rfl, rfl, rfl, rfl, rfl, rfl, trivial⟩, _, hB, h127, h30, h52⟩
   replace hf72 := iT hf72
   refine o_z ?_
   refine ewp_true rfl (ewp_seq (ewp_region (o_mv rfl rfl (o_mv rfl rfl (o_mv rfl rfl (o_as rfl rfl (o_as rfl rfl (o_as rfl rfl (o_as rfl rfl (o_z ?_))))))))))
   refine ewp_ret ?_
   replace h87 := h87.st S122
   replace h90 := h90.st S122
   replace h93 := h93.st S122
   replace h98 := h98.st S122
   obtain ⟨O130, S131, hz133, ha134, h132⟩ := Reg.shut (x := x0) (l0 := 2) (l1 := 3) (l2 := 4) (l3 := 5) (by decide) h87 h90 h93 h98
   obtain rfl := sm hf72
   obtain rfl := hret73 _ rfl
   obtain rfl := sm (fin_ret hm)
   replace hB := ((hB.st S86).st S122).st S131
   obtain ⟨O', hS', hz, hl⟩ := hE.leave (fun q => if q = 2 then i0 else 0) rfl hB
   replace h30 := (h30.st S122).st S131
   exact ret4 rfl (res_tmp rfl) (res_tmp rfl) (res_tmp rfl) (res_tmp rfl) ⟨O', hS', _, _, _, _, (Ob.leave h132 hz (hl 2 (by decide) (by decide)) hx0.2), rfl, (Vb.mono h30 hz), (vInt r50), (vInt r84), (vErr (show inI64 0 from by decide))⟩
  replace hB := (((hB.st S6).st S24).st S45).st S58
  replace h30 := (h30.st S45).st S58
  rintro l135 w136 ⟨s139, x140, rfl, hs138, O137, hB, h30, h59⟩
  replace hm := fin_done hm
  refine ewp_sub _ hs138 ?_
  refine ewp_seq (ewp_region (o_mv rfl rfl (o_mv rfl rfl (o_as rfl rfl (o_as rfl rfl (o_as rfl rfl (o_as rfl rfl (o_z ?_))))))))
  refine ewp_ret ?_
  obtain rfl := sm hm
  obtain ⟨O', hS', hz, hl⟩ := hE.leave (fun q => if q = 2 then i0 else 0) rfl hB
  exact ret4 rfl (res_tmp rfl) (res_tmp rfl) (res_tmp rfl) (res_tmp rfl) ⟨O', hS', _, _, _, _, (Ob.leave h59 hz (hl 2 (by decide) (by decide)) hx0.2), rfl, (Vb.mono h30 hz), (vInt r50), (vInt (show inI64 (-1) from by decide)), (vErr (show inI64 0 from by decide))⟩
noncomputable def m_registry_Registry_Add (x0 : Reg) (x1 : List Int) : Option (Int × Bool × Err × Reg) :=
  bnd (m_registry_Registry_find x0 x1) fun q5 => if q5.2.2.2.n ≠ 0 then (some (0, false, (⟨q5.2.2.2.n⟩ : Err), x0)) else (if 0 ≤ q5.2.2.1 then (some (q5.2.2.1, false, (⟨0⟩ : Err), x0)) else (if 65536 ≤ (x0.entries.length : Int) then (some (0, false, (⟨10⟩ : Err), x0)) else (bnd (appI 48 x0.entries [(⟨q5.1, (⟨(-1), (-1), 0⟩ : RLk)⟩ : REn)]) fun u53 => bnd (appI 8 (mget ([] : List Int) x0.table.l q5.2.1) [(x0.entries.length : Int)]) fun u82 => some ((x0.entries.length : Int), true, (⟨0⟩ : Err), (⟨x0.packer, u53, (⟨mput x0.table.l q5.2.1 u82⟩ : MapR 3 Int Int)⟩ : Reg)))))
theorem c_registry_Registry_Add {w : World} {O : Lab} {p0 i0 : Nat} {x0 : Reg} (hx0 : Ob i0 w O (.pointer (some ⟨p0, 0, none⟩)) x0) {vx1 : Value} {x1 : List Int} (hx1 : Vb w (Fr 0 w O) vx1 x1) {r : Int × Bool × Err × Reg} (hm : m_registry_Registry_Add x0 x1 = some r) :
    Fn Try.prog 58 [(.pointer (some ⟨p0, 0, none⟩)), vx1] w fun v w' => ∃ O', St (eT i0) w O w' O' ∧ ∃ v0 v1 v2 : Value, Ob i0 w' O' (.pointer (some ⟨p0, 0, none⟩)) r.2.2.2 ∧ v = .tuple #[v0, v1, v2] ∧ Vb w' (Fr 0 w' O') v0 r.1 ∧ Vb w' (Fr 0 w' O') v1 r.2.1 ∧ Vb w' (Fr 0 w' O') v2 r.2.2.1 := by
 obtain ⟨O0, hE, hz0, hl2⟩ := ent1 (w := w) (O := O) hx0.2
 have hx0' := Ob.leave hx0 hz0 hl2 (j := 2) (by decide)
 have hB : Bm w O0 w O0 := Bm.refl
 replace hx1 := hx1.mono hz0
 obtain ⟨A3, c4, rfl⟩ := hx1.form
 refine fn_enter Try.func58 rfl Try.ntmps58 rfl ?_
 unfold m_registry_Registry_Add at hm
 refine ewp_seq (ewp_region (o_as rfl rfl (o_as rfl rfl (o_as rfl rfl (o_z ?_)))))
 refine ewp_seq (ewp_seq (ewp_region (o_mv rfl rfl (o_pn rfl rfl ?_))))
 refine o_z ?_
 refine ewp_false rfl (ewp_skip (ewp_seq (ewp_region (o_mv rfl rfl (o_mv rfl rfl ?_)))))
 obtain ⟨q5, e6, hm⟩ := bs hm
 refine l_callM (O := O0) (c_registry_Registry_find hx0' hx1 e6) rfl rfl fun v11 w7 O8 S9 h10 => ?_
 obtain ⟨v13, v14, v15, v16, h12, rfl, h17, h18, h19, h20⟩ := h10
 obtain ⟨A21, c22, rfl⟩ := h17.form
 obtain ⟨rfl, r23⟩ := h18.int
 obtain ⟨rfl, r24⟩ := h19.int
 obtain ⟨rfl, r25⟩ := h20.err
 refine o_mv rfl rfl (o_ex rfl rfl rfl (o_ex rfl rfl rfl (o_ex rfl rfl rfl (o_ex rfl rfl rfl (o_as rfl rfl (o_as rfl rfl (o_as rfl rfl (o_as rfl rfl (o_z ?_)))))))))
 refine ewp_seq (ewp_block (ewp_seq (ewp_region (o_mv rfl rfl (o_rnS rfl rfl (fun c26 => ?_) fun c26 => ?_)))))
 ·
  replace hm := ip hm c26
  refine o_as rfl rfl (o_z ?_)
  refine ewp_true rfl (ewp_seq (ewp_region (o_mv rfl rfl (o_as rfl rfl (o_as rfl rfl (o_as rfl rfl (o_z ?_)))))))
  refine ewp_ret ?_
  obtain rfl := sm hm
  replace hB := hB.st S9
  obtain ⟨O', hS', hz, hl⟩ := hE.leave (fun q => if q = 2 then i0 else 0) rfl hB
  exact ret3 rfl (res_tmp rfl) (res_tmp rfl) (res_tmp rfl) ⟨O', hS', _, _, _, (Ob.leave h12 hz (hl 2 (by decide) (by decide)) hx0.2), rfl, (vInt (show inI64 (0) from by decide)), vBool, (vErr r25)⟩
 ·
  replace hm := im hm c26
  refine o_as rfl rfl (o_z ?_)
  refine ewp_false rfl (ewp_seq (ewp_region (o_mv rfl rfl (o_geS rfl rfl rfl (fun c27 => ?_) fun c27 => ?_))))
  ·
   replace hm := ip hm c27
   refine o_as rfl rfl (o_z ?_)
   refine ewp_true rfl (ewp_seq (ewp_region (o_mv rfl rfl (o_as rfl rfl (o_as rfl rfl (o_as rfl rfl (o_z ?_)))))))
   refine ewp_ret ?_
   obtain rfl := sm hm
   replace hB := hB.st S9
   obtain ⟨O', hS', hz, hl⟩ := hE.leave (fun q => if q = 2 then i0 else 0) rfl hB
   exact ret3 rfl (res_tmp rfl) (res_tmp rfl) (res_tmp rfl) ⟨O', hS', _, _, _, (Ob.leave h12 hz (hl 2 (by decide) (by decide)) hx0.2), rfl, (vInt r24), vBool, (vErr (show inI64 0 from by decide))⟩
  ·
   replace hm := im hm c27
   refine o_as rfl rfl (o_z ?_)
   refine ewp_false rfl (ewp_seq (ewp_region (o_mv rfl rfl (o_nc rfl rfl ?_))))
   obtain ⟨O28, v32, v35, v40, S29, ha31, h30, h33, h36, h41⟩ := Reg.opn h12 2 3 4 5 (by decide)
   obtain ⟨p34, rfl⟩ := h33.ptr
   obtain ⟨A37, c38, rfl⟩ := h36.form
   obtain ⟨p42, rfl⟩ := h41.mptr
   refine o_fa rfl rfl (o_ld (hc := Blk.cell (i := 1) (h30.1) rfl) rfl rfl ?_)
   refine o_ln rfl rfl ?_
   have l44 : x0.entries.length ≤ 9223372036854775807 := Nat.le_trans h36.len.2.1 h36.len.2.2
   have r43 : inI64 (x0.entries.length : Int) := rngNat l44
   refine o_geS rfl rfl rfl (fun c45 => ?_) fun c45 => ?_
   ·
    replace hm := ip hm c45
    refine o_as rfl rfl (o_z ?_)
    refine ewp_true rfl (ewp_seq (ewp_region (o_miE rfl rfl ?_)))
    refine o_as rfl rfl (o_as rfl rfl (o_as rfl rfl (o_z ?_)))
    refine ewp_ret ?_
    obtain ⟨O46, S47, hz49, ha50, h48⟩ := Reg.shut (x := x0) (l0 := 2) (l1 := 3) (l2 := 4) (l3 := 5) (by decide) h30 h33 h36 h41
    obtain rfl := sm hm
    replace hB := ((hB.st S9).st S29).st S47
    obtain ⟨O', hS', hz, hl⟩ := hE.leave (fun q => if q = 2 then i0 else 0) rfl hB
    exact ret3 rfl (res_tmp rfl) (res_tmp rfl) (res_tmp rfl) ⟨O', hS', _, _, _, (Ob.leave h48 hz (hl 2 (by decide) (by decide)) hx0.2), rfl, (vInt (show inI64 (0) from by decide)), vBool, (vErr (by decide))⟩
   ·
    replace hm := im hm c45
    refine o_as rfl rfl (o_z ?_)
    refine ewp_false rfl (ewp_skip (ewp_seq (ewp_region (o_mv rfl rfl (o_nc rfl rfl (o_fa rfl rfl (o_ld (hc := Blk.cell (i := 1) (h30.1) rfl) rfl rfl ?_)))))))
    refine o_ln rfl rfl ?_
    have l52 : x0.entries.length ≤ 9223372036854775807 := Nat.le_trans h36.len.2.1 h36.len.2.2
    have r51 : inI64 (x0.entries.length : Int) := rngNat l52
    refine o_as rfl rfl (o_z ?_)
    refine ewp_seq (ewp_region (o_mv rfl rfl (o_mv rfl rfl (o_nc rfl rfl (o_fa rfl rfl (o_ld (hc := Blk.cell (i := 1) (h30.1) rfl) rfl rfl ?_))))))
    refine o_mv rfl rfl (o_bd rfl rfl rfl ?_)
    refine o_bd rfl rfl rfl ?_
    obtain ⟨u53, e54, hm⟩ := bs hm
    obtain ⟨e54, e55, e56⟩ := appI_some e54
    replace h17 := h17.st S29
    refine l_append1 rfl (a := (⟨q5.1, (⟨(-1), (-1), 0⟩ : RLk)⟩ : REn)) h36 (Vb.ofAgg (cs := [(.slice A21 q5.1.length c22), (.int .i64 (-1)), (.int .i64 (-1)), (.int .i64 0)]) (x := (⟨q5.1, (⟨(-1), (-1), 0⟩ : RLk)⟩ : REn)) rfl ⟨_, rfl, h17, (show inI64 (-1) from by decide), (show inI64 (-1) from by decide), (show inI64 (0) from by decide)⟩) (fun _ => rfl) rfl (by decide) (by decide) e55 e56 ⟨rfl, rfl⟩ fun g57 A58 c59 w60 O61 S62 h63 => ?_
    rw [← e54] at h63 ⊢
    refine o_nc rfl rfl (o_fa rfl rfl ?_)
    replace h30 := h30.st S62
    refine l_store h30 rfl rfl rfl (Nat.le_of_ble_eq_true rfl) (by first | exact allOne rfl | simp [Value.cells, Value.oneCell', errV_one]) fun w65 S66 h30 => ?_
    replace h30 : Lc 2 w65 O61 p0 106 [(.pointer (some ⟨p34, 0, none⟩)), (.slice A58 u53.length c59), (.map (some p42))] := h30
    refine o_z ?_
    refine ewp_seq (ewp_drawX [(12, []), (13, [5, 7])] O61 ?_)
    refine x_pre (fuel := 8) [] [(5, true), (6, true), (7, true), (8, true), (9, true), (10, true), (11, true)] (by kernel_rfl) rfl ?_
    refine h_mv rfl rfl rfl (h_nc rfl rfl rfl (h_fa rfl rfl rfl (h_ldC (hc := fun w' ⟨O', hq⟩ => Blk.cell (i := 2) ((h30.st hq (by decide)).1) rfl) rfl rfl rfl ?_)))
    refine h_mv rfl rfl rfl ?_
    replace h41 := (h41.st S62).st S66
    obtain ⟨A69, c70, hl67, h68⟩ := MapR.get h41 q5.2.1
    refine h_lk q5.2.1 (fun w' ⟨O', hq⟩ => hl67.keep (hq.agree (i := 5) (by decide) _ (MapR.at h41))) rfl rfl rfl rfl ?_
    refine h_mv rfl rfl rfl (hwp_nilT ?_)
    refine x_pre (fuel := 3) [5, 7] [(0, true), (1, true), (2, true), (3, true), (4, true)] (by kernel_rfl) rfl ?_
    refine h_mv rfl rfl rfl (h_nc rfl rfl rfl (h_fa rfl rfl rfl (h_ldC (hc := fun w' ⟨O', hq⟩ => Blk.cell (i := 2) ((h30.st hq (by decide)).1) rfl) rfl rfl rfl ?_)))
    refine h_mv rfl rfl rfl (hwp_nilT ?_)
    refine x_one (i := 12) (by kernel_rfl) rfl ?_
    refine l_bslice 6 (by decide) O61 (xs := ([(x0.entries.length : Int)] : List Int)) rfl rfl rfl rfl ⟨(vInt r51), trivial⟩ (by decide) (by decide) rfl fun g71 w72 O73 S74 h75 => ?_
    have hZ := S74.lst [] (fun _ h => h.elim)
    replace hl67 := hl67.keep (S74.agree (i := 5) id _ (MapR.at h41))
    replace h68 := h68.stS S74 id (fun _ _ => id)
    refine x_go [(13, [5, 7])] hZ (by kernel_rfl) ?_
    refine x_one (i := 13) (by kernel_rfl) rfl ?_
    replace h41 := h41.st S74
    obtain ⟨O77, S78, h79, h80⟩ := MapR.take h41 hl67 7 (by decide) (by decide)
    have hZ := S78.lst [5] (fun _ h => by cases h; decide)
    obtain ⟨u82, e83, hm⟩ := bs hm
    obtain ⟨e83, e84, e85⟩ := appI_some e83
    replace h75 := h75.st S78
    refine l_append rfl h80 (h75.rd) rfl rfl (by decide) e84 e85 rfl fun A86 c87 w88 O89 S90 h91 => ?_
    rw [← e83] at h91 ⊢
    replace hZ := hZ.cmp S90 [5, 7] (fun _ h => by cases h; decide) rfl
    refine x_go [] hZ (by kernel_rfl) ?_
    refine x_one (i := 14) (by kernel_rfl) rfl ?_
    replace h79 := h79.st S90
    refine l_mputR h79 h91 (by decide) rfl rfl rfl fun w93 O94 S95 h96 => ?_
    refine x_end (by kernel_rfl) ?_
    refine x_nil (by kernel_rfl) ?_
    refine ewp_seq (ewp_region (o_mv rfl rfl (o_as rfl rfl (o_as rfl rfl (o_as rfl rfl (o_z ?_))))))
    refine ewp_ret ?_
    replace h30 := (((h30.st S74).st S78).st S90).st S95
    replace h33 := (((((h33.st S62).st S66).st S74).st S78).st S90).st S95
    replace h63 := ((((h63.st S66).st S74).st S78).st S90).st S95
    obtain ⟨O97, S98, hz100, ha101, h99⟩ := Reg.shut (x := (⟨x0.packer, u53, (⟨mput x0.table.l q5.2.1 u82⟩ : MapR 3 Int Int)⟩ : Reg)) (l0 := 2) (l1 := 3) (l2 := 4) (l3 := 5) (by decide) h30 h33 h63 h96
    obtain rfl := sm hm
    replace hB := ((((((((hB.st S9).st S29).st S62).st S66).st S74).st S78).st S90).st S95).st S98
    obtain ⟨O', hS', hz, hl⟩ := hE.leave (fun q => if q = 2 then i0 else 0) rfl hB
    exact ret3 rfl (res_tmp rfl) (res_tmp rfl) (res_tmp rfl) ⟨O', hS', _, _, _, (Ob.leave h99 hz (hl 2 (by decide) (by decide)) hx0.2), rfl, (vInt r51), vBool, (vErr (show inI64 0 from by decide))⟩
noncomputable def m_registry_Registry_has (x0 : Reg) (x1 : Int) : Option Bool :=
  bnd (if 0 ≤ x1 then (if x1 < (x0.entries.length : Int) then (some true) else (some false)) else (some false) : Option Bool) fun y3 => some y3
theorem c_registry_Registry_has {w : World} {O : Lab} {p0 i0 : Nat} {x0 : Reg} (hx0 : Ob i0 w O (.pointer (some ⟨p0, 0, none⟩)) x0) {x1 : Int} (rx1 : inI64 x1) {r : Bool} (hm : m_registry_Registry_has x0 x1 = some r) :
    Fn Try.prog 75 [(.pointer (some ⟨p0, 0, none⟩)), (.int .i64 x1)] w fun v w' => ∃ O', St (eT i0) w O w' O' ∧ Ob i0 w' O' (.pointer (some ⟨p0, 0, none⟩)) x0 ∧ Vb w' (Fr 0 w' O') v r := by
 obtain ⟨O0, hE, hz0, hl2⟩ := ent1 (w := w) (O := O) hx0.2
 have hx0' := Ob.leave hx0 hz0 hl2 (j := 2) (by decide)
 have hB : Bm w O0 w O0 := Bm.refl
 refine fn_enter Try.func75 rfl Try.ntmps75 rfl ?_
 unfold m_registry_Registry_has at hm
 refine ewp_seq (ewp_region (o_as rfl rfl (o_z ?_)))
 refine ewp_seq ?_
 obtain ⟨y3, hy4, hm⟩ := bs hm
 refine ewp_join (fun l' w' => ∃ (x6 : Unit) (O' : Lab), subs l' [(4, (.bool y3))] ∧ Bm w O0 w' O' ∧ Ob 2 w' O' (.pointer (some ⟨p0, 0, none⟩)) x0) ?_ ?_
 ·
  refine ewp_region (o_mv rfl rfl (o_geS rfl rfl rfl (fun c7 => ?_) fun c7 => ?_))
  ·
   replace hy4 := ip hy4 c7
   refine o_mv rfl rfl (owp_yes rfl rfl (o_mv rfl rfl (owp_yes rfl rfl (o_mv rfl rfl (owp_yes rfl rfl (o_nc rfl rfl (owp_yes rfl rfl ?_)))))))
   obtain ⟨O8, v12, v15, v20, S9, ha11, h10, h13, h16, h21⟩ := Reg.opn hx0' 2 3 4 5 (by decide)
   obtain ⟨p14, rfl⟩ := h13.ptr
   obtain ⟨A17, c18, rfl⟩ := h16.form
   obtain ⟨p22, rfl⟩ := h21.mptr
   refine o_fa rfl rfl (owp_yes rfl rfl (o_ld (hc := Blk.cell (i := 1) (h10.1) rfl) rfl rfl ?_))
   refine owp_yes rfl rfl (o_ln rfl rfl ?_)
   have l24 : x0.entries.length ≤ 9223372036854775807 := Nat.le_trans h16.len.2.1 h16.len.2.2
   have r23 : inI64 (x0.entries.length : Int) := rngNat l24
   refine owp_yes rfl rfl (o_ltS rfl rfl rfl (fun c25 => ?_) fun c25 => ?_)
   ·
    replace hy4 := ip hy4 c25
    refine o_pt rfl rfl rfl (o_as rfl rfl (o_z ?_))
    obtain ⟨O26, S27, hz29, ha30, h28⟩ := Reg.shut (x := x0) (l0 := 2) (l1 := 3) (l2 := 4) (l3 := 5) (by decide) h10 h13 h16 h21
    obtain rfl := sm hy4
    replace hB := (hB.st S9).st S27
    exact ⟨(), _, ⟨rfl, trivial⟩, hB, h28⟩
   ·
    replace hy4 := im hy4 c25
    refine o_pt rfl rfl rfl (o_as rfl rfl (o_z ?_))
    obtain ⟨O31, S32, hz34, ha35, h33⟩ := Reg.shut (x := x0) (l0 := 2) (l1 := 3) (l2 := 4) (l3 := 5) (by decide) h10 h13 h16 h21
    obtain rfl := sm hy4
    replace hB := (hB.st S9).st S32
    exact ⟨(), _, ⟨rfl, trivial⟩, hB, h33⟩
  ·
   replace hy4 := im hy4 c7
   refine o_mv rfl rfl (owp_no rfl rfl rfl rfl (owp_no rfl rfl rfl rfl (owp_no rfl rfl rfl rfl (owp_no rfl rfl rfl rfl (owp_no rfl rfl rfl rfl (owp_no rfl rfl rfl rfl (owp_no rfl rfl rfl rfl (o_pf rfl rfl rfl (o_as rfl rfl (o_z ?_))))))))))
   obtain rfl := sm hy4
   exact ⟨(), _, ⟨rfl, trivial⟩, hB, hx0'⟩
 rintro l36 w37 ⟨x6, O38, hs39, hB, h24⟩
 refine ewp_sub _ hs39 ?_
 refine ewp_ret ?_
 obtain rfl := sm hm
 obtain ⟨O', hS', hz, hl⟩ := hE.leave (fun q => if q = 2 then i0 else 0) rfl hB
 exact ret1v rfl (res_tmp rfl) ⟨O', hS', (Ob.leave h24 hz (hl 2 (by decide) (by decide)) hx0.2), vBool⟩
noncomputable def m_registry_Registry_State (x0 : Reg) (x1 : Int) : Option ((List Int) × Err) :=
  bnd (m_registry_Registry_has x0 x1) fun q3 => if q3 = true then bnd (atI x0.entries x1) fun a27 => bnd (m_pack_Packer_Unpack x0.packer a27.words) fun q45 => some (q45.1, (⟨q45.2.n⟩ : Err)) else some (([] : List Int), (⟨1⟩ : Err))
theorem c_registry_Registry_State {w : World} {O : Lab} {p0 i0 : Nat} {x0 : Reg} (hx0 : Ob i0 w O (.pointer (some ⟨p0, 0, none⟩)) x0) {x1 : Int} (rx1 : inI64 x1) {r : (List Int) × Err} (hm : m_registry_Registry_State x0 x1 = some r) :
    Fn Try.prog 63 [(.pointer (some ⟨p0, 0, none⟩)), (.int .i64 x1)] w fun v w' => ∃ O', St (eT i0) w O w' O' ∧ ∃ v0 v1 : Value, Ob i0 w' O' (.pointer (some ⟨p0, 0, none⟩)) x0 ∧ v = .tuple #[v0, v1] ∧ Vb w' (Fr 0 w' O') v0 r.1 ∧ Vb w' (Fr 0 w' O') v1 r.2 := by
 obtain ⟨O0, hE, hz0, hl2⟩ := ent1 (w := w) (O := O) hx0.2
 have hx0' := Ob.leave hx0 hz0 hl2 (j := 2) (by decide)
 have hB : Bm w O0 w O0 := Bm.refl
 refine fn_enter Try.func63 rfl Try.ntmps63 rfl ?_
 unfold m_registry_Registry_State at hm
 refine ewp_seq (ewp_region (o_as rfl rfl (o_as rfl rfl (o_z ?_))))
 refine ewp_seq (ewp_block (ewp_seq (ewp_region (o_mv rfl rfl (o_pn rfl rfl ?_)))))
 refine o_as rfl rfl (o_z ?_)
 refine ewp_false rfl (ewp_seq (ewp_region (o_mv rfl rfl (o_mv rfl rfl ?_))))
 obtain ⟨q3, e4, hm⟩ := bs hm
 refine l_callM (O := O0) (c_registry_Registry_has hx0' rx1 e4) rfl rfl fun v9 w5 O6 S7 h8 => ?_
 obtain ⟨h10, h11⟩ := h8
 obtain rfl := h11.bool
 cases q3
 case false =>
  replace hm := iF hm
  refine o_nf rfl rfl (o_as rfl rfl (o_z ?_))
  refine ewp_true rfl (ewp_seq (ewp_region (o_miE rfl rfl ?_)))
  refine o_as rfl rfl (o_as rfl rfl (o_z ?_))
  refine ewp_ret ?_
  obtain rfl := sm hm
  replace hB := hB.st S7
  obtain ⟨O', hS', hz, hl⟩ := hE.leave (fun q => if q = 2 then i0 else 0) rfl hB
  exact ret2 rfl (res_tmp rfl) (res_tmp rfl) ⟨O', hS', _, _, (Ob.leave h10 hz (hl 2 (by decide) (by decide)) hx0.2), rfl, (Vb.mono (Vb.nil _ _) hz), (vErr (by decide))⟩
 replace hm := iT hm
 refine o_nt rfl rfl (o_as rfl rfl (o_z ?_))
 refine ewp_false rfl (ewp_skip (ewp_seq ?_))
 obtain ⟨O12, v16, v19, v24, S13, ha15, h14, h17, h20, h25⟩ := Reg.opn h10 2 3 4 5 (by decide)
 obtain ⟨p18, rfl⟩ := h17.ptr
 obtain ⟨A21, c22, rfl⟩ := h20.form
 obtain ⟨p26, rfl⟩ := h25.mptr
 refine ewp_drawX [(12, [3])] O12 ?_
 refine x_pre (fuel := 5) [] [(0, true), (1, true), (2, true), (3, true), (4, true), (5, true), (6, true), (7, true), (8, true), (9, true), (10, true), (11, true)] (by kernel_rfl) rfl ?_
 refine h_mv rfl rfl rfl (h_nc rfl rfl rfl (h_fa rfl rfl rfl (h_ldC (hc := fun w' ⟨O', hq⟩ => Blk.cell (i := 0) ((h14.st hq (by decide)).1) rfl) rfl rfl rfl ?_)))
 refine h_mv rfl rfl rfl (h_nc rfl rfl rfl (h_fa rfl rfl rfl (h_ldC (hc := fun w' ⟨O', hq⟩ => Blk.cell (i := 1) ((h14.st hq (by decide)).1) rfl) rfl rfl rfl ?_)))
 refine h_mv rfl rfl rfl ?_
 obtain ⟨a27, e28, hm⟩ := bs hm
 obtain ⟨p30, x29⟩ := atI_some' e28
 obtain ⟨b31, o32, ce33, hA34, hF37, hl35, hd36, v38, rfl, h39, r42, r43, r44⟩ := h20.elemF x29
 obtain ⟨A40, c41, rfl⟩ := h39.form
 refine h_iaE (hA := hA34) (hj := (Int.toNat_of_nonneg p30).symm) (hlt := hl35) rfl rfl rfl rfl ?_
 refine h_fa rfl rfl rfl (h_ldC (hc := fun w' ⟨O', hq⟩ => cat0 (cellsAt_agree (hq.agree (i := 4) (by decide)) hF37 hd36)) rfl rfl rfl ?_)
 refine hwp_nilT ?_
 refine x_one (i := 12) (by kernel_rfl) rfl ?_
 obtain ⟨q45, e46, hm⟩ := bs hm
 refine l_callM (O := O12) (c_pack_Packer_Unpack h17 h39 e46) rfl rfl fun v51 w47 O48 S49 h50 => ?_
 obtain ⟨v53, v54, h52, rfl, h55, h56⟩ := h50
 obtain ⟨A57, c58, rfl⟩ := h55.form
 obtain ⟨rfl, r59⟩ := h56.err
 have hZ := S49.lst [3] (fun _ h => by cases h; decide)
 refine x_go [] hZ (by kernel_rfl) ?_
 refine x_pre (fuel := 0) [] [(13, true), (14, true), (15, true), (16, true)] (by kernel_rfl) rfl ?_
 refine h_ex rfl rfl rfl rfl (h_ex rfl rfl rfl rfl (h_as rfl rfl rfl (h_as rfl rfl rfl (hwp_nilT ?_))))
 refine x_nil (by kernel_rfl) ?_
 refine ewp_ret ?_
 replace h14 := h14.st S49
 replace h20 := h20.st S49
 replace h25 := h25.st S49
 obtain ⟨O60, S61, hz63, ha64, h62⟩ := Reg.shut (x := x0) (l0 := 2) (l1 := 3) (l2 := 4) (l3 := 5) (by decide) h14 h52 h20 h25
 obtain rfl := sm hm
 replace hB := (((hB.st S7).st S13).st S49).st S61
 obtain ⟨O', hS', hz, hl⟩ := hE.leave (fun q => if q = 2 then i0 else 0) rfl hB
 replace h55 := h55.st S61
 exact ret2 rfl (res_tmp rfl) (res_tmp rfl) ⟨O', hS', _, _, (Ob.leave h62 hz (hl 2 (by decide) (by decide)) hx0.2), rfl, (Vb.mono h55 hz), (vErr r59)⟩
noncomputable def m_registry_Registry_SetLink (x0 : Reg) (x1 : Int) (x2 : Int) (x3 : Int) (x4 : Int) : Option (Err × Reg) :=
  bnd (bnd (m_registry_Registry_has x0 x1) fun q10 => if q10 = true then if x2 ≠ (-1) then (bnd (m_registry_Registry_has x0 x2) fun q20 => if q20 = true then some false else some true) else (some false) else some true : Option Bool) fun y6 => if y6 = true then (some ((⟨1⟩ : Err), x0)) else (bnd (atI x0.entries x1) fun a49 => some ((⟨0⟩ : Err), (⟨x0.packer, (x0.entries.set (x1 : Int).toNat ({ a49 with link := (⟨x2, x3, x4⟩ : RLk) } : REn)), x0.table⟩ : Reg)))
theorem c_registry_Registry_SetLink {w : World} {O : Lab} {p0 i0 : Nat} {x0 : Reg} (hx0 : Ob i0 w O (.pointer (some ⟨p0, 0, none⟩)) x0) {x1 : Int} (rx1 : inI64 x1) {x2 : Int} (rx2 : inI64 x2) {x3 : Int} (rx3 : inI64 x3) {x4 : Int} (rx4 : inI64 x4) {r : Err × Reg} (hm : m_registry_Registry_SetLink x0 x1 x2 x3 x4 = some r) :
    Fn Try.prog 59 [(.pointer (some ⟨p0, 0, none⟩)), (.int .i64 x1), (.int .i64 x2), (.int .i64 x3), (.int .i64 x4)] w fun v w' => ∃ O', St (eT i0) w O w' O' ∧ Ob i0 w' O' (.pointer (some ⟨p0, 0, none⟩)) r.2 ∧ Vb w' (Fr 0 w' O') v r.1 := by
 obtain ⟨O0, hE, hz0, hl2⟩ := ent1 (w := w) (O := O) hx0.2
 have hx0' := Ob.leave hx0 hz0 hl2 (j := 2) (by decide)
 have hB : Bm w O0 w O0 := Bm.refl
 refine fn_enter Try.func59 rfl Try.ntmps59 rfl ?_
 unfold m_registry_Registry_SetLink at hm
 refine ewp_seq (ewp_region (o_as rfl rfl (o_z ?_)))
 refine ewp_seq (ewp_block (ewp_seq (ewp_region (o_mv rfl rfl (o_pn rfl rfl ?_)))))
 refine o_as rfl rfl (o_z ?_)
 refine ewp_false rfl (ewp_seq ?_)
 obtain ⟨y6, hy7, hm⟩ := bs hm
 refine ewp_join (fun l' w' => ∃ (x9 : Unit) (O' : Lab), subs l' [(0, (.pointer (some ⟨p0, 0, none⟩))), (1, (.int .i64 x1)), (2, (.int .i64 x2)), (3, (.int .i64 x3)), (4, (.int .i64 x4)), (15, (.bool y6))] ∧ Bm w O0 w' O' ∧ Ob 2 w' O' (.pointer (some ⟨p0, 0, none⟩)) x0) ?_ ?_
 ·
  refine ewp_region (o_mv rfl rfl (o_mv rfl rfl ?_))
  obtain ⟨q10, e11, hy7⟩ := bs hy7
  refine l_callM (O := O0) (c_registry_Registry_has hx0' rx1 e11) rfl rfl fun v16 w12 O13 S14 h15 => ?_
  obtain ⟨h17, h18⟩ := h15
  obtain rfl := h18.bool
  cases q10
  case false =>
   replace hy7 := iF hy7
   refine o_nf rfl rfl (o_mv rfl rfl (owp_no rfl rfl rfl rfl (owp_no rfl rfl rfl rfl (owp_no rfl rfl rfl rfl (owp_no rfl rfl rfl rfl (owp_no rfl rfl rfl rfl (owp_no rfl rfl rfl rfl (owp_no rfl rfl rfl rfl (owp_no rfl rfl rfl rfl (o_pt rfl rfl rfl (o_as rfl rfl (o_z ?_))))))))))))
   obtain rfl := sm hy7
   replace hB := hB.st S14
   exact ⟨(), _, ⟨rfl, rfl, rfl, rfl, rfl, rfl, trivial⟩, hB, h17⟩
  replace hy7 := iT hy7
  refine o_nt rfl rfl (o_mv rfl rfl (owp_yes rfl rfl (o_mv rfl rfl (owp_yes rfl rfl (o_neS rfl rfl rfl (fun c19 => ?_) fun c19 => ?_)))))
  ·
   replace hy7 := ip hy7 c19
   refine owp_yes rfl rfl (o_mv rfl rfl (owp_yes rfl rfl (o_mv rfl rfl (owp_yes rfl rfl (o_mv rfl rfl (owp_yes rfl rfl ?_))))))
   obtain ⟨q20, e21, hy7⟩ := bs hy7
   refine l_callM (O := O13) (c_registry_Registry_has h17 rx2 e21) rfl rfl fun v26 w22 O23 S24 h25 => ?_
   obtain ⟨h27, h28⟩ := h25
   obtain rfl := h28.bool
   cases q20
   case false =>
    replace hy7 := iF hy7
    refine owp_yes rfl rfl (o_nf rfl rfl (owp_yes rfl rfl (o_pt rfl rfl rfl (o_pf rfl rfl rfl (o_as rfl rfl (o_z ?_))))))
    obtain rfl := sm hy7
    replace hB := (hB.st S14).st S24
    exact ⟨(), _, ⟨rfl, rfl, rfl, rfl, rfl, rfl, trivial⟩, hB, h27⟩
   replace hy7 := iT hy7
   refine owp_yes rfl rfl (o_nt rfl rfl (owp_yes rfl rfl (o_pt rfl rfl rfl (o_pf rfl rfl rfl (o_as rfl rfl (o_z ?_))))))
   obtain rfl := sm hy7
   replace hB := (hB.st S14).st S24
   exact ⟨(), _, ⟨rfl, rfl, rfl, rfl, rfl, rfl, trivial⟩, hB, h27⟩
  ·
   replace hy7 := im hy7 c19
   refine owp_yes rfl rfl (o_mv rfl rfl (owp_no rfl rfl rfl rfl (owp_no rfl rfl rfl rfl (owp_no rfl rfl rfl rfl (owp_no rfl rfl rfl rfl (owp_yes rfl rfl (o_pf rfl rfl rfl (o_pf rfl rfl rfl (o_as rfl rfl (o_z ?_))))))))))
   obtain rfl := sm hy7
   replace hB := hB.st S14
   exact ⟨(), _, ⟨rfl, rfl, rfl, rfl, rfl, rfl, trivial⟩, hB, h17⟩
 rintro l29 w30 ⟨x9, O31, hs32, hB, h13⟩
 refine ewp_sub _ hs32 ?_
 refine ewp_cond rfl (fun c33 => ?_) (fun c33 => ?_)
 ·
  replace hm := ip hm c33
  refine ewp_seq (ewp_region (o_miE rfl rfl ?_))
  refine o_as rfl rfl (o_z ?_)
  refine ewp_ret ?_
  obtain rfl := sm hm
  obtain ⟨O', hS', hz, hl⟩ := hE.leave (fun q => if q = 2 then i0 else 0) rfl hB
  exact ret1v rfl (res_tmp rfl) ⟨O', hS', (Ob.leave h13 hz (hl 2 (by decide) (by decide)) hx0.2), (vErr (by decide))⟩
 ·
  replace hm := im' hm c33
  refine ewp_skip (ewp_seq (ewp_region (o_mv rfl rfl (o_nc rfl rfl ?_))))
  obtain ⟨O34, v38, v41, v46, S35, ha37, h36, h39, h42, h47⟩ := Reg.opn h13 2 3 4 5 (by decide)
  obtain ⟨p40, rfl⟩ := h39.ptr
  obtain ⟨A43, c44, rfl⟩ := h42.form
  obtain ⟨p48, rfl⟩ := h47.mptr
  refine o_fa rfl rfl (o_ld (hc := Blk.cell (i := 1) (h36.1) rfl) rfl rfl ?_)
  refine o_mv rfl rfl (o_mv rfl rfl (o_mv rfl rfl (o_mv rfl rfl (o_bd rfl rfl rfl ?_))))
  obtain ⟨a49, e50, hm⟩ := bs hm
  obtain ⟨p52, x51⟩ := atI_some' e50
  obtain ⟨b53, o54, ce55, hA56, hl57, hd58, v60, rfl, h61, r64, r65, r66⟩ := h42.elem x51
  obtain ⟨A62, c63, rfl⟩ := h61.form
  refine o_iaE (hA := hA56) (hj := (Int.toNat_of_nonneg p52).symm) (hlt := hl57) rfl rfl rfl ?_
  refine o_fa rfl rfl (l_setPart (a := a49) (a' := ({ a49 with link := (⟨x2, x3, x4⟩ : RLk) } : REn)) (off := 1) h42 hA56 x51 rfl rfl rfl (Nat.le_of_ble_eq_true rfl) (by first | exact allOne rfl | simp [Value.cells, Value.oneCell', errV_one]) (by rintro ce ⟨v69, rfl, h70, r73, r74, r75⟩; exact ⟨_, rfl, h70, rx2, rx3, rx4⟩) fun w67 S68 h42 => ?_)
  refine o_z ?_
  refine ewp_seq (ewp_region (o_as rfl rfl (o_z ?_)))
  refine ewp_ret ?_
  replace h36 := h36.st S68
  replace h39 := h39.st S68
  replace h47 := h47.st S68
  obtain ⟨O76, S77, hz79, ha80, h78⟩ := Reg.shut (x := (⟨x0.packer, (x0.entries.set (x1 : Int).toNat ({ a49 with link := (⟨x2, x3, x4⟩ : RLk) } : REn)), x0.table⟩ : Reg)) (l0 := 2) (l1 := 3) (l2 := 4) (l3 := 5) (by decide) (by have q := h36; rw [← ((by simp : (x0.entries.set (x1 : Int).toNat ({ a49 with link := (⟨x2, x3, x4⟩ : RLk) } : REn)).length = x0.entries.length).trans rfl)] at q; exact q) h39 h42.relen h47
  obtain rfl := sm hm
  replace hB := ((hB.st S35).st S68).st S77
  obtain ⟨O', hS', hz, hl⟩ := hE.leave (fun q => if q = 2 then i0 else 0) rfl hB
  exact ret1v rfl (res_tmp rfl) ⟨O', hS', (Ob.leave h78 hz (hl 2 (by decide) (by decide)) hx0.2), (vErr (show inI64 0 from by decide))⟩
noncomputable def m_slices_Reverse_Lint_int (x0 : List Int) : Option (List Int) :=
  bnd (chkI ((x0.length : Int) - 1)) fun n4 => bnd (lop (ρ := (List Int)) (fun (s9 : (List Int) × Int × Int) => if s9.2.1 < s9.2.2 then (bnd (atI s9.1 s9.2.2) fun a31 => bnd (atI s9.1 s9.2.1) fun a43 => bnd (atI s9.1 s9.2.1) fun a55 => bnd (atI (s9.1.set (s9.2.1 : Int).toNat a31) s9.2.2) fun a69 => bnd (chkI (s9.2.1 + 1)) fun n83 => bnd (chkI (s9.2.2 - 1)) fun n86 => some (.next (((s9.1.set (s9.2.1 : Int).toNat a31).set (s9.2.2 : Int).toNat a43), n83, n86))) else (some (.brk (s9.1, s9.2.1, s9.2.2)))) (x0, 0, n4)) fun res7 => fin res7 fun (s93 : (List Int) × Int × Int) => some s93.1
theorem c_slices_Reverse_Lint_int {w : World} {O : Lab} {A0 : Option Addr} {m0 c0 i0 : Nat} {x0 : List Int} (hx0 : Rw i0 w O 3 (.slice A0 m0 c0) x0) {r : (List Int)} (hm : m_slices_Reverse_Lint_int x0 = some r) :
    Fn Try.prog 80 [(.slice A0 m0 c0)] w fun v w' => ∃ O', St (eT i0) w O w' O' ∧ Rw i0 w' O' 3 (.slice A0 m0 c0) r := by
 obtain ⟨O0, hE, hz0, hl2⟩ := ent1 (w := w) (O := O) hx0.2.2
 obtain rfl : m0 = x0.length := hx0.len.1
 have hx0' := Rw.leave hx0 hz0 hl2 (j := 2) (by decide)
 have hB : Bm w O0 w O0 := Bm.refl
 refine fn_enter Try.func80 rfl Try.ntmps80 rfl ?_
 unfold m_slices_Reverse_Lint_int at hm
 refine ewp_seq (ewp_region (o_mv rfl rfl (o_ln rfl rfl ?_)))
 have l3 : x0.length ≤ 9223372036854775807 := Nat.le_trans hx0'.len.2.1 hx0'.len.2.2
 have r2 : inI64 (x0.length : Int) := rngNat l3
 obtain ⟨n4, e5, hm⟩ := bs hm
 have r6 := (chkI_rng e5)
 refine o_sbE (he := e5) rfl rfl rfl ?_
 refine o_as rfl rfl (o_as rfl rfl (o_z ?_))
 obtain ⟨res7, hL8, hm⟩ := bs hm
 refine ewp_join (aft res7 (fun (s9 : (List Int) × Int × Int) (x10 : Unit) => [(0, (.slice A0 x0.length c0))]) (fun s9 x10 w' => ∃ O' : Lab, Bm w O0 w' O' ∧ Rw 2 w' O' 3 (.slice A0 x0.length c0) s9.1 ∧ inI64 s9.2.1 ∧ inI64 s9.2.2)) ?_ ?_
 ·
  refine ewp_block (ewp_lop (σ := (List Int) × Int × Int) (X := Unit) hL8 (fun (s9 : (List Int) × Int × Int) (x10 : Unit) => [(0, (.slice A0 x0.length c0)), (2, (.int .i64 s9.2.1)), (3, (.int .i64 s9.2.2))]) _ (fun s9 x10 w' => ∃ O' : Lab, Bm w O0 w' O' ∧ Rw 2 w' O' 3 (.slice A0 x0.length c0) s9.1 ∧ inI64 s9.2.1 ∧ inI64 s9.2.2) _ () ⟨O0, hB, hx0', (show inI64 (0) from by decide), r6⟩ ⟨rfl, rfl, rfl, trivial⟩ ?_)
  rintro s9 x10 w13 cc15 ⟨O14, hB, h26, r28, r29⟩ hf17 hret18 hbrk19
  refine ewp_seq (ewp_seq (ewp_region (o_mv rfl rfl (o_mv rfl rfl (o_ltS rfl rfl rfl (fun c30 => ?_) fun c30 => ?_)))))
  ·
   replace hf17 := ip hf17 c30
   refine o_z ?_
   refine ewp_true rfl (ewp_skip (ewp_seq (ewp_block (ewp_drawX [(13, [2])] O14 ?_))))
   refine x_pre (fuel := 5) [] [(0, true), (1, true), (4, true), (5, true), (6, true), (7, true), (8, true), (9, true), (10, true), (11, true), (12, true)] (by kernel_rfl) rfl ?_
   refine h_mv rfl rfl rfl (h_mv rfl rfl rfl (h_mv rfl rfl rfl (h_mv rfl rfl rfl ?_)))
   obtain ⟨a31, e32, hf17⟩ := bs hf17
   obtain ⟨p34, x33⟩ := atI_some' e32
   obtain ⟨b35, o36, ce37, hA38, hF41, hl39, hd40, rfl, r42⟩ := h26.elemF x33
   refine h_iaE (hA := hA38) (hj := (Int.toNat_of_nonneg p34).symm) (hlt := hl39) rfl rfl rfl rfl ?_
   refine h_ldC (hc := fun w' ⟨O', hq⟩ => cat0 (cellsAt_agree (hq.agree (i := 2) (by decide)) hF41 hd40)) rfl rfl rfl ?_
   refine h_mv rfl rfl rfl (h_mv rfl rfl rfl ?_)
   obtain ⟨a43, e44, hf17⟩ := bs hf17
   obtain ⟨p46, x45⟩ := atI_some' e44
   obtain ⟨b47, o48, ce49, hA50, hF53, hl51, hd52, rfl, r54⟩ := h26.elemF x45
   refine h_iaE (hA := hA50) (hj := (Int.toNat_of_nonneg p46).symm) (hlt := hl51) rfl rfl rfl rfl ?_
   refine h_ldC (hc := fun w' ⟨O', hq⟩ => cat0 (cellsAt_agree (hq.agree (i := 2) (by decide)) hF53 hd52)) rfl rfl rfl ?_
   obtain ⟨a55, e56, hf17⟩ := bs hf17
   obtain ⟨p58, x57⟩ := atI_some' e56
   obtain ⟨b59, o60, ce61, hA62, hF65, hl63, hd64, rfl, r66⟩ := h26.elemF x57
   refine h_iaE (hA := hA62) (hj := (Int.toNat_of_nonneg p58).symm) (hlt := hl63) rfl rfl rfl rfl ?_
   refine hwp_nilT ?_
   refine x_pre (fuel := 3) [2] [(2, true), (3, true)] (by kernel_rfl) rfl ?_
   refine h_mv rfl rfl rfl (h_mv rfl rfl rfl (hwp_nilT ?_))
   refine x_one (i := 13) (by kernel_rfl) rfl ?_
   refine l_setE rfl h26 (a := a31) (vInt r42) hA62 rfl rfl (lt_of_get x57) fun w67 S68 h26 => ?_
   have hZ := S68.lst [2] (fun _ h => by cases h; decide)
   refine x_go [] hZ (by kernel_rfl) ?_
   refine x_pre (fuel := 1) [] [(14, true)] (by kernel_rfl) rfl ?_
   obtain ⟨a69, e70, hf17⟩ := bs hf17
   obtain ⟨p72, x71⟩ := atI_some' e70
   obtain ⟨b73, o74, ce75, hA76, hF79, hl77, hd78, rfl, r80⟩ := h26.elemF x71
   refine h_iaE (hA := hA76) (hj := (Int.toNat_of_nonneg p72).symm) (hlt := hl77) rfl rfl rfl rfl ?_
   refine hwp_nilT ?_
   refine x_one (i := 15) (by kernel_rfl) rfl ?_
   refine l_setE rfl h26 (a := a43) (vInt r54) hA76 rfl rfl (lt_of_get x71) fun w81 S82 h26 => ?_
   refine x_end (by kernel_rfl) ?_
   refine x_nil (by kernel_rfl) ?_
   refine ewp_region (o_mv rfl rfl ?_)
   obtain ⟨n83, e84, hf17⟩ := bs hf17
   have r85 := (chkI_rng e84)
   refine o_adE (he := e84) rfl rfl rfl ?_
   refine o_mv rfl rfl ?_
   obtain ⟨n86, e87, hf17⟩ := bs hf17
   have r88 := (chkI_rng e87)
   refine o_sbE (he := e87) rfl rfl rfl ?_
   refine o_as rfl rfl (o_as rfl rfl (o_z ?_))
   obtain rfl := sm hf17
   refine (?_ : Exists _)
   replace hB := (hB.st S68).st S82
   exact ⟨_, (), rfl, ⟨rfl, rfl, rfl, trivial⟩, _, hB, h26, r85, r88⟩
  ·
   replace hf17 := im hf17 c30
   refine o_z ?_
   refine ewp_false rfl (ewp_exit ?_)
   obtain rfl := sm hf17
   refine (?_ : Exists _)
   exact ⟨_, (), hbrk19 _ rfl, ⟨rfl, trivial⟩, _, hB, h26, r28, r29⟩
 rintro l89 w90 ⟨s93, x94, rfl, hs92, O91, hB, h26, r28, r29⟩
 replace hm := fin_done hm
 obtain rfl := sm hm
 obtain ⟨O', hS', hz, hl⟩ := hE.leave (fun q => if q = 2 then i0 else 0) rfl hB
 exact ret0n rfl  ⟨O', hS', (Rw.leave h26 hz (hl 2 (by decide) (by decide)) hx0.2.2)⟩
noncomputable def m_registry_Registry_Path (x0 : Reg) (x1 : Int) : Option ((List Int) × Err) :=
  bnd (m_registry_Registry_has x0 x1) fun q3 => if q3 = true then bnd (lop (ρ := (List Int) × Err) (fun (s14 : Int × (List Int)) => bnd (atI x0.entries s14.1) fun a48 => if a48.link.parent < 0 then (bnd (m_slices_Reverse_Lint_int s14.2) fun q74 => some (.ret (q74, (⟨0⟩ : Err)))) else (bnd (appI 8 s14.2 [a48.link.op]) fun u89 => if (x0.entries.length : Int) < (u89.length : Int) then (some (.ret (([] : List Int), (⟨21⟩ : Err)))) else (some (.next (a48.link.parent, u89))))) (x1, ([] : List Int))) fun res12 => fin res12 fun (_ : Int × (List Int)) => none else some (([] : List Int), (⟨1⟩ : Err))
theorem c_registry_Registry_Path {w : World} {O : Lab} {p0 i0 : Nat} {x0 : Reg} (hx0 : Ob i0 w O (.pointer (some ⟨p0, 0, none⟩)) x0) {x1 : Int} (rx1 : inI64 x1) {r : (List Int) × Err} (hm : m_registry_Registry_Path x0 x1 = some r) :
    Fn Try.prog 65 [(.pointer (some ⟨p0, 0, none⟩)), (.int .i64 x1)] w fun v w' => ∃ O', St (eT i0) w O w' O' ∧ ∃ v0 v1 : Value, Ob i0 w' O' (.pointer (some ⟨p0, 0, none⟩)) x0 ∧ v = .tuple #[v0, v1] ∧ Vb w' (Fr 0 w' O') v0 r.1 ∧ Vb w' (Fr 0 w' O') v1 r.2 := by
 obtain ⟨O0, hE, hz0, hl2⟩ := ent1 (w := w) (O := O) hx0.2
 have hx0' := Ob.leave hx0 hz0 hl2 (j := 2) (by decide)
 have hB : Bm w O0 w O0 := Bm.refl
 refine fn_enter Try.func65 rfl Try.ntmps65 rfl ?_
 unfold m_registry_Registry_Path at hm
 refine ewp_seq (ewp_region (o_as rfl rfl (o_as rfl rfl (o_z ?_))))
 refine ewp_seq (ewp_block (ewp_seq (ewp_region (o_mv rfl rfl (o_pn rfl rfl ?_)))))
 refine o_as rfl rfl (o_z ?_)
 refine ewp_false rfl (ewp_seq (ewp_region (o_mv rfl rfl (o_mv rfl rfl ?_))))
 obtain ⟨q3, e4, hm⟩ := bs hm
 refine l_callM (O := O0) (c_registry_Registry_has hx0' rx1 e4) rfl rfl fun v9 w5 O6 S7 h8 => ?_
 obtain ⟨h10, h11⟩ := h8
 obtain rfl := h11.bool
 cases q3
 case false =>
  replace hm := iF hm
  refine o_nf rfl rfl (o_as rfl rfl (o_z ?_))
  refine ewp_true rfl (ewp_seq (ewp_region (o_miE rfl rfl ?_)))
  refine o_as rfl rfl (o_as rfl rfl (o_z ?_))
  refine ewp_ret ?_
  obtain rfl := sm hm
  replace hB := hB.st S7
  obtain ⟨O', hS', hz, hl⟩ := hE.leave (fun q => if q = 2 then i0 else 0) rfl hB
  exact ret2 rfl (res_tmp rfl) (res_tmp rfl) ⟨O', hS', _, _, (Ob.leave h10 hz (hl 2 (by decide) (by decide)) hx0.2), rfl, (Vb.mono (Vb.nil _ _) hz), (vErr (by decide))⟩
 replace hm := iT hm
 refine o_nt rfl rfl (o_as rfl rfl (o_z ?_))
 refine ewp_false rfl (ewp_skip (ewp_seq (ewp_region (o_as rfl rfl (o_z ?_)))))
 obtain ⟨res12, hL13, hm⟩ := bs hm
 refine ewp_join (aft res12 (fun (s14 : Int × (List Int)) (x15 : (Option Addr × Nat)) => []) (fun s14 x15 w' => False)) ?_ ?_
 ·
  refine ewp_block ?_
  replace hB := hB.st S7
  refine ewp_lop (σ := Int × (List Int)) (X := (Option Addr × Nat)) hL13 (fun (s14 : Int × (List Int)) (x15 : (Option Addr × Nat)) => [(0, (.pointer (some ⟨p0, 0, none⟩))), (1, (.int .i64 s14.1)), (6, (.slice x15.1 s14.2.length x15.2))]) _ (fun s14 x15 w' => ∃ O' : Lab, Bm w O0 w' O' ∧ Ob 2 w' O' (.pointer (some ⟨p0, 0, none⟩)) x0 ∧ Rw 8 w' O' 3 (.slice x15.1 s14.2.length x15.2) s14.2 ∧ inI64 s14.1) _ (none, 0) ⟨O6, hB, h10, (Rw.nil 8 (by decide)), rx1⟩ ⟨rfl, rfl, rfl, trivial⟩ ?_
  rintro s14 x15 w18 cc20 ⟨O19, hB, h10, h31, r30⟩ hf22 hret23 hbrk24
  refine ewp_block (ewp_seq (ewp_region (o_mv rfl rfl (o_nc rfl rfl ?_))))
  obtain ⟨O33, v37, v40, v45, S34, ha36, h35, h38, h41, h46⟩ := Reg.opn h10 2 3 4 5 (by decide)
  obtain ⟨p39, rfl⟩ := h38.ptr
  obtain ⟨A42, c43, rfl⟩ := h41.form
  obtain ⟨p47, rfl⟩ := h46.mptr
  refine o_fa rfl rfl (o_ld (hc := Blk.cell (i := 1) (h35.1) rfl) rfl rfl ?_)
  refine o_mv rfl rfl ?_
  obtain ⟨a48, e49, hf22⟩ := bs hf22
  obtain ⟨p51, x50⟩ := atI_some' e49
  obtain ⟨b52, o53, ce54, hA55, hl56, hd57, v59, rfl, h60, r63, r64, r65⟩ := h41.elem x50
  obtain ⟨A61, c62, rfl⟩ := h60.form
  refine o_iaE (hA := hA55) (hj := (Int.toNat_of_nonneg p51).symm) (hlt := hl56) rfl rfl rfl ?_
  refine o_fa rfl rfl (o_la (hl := rfl) (hc := (cellsAt_part 1 3 hd57)) rfl rfl ?_)
  refine l_alloc 6 O33 rfl fun g66 w67 O68 S69 h70 => ?_
  refine l_store h70 rfl rfl rfl (Nat.le_of_ble_eq_true rfl) (by first | exact allOne rfl | simp [Value.cells, Value.oneCell', errV_one]) fun w71 S72 h70 => ?_
  replace h70 : Lc 6 w71 O68 g66 135 [(.int .i64 a48.link.parent), (.int .i64 a48.link.op), (.int .i64 a48.link.cost)] := h70
  refine o_z ?_
  refine ewp_seq (ewp_seq (ewp_region (o_fa rfl rfl (o_ld (hc := Blk.cell (i := 0) (h70.1) rfl) rfl rfl ?_))))
  refine o_ltS rfl rfl rfl (fun c73 => ?_) fun c73 => ?_
  ·
   replace hf22 := ip hf22 c73
   refine o_z ?_
   refine ewp_true rfl (ewp_seq (ewp_region (o_mv rfl rfl ?_)))
   obtain ⟨q74, e75, hf22⟩ := bs hf22
   replace h31 := ((h31.st S34).st S69).st S72
   refine l_callM (O := O68) (c_slices_Reverse_Lint_int h31 e75) rfl rfl fun v80 w76 O77 S78 h81 => ?_
   refine o_z ?_
   refine ewp_seq (ewp_region (o_mv rfl rfl (o_as rfl rfl (o_as rfl rfl (o_z ?_)))))
   refine ewp_ret ?_
   obtain ⟨O82, S83, h81⟩ := h81.freeze
   replace h35 := (((h35.st S69).st S72).st S78).st S83
   replace h38 := (((h38.st S69).st S72).st S78).st S83
   replace h41 := (((h41.st S69).st S72).st S78).st S83
   replace h46 := (((h46.st S69).st S72).st S78).st S83
   obtain ⟨O84, S85, hz87, ha88, h86⟩ := Reg.shut (x := x0) (l0 := 2) (l1 := 3) (l2 := 4) (l3 := 5) (by decide) h35 h38 h41 h46
   obtain rfl := sm hf22
   obtain rfl := hret23 _ rfl
   obtain rfl := sm (fin_ret hm)
   replace hB := (((((hB.st S34).st S69).st S72).st S78).st S83).st S85
   obtain ⟨O', hS', hz, hl⟩ := hE.leave (fun q => if q = 2 then i0 else 0) rfl hB
   replace h81 := h81.st S85
   exact ret2 rfl (res_tmp rfl) (res_tmp rfl) ⟨O', hS', _, _, (Ob.leave h86 hz (hl 2 (by decide) (by decide)) hx0.2), rfl, (Vb.mono h81 hz), (vErr (show inI64 0 from by decide))⟩
  ·
   replace hf22 := im hf22 c73
   refine o_z ?_
   refine ewp_false rfl (ewp_skip (ewp_seq (ewp_region (o_mv rfl rfl (o_fa rfl rfl (o_ld (hc := Blk.cell (i := 1) (h70.1) rfl) rfl rfl ?_))))))
   obtain ⟨u89, e90, hf22⟩ := bs hf22
   obtain ⟨e90, e91, e92⟩ := appI_some e90
   replace h31 := ((h31.st S34).st S69).st S72
   refine l_append1 rfl (a := a48.link.op) h31 (vInt r64) (fun _ => rfl) rfl (by decide) (by decide) e91 e92 ⟨rfl, rfl⟩ fun g93 A94 c95 w96 O97 S98 h99 => ?_
   rw [← e90] at h99 ⊢
   refine o_as rfl rfl (o_z ?_)
   refine ewp_seq (ewp_seq (ewp_region (o_mv rfl rfl (o_ln rfl rfl ?_))))
   have l102 : u89.length ≤ 9223372036854775807 := Nat.le_trans h99.len.2.1 h99.len.2.2
   have r101 : inI64 (u89.length : Int) := rngNat l102
   refine o_mv rfl rfl (o_nc rfl rfl (o_fa rfl rfl ?_))
   replace h35 := ((h35.st S69).st S72).st S98
   refine o_ld (hc := Blk.cell (i := 1) (h35.1) rfl) rfl rfl ?_
   refine o_ln rfl rfl ?_
   replace h41 := ((h41.st S69).st S72).st S98
   have l104 : x0.entries.length ≤ 9223372036854775807 := Nat.le_trans h41.len.2.1 h41.len.2.2
   have r103 : inI64 (x0.entries.length : Int) := rngNat l104
   refine o_gtS rfl rfl rfl (fun c105 => ?_) fun c105 => ?_
   ·
    replace hf22 := ip hf22 c105
    refine o_z ?_
    refine ewp_true rfl (ewp_seq (ewp_region (o_miE rfl rfl ?_)))
    refine o_as rfl rfl (o_as rfl rfl (o_z ?_))
    refine ewp_ret ?_
    replace h38 := ((h38.st S69).st S72).st S98
    replace h46 := ((h46.st S69).st S72).st S98
    obtain ⟨O106, S107, hz109, ha110, h108⟩ := Reg.shut (x := x0) (l0 := 2) (l1 := 3) (l2 := 4) (l3 := 5) (by decide) h35 h38 h41 h46
    obtain rfl := sm hf22
    obtain rfl := hret23 _ rfl
    obtain rfl := sm (fin_ret hm)
    replace hB := ((((hB.st S34).st S69).st S72).st S98).st S107
    obtain ⟨O', hS', hz, hl⟩ := hE.leave (fun q => if q = 2 then i0 else 0) rfl hB
    exact ret2 rfl (res_tmp rfl) (res_tmp rfl) ⟨O', hS', _, _, (Ob.leave h108 hz (hl 2 (by decide) (by decide)) hx0.2), rfl, (Vb.mono (Vb.nil _ _) hz), (vErr (by decide))⟩
   ·
    replace hf22 := im hf22 c105
    refine o_z ?_
    refine ewp_false rfl (ewp_skip (ewp_region (o_fa rfl rfl ?_)))
    replace h70 := h70.st S98
    refine o_ld (hc := Blk.cell (i := 0) (h70.1) rfl) rfl rfl ?_
    refine o_as rfl rfl (o_z ?_)
    replace h38 := ((h38.st S69).st S72).st S98
    replace h46 := ((h46.st S69).st S72).st S98
    obtain ⟨O111, S112, hz114, ha115, h113⟩ := Reg.shut (x := x0) (l0 := 2) (l1 := 3) (l2 := 4) (l3 := 5) (by decide) h35 h38 h41 h46
    obtain rfl := sm hf22
    refine (?_ : Exists _)
    replace hB := ((((hB.st S34).st S69).st S72).st S98).st S112
    replace h99 := h99.st S112
    exact ⟨_, (A94, c95), rfl, ⟨rfl, rfl, rfl, trivial⟩, _, hB, h113, h99, r63⟩
 rintro l116 w117 ⟨s120, x121, _, _, hE⟩
 exact hE.elim
end
section
open Go Go.RowKit
attribute [local irreducible] ewp owp hwp hwq Ev Evg Fn retPost Res1
attribute [local irreducible] hwx loudX
structure QEn where
  key : Int
  tie : Int
  item : Int
  number : Int
instance : Rp QEn where
  isAgg := true
  size := 4
  R w F cs x := cs = [.int .i64 x.key, .int .i64 x.tie, .int .i64 x.item, .int .i64 x.number] ∧ inI64 x.key ∧ inI64 x.tie ∧ inI64 x.item ∧ inI64 x.number
  len := by rintro w F cs x ⟨rfl, h0, h1, h2, h3⟩; rfl
  one := by rintro w F cs x ⟨rfl, h0, h1, h2, h3⟩ u hu; simp at hu; rcases hu with rfl | rfl | rfl | rfl <;> first | rfl | exact Vb.one rfl (by assumption)
  agree := by rintro w w' F cs x ⟨rfl, h0, h1, h2, h3⟩ ha; exact ⟨rfl, h0, h1, h2, h3⟩
  mono := by rintro w F G cs x ⟨rfl, h0, h1, h2, h3⟩ ha; exact ⟨rfl, h0, h1, h2, h3⟩
structure Que where
  heap : List QEn
  next : Int
instance : Ow Que where
  R w F M v x := ∃ (g : Nat) (L : Lab) (c0 : Value), v = .pointer (some ⟨g, 0, none⟩) ∧ Blk w g 109 [c0, .int .i64 x.next] ∧ M g ∧ L g = 0 ∧ RwM w F (fun k => M k ∧ L k = 1) 140 c0 x.heap ∧ inI64 x.next
  agree := by rintro w w' F M v x ⟨g, L, c0, rfl, hb, hM, hL, h0, h1⟩ a1 a2; exact ⟨g, L, c0, rfl, hb.keep (a2 g hM), hM, hL, h0.agree a1 fun k hk => a2 k hk.1, h1⟩
  mono := by rintro w F M F' M' v x ⟨g, L, c0, rfl, hb, hM, hL, h0, h1⟩ a1 a2 a3; exact ⟨g, L, c0, rfl, hb, a2 g hM, hL, h0.mono a1 (fun k hk => ⟨a2 k hk.1, hk.2⟩) fun k hf hm => a3 k hf hm.1, h1⟩
instance : OwP Que := ⟨by rintro w F M v x ⟨g, L, c0, rfl, _⟩; exact ⟨g, rfl⟩⟩
theorem Que.opn {i : Nat} {w : World} {O : Lab} {p : Nat} {x : Que} (h : Ob i w O (.pointer (some ⟨p, 0, none⟩)) x) (l0 l1 : Nat) (hl : l0 ≠ 0 ∧ l1 ≠ 0) : ∃ (O' : Lab) (c0 : Value), St (eT i) w O w O' ∧ (∀ k, Fr i w O k → ∃ q, q ∈ [l0, l1] ∧ Fr q w O' k) ∧ Lc l0 w O' p 109 [c0, .int .i64 x.next] ∧ Rw l1 w O' 140 c0 x.heap ∧ inI64 x.next := by
  obtain ⟨⟨g, L, c0, hv, hb, hM, hL, h0, h1⟩, hi⟩ := h
  obtain rfl : p = g := by injection hv with hv; injection hv with hv; injection hv
  exact ⟨part O i L [l0, l1], c0, part_st hi, part_all (by simp), ⟨hb, (part_fr (j := 0) rfl p ⟨hM, hL⟩).2⟩, h0.rw (part_fr0 hi) (part_fr (j := 1) rfl) hl.2, h1⟩
theorem Que.shut {w : World} {O : Lab} {p : Nat} {x : Que} {l0 l1 : Nat} {c0 : Value} (hd : ¬ 0 ∈ [l0, l1] ∧ [l0, l1].idxOf l0 = 0 ∧ [l0, l1].idxOf l1 = 1) (hb : Lc l0 w O p 109 [c0, .int .i64 x.next]) (h0 : Rw l1 w O 140 c0 x.heap) (h1 : inI64 x.next) : ∃ O', St (· ∈ [l0, l1]) w O w O' ∧ (∀ k, Fr 0 w O k → Fr 0 w O' k) ∧ (∀ q, q ∈ [l0, l1] → ∀ k, Fr q w O k → Fr l0 w O' k) ∧ Ob l0 w O' (.pointer (some ⟨p, 0, none⟩)) x := by
  have hb1 : l0 ≠ 0 := fun e => hd.1 (by simp [e])
  have hg := whole_fr (i := l0) hd.2.1 (by simp) p ⟨hb.1.lt, hb.2⟩
  exact ⟨whole O l0 [l0, l1], whole_st, whole_fr0 hd.1, whole_all, ⟨p, fun k => [l0, l1].idxOf (O k), c0, rfl, hb.1, hg.1, hg.2, h0.m (whole_fr0 hd.1) (whole_fr hd.2.2 (by simp)) (fun k a b => frNe0 hb1 k a b.1), h1⟩, hb1⟩
noncomputable def m_pqueue_New  : Option (Option Que) :=
  some (some (⟨([] : List QEn), 0⟩ : Que))
theorem c_pqueue_New {w : World} {O : Lab} (j0 : Nat) (hj0 : j0 ≠ 0) {r : (Option Que)} (hm : m_pqueue_New  = some r) :
    Fn Try.prog 40 [] w fun v w' => ∃ O', St nT w O w' O' ∧ Obo j0 w' O' v r := by
 obtain ⟨O0, hE, hz0⟩ := ent0 (w := w) (O := O)
 have hB : Bm w O0 w O0 := Bm.refl
 refine fn_enter Try.func40 rfl Try.ntmps40 rfl ?_
 unfold m_pqueue_New at hm
 refine ewp_seq (ewp_region (o_as rfl rfl (o_z ?_)))
 refine ewp_seq (ewp_region (o_bd rfl rfl rfl ?_))
 refine l_box 2 O0 rfl rfl fun g1 w2 O3 S4 h5 => ?_
 replace h5 : Lc 2 w2 O3 g1 109 [(.slice none 0 0), (.int .i64 0)] := h5
 refine o_as rfl rfl (o_z ?_)
 refine ewp_ret ?_
 have h6 : Rw 3 w2 O3 140 (.slice none 0 0) ([] : List QEn) := Rw.nil 3 (by decide)
 obtain ⟨O8, S9, hz11, ha12, h10⟩ := Que.shut (x := (⟨([] : List QEn), 0⟩ : Que)) (l0 := 2) (l1 := 3) (by decide) h5 h6 (show inI64 0 from by decide)
 obtain rfl := sm hm
 replace hB := (hB.st S4).st S9
 obtain ⟨O', hS', hz, hl⟩ := hE.leave (fun q => if q = 2 then j0 else 0) rfl hB
 exact ret1v rfl (res_tmp rfl) ⟨O', hS', (Ob.leave h10 hz (hl 2 (by decide) (by decide)) hj0)⟩
noncomputable def m_pqueue_before (x0 : QEn) (x1 : QEn) : Option Bool :=
  if x0.key ≠ x1.key then (bnd (if x0.key < x1.key then (some true) else (some false) : Option Bool) fun y24 => some y24) else (if x0.tie ≠ x1.tie then (bnd (if x0.tie < x1.tie then (some true) else (some false) : Option Bool) fun y34 => some y34) else (bnd (if x0.number < x1.number then (some true) else (some false) : Option Bool) fun y43 => some y43))
theorem c_pqueue_before {w : World} {A : Nat → Prop} (hA : ∀ k, A k → k < w.heap.size) {vx0 : Value} {x0 : QEn} (hx0 : Vb w A vx0 x0) {vx1 : Value} {x1 : QEn} (hx1 : Vb w A vx1 x1) {r : Bool} (hm : m_pqueue_before x0 x1 = some r) :
    Fn Try.prog 99 [vx0, vx1] w fun v w' => Ext w w' ∧ Vb w' (upA A w w') v r := by
 obtain ⟨O, hB, hA0⟩ := enter hA
 replace hx0 := hx0.mono hA0
 obtain ⟨cs3, rfl, rfl, r4, r5, r6, r7⟩ := hx0
 replace hx1 := hx1.mono hA0
 obtain ⟨cs8, rfl, rfl, r9, r10, r11, r12⟩ := hx1
 refine fn_enter Try.func99 rfl Try.ntmps99 rfl ?_
 unfold m_pqueue_before at hm
 refine ewp_seq (ewp_region (l_box 2 O rfl rfl fun g13 w14 O15 S16 h17 => ?_))
 replace h17 : Lc 2 w14 O15 g13 140 [(.int .i64 x0.key), (.int .i64 x0.tie), (.int .i64 x0.item), (.int .i64 x0.number)] := h17
 refine l_box 3 O15 rfl rfl fun g18 w19 O20 S21 h22 => ?_
 replace h22 : Lc 3 w19 O20 g18 140 [(.int .i64 x1.key), (.int .i64 x1.tie), (.int .i64 x1.item), (.int .i64 x1.number)] := h22
 refine o_as rfl rfl (o_z ?_)
 refine ewp_seq (ewp_seq (ewp_region (o_fa rfl rfl ?_)))
 replace h17 := h17.st S21
 refine o_ld (hc := Blk.cell (i := 0) (h17.1) rfl) rfl rfl ?_
 refine o_fa rfl rfl (o_ld (hc := Blk.cell (i := 0) (h22.1) rfl) rfl rfl ?_)
 refine o_neS rfl rfl rfl (fun c23 => ?_) fun c23 => ?_
 ·
  replace hm := ip hm c23
  refine o_z ?_
  refine ewp_true rfl (ewp_seq ?_)
  obtain ⟨y24, hy25, hm⟩ := bs hm
  refine ewp_join (fun l' w' => ∃ (x27 : Unit) (O' : Lab), subs l' [(4, (.bool y24))] ∧ Bs w A w' O') ?_ ?_
  ·
   refine ewp_region (o_fa rfl rfl (o_ld (hc := Blk.cell (i := 0) (h17.1) rfl) rfl rfl ?_))
   refine o_fa rfl rfl (o_ld (hc := Blk.cell (i := 0) (h22.1) rfl) rfl rfl ?_)
   refine o_ltS rfl rfl rfl (fun c28 => ?_) fun c28 => ?_
   ·
    replace hy25 := ip hy25 c28
    refine o_as rfl rfl (o_z ?_)
    obtain rfl := sm hy25
    replace hB := (hB.st S16).st S21
    exact ⟨(), _, ⟨rfl, trivial⟩, hB⟩
   ·
    replace hy25 := im hy25 c28
    refine o_as rfl rfl (o_z ?_)
    obtain rfl := sm hy25
    replace hB := (hB.st S16).st S21
    exact ⟨(), _, ⟨rfl, trivial⟩, hB⟩
  replace hB := (hB.st S16).st S21
  rintro l29 w30 ⟨x27, O31, hs32, hB⟩
  refine ewp_sub _ hs32 ?_
  refine ewp_ret ?_
  obtain rfl := sm hm
  exact ret1v rfl (res_tmp rfl) ⟨hB.ext, vBool⟩
 ·
  replace hm := im hm c23
  refine o_z ?_
  refine ewp_false rfl (ewp_skip (ewp_seq (ewp_seq (ewp_region (o_fa rfl rfl (o_ld (hc := Blk.cell (i := 1) (h17.1) rfl) rfl rfl ?_))))))
  refine o_fa rfl rfl (o_ld (hc := Blk.cell (i := 1) (h22.1) rfl) rfl rfl ?_)
  refine o_neS rfl rfl rfl (fun c33 => ?_) fun c33 => ?_
  ·
   replace hm := ip hm c33
   refine o_z ?_
   refine ewp_true rfl (ewp_seq ?_)
   obtain ⟨y34, hy35, hm⟩ := bs hm
   refine ewp_join (fun l' w' => ∃ (x37 : Unit) (O' : Lab), subs l' [(4, (.bool y34))] ∧ Bs w A w' O') ?_ ?_
   ·
    refine ewp_region (o_fa rfl rfl (o_ld (hc := Blk.cell (i := 1) (h17.1) rfl) rfl rfl ?_))
    refine o_fa rfl rfl (o_ld (hc := Blk.cell (i := 1) (h22.1) rfl) rfl rfl ?_)
    refine o_ltS rfl rfl rfl (fun c38 => ?_) fun c38 => ?_
    ·
     replace hy35 := ip hy35 c38
     refine o_as rfl rfl (o_z ?_)
     obtain rfl := sm hy35
     replace hB := (hB.st S16).st S21
     exact ⟨(), _, ⟨rfl, trivial⟩, hB⟩
    ·
     replace hy35 := im hy35 c38
     refine o_as rfl rfl (o_z ?_)
     obtain rfl := sm hy35
     replace hB := (hB.st S16).st S21
     exact ⟨(), _, ⟨rfl, trivial⟩, hB⟩
   replace hB := (hB.st S16).st S21
   rintro l39 w40 ⟨x37, O41, hs42, hB⟩
   refine ewp_sub _ hs42 ?_
   refine ewp_ret ?_
   obtain rfl := sm hm
   exact ret1v rfl (res_tmp rfl) ⟨hB.ext, vBool⟩
  ·
   replace hm := im hm c33
   refine o_z ?_
   refine ewp_false rfl (ewp_skip (ewp_seq ?_))
   obtain ⟨y43, hy44, hm⟩ := bs hm
   refine ewp_join (fun l' w' => ∃ (x46 : Unit) (O' : Lab), subs l' [(4, (.bool y43))] ∧ Bs w A w' O') ?_ ?_
   ·
    refine ewp_region (o_fa rfl rfl (o_ld (hc := Blk.cell (i := 3) (h17.1) rfl) rfl rfl ?_))
    refine o_fa rfl rfl (o_ld (hc := Blk.cell (i := 3) (h22.1) rfl) rfl rfl ?_)
    refine o_ltS rfl rfl rfl (fun c47 => ?_) fun c47 => ?_
    ·
     replace hy44 := ip hy44 c47
     refine o_as rfl rfl (o_z ?_)
     obtain rfl := sm hy44
     replace hB := (hB.st S16).st S21
     exact ⟨(), _, ⟨rfl, trivial⟩, hB⟩
    ·
     replace hy44 := im hy44 c47
     refine o_as rfl rfl (o_z ?_)
     obtain rfl := sm hy44
     replace hB := (hB.st S16).st S21
     exact ⟨(), _, ⟨rfl, trivial⟩, hB⟩
   replace hB := (hB.st S16).st S21
   rintro l48 w49 ⟨x46, O50, hs51, hB⟩
   refine ewp_sub _ hs51 ?_
   refine ewp_ret ?_
   obtain rfl := sm hm
   exact ret1v rfl (res_tmp rfl) ⟨hB.ext, vBool⟩
noncomputable def m_pqueue_Queue_Len (x0 : Que) : Option Int :=
  some (x0.heap.length : Int)
theorem c_pqueue_Queue_Len {w : World} {O : Lab} {p0 i0 : Nat} {x0 : Que} (hx0 : Ob i0 w O (.pointer (some ⟨p0, 0, none⟩)) x0) {r : Int} (hm : m_pqueue_Queue_Len x0 = some r) :
    Fn Try.prog 61 [(.pointer (some ⟨p0, 0, none⟩))] w fun v w' => ∃ O', St (eT i0) w O w' O' ∧ Ob i0 w' O' (.pointer (some ⟨p0, 0, none⟩)) x0 ∧ Vb w' (Fr 0 w' O') v r := by
 obtain ⟨O0, hE, hz0, hl2⟩ := ent1 (w := w) (O := O) hx0.2
 have hx0' := Ob.leave hx0 hz0 hl2 (j := 2) (by decide)
 have hB : Bm w O0 w O0 := Bm.refl
 refine fn_enter Try.func61 rfl Try.ntmps61 rfl ?_
 unfold m_pqueue_Queue_Len at hm
 refine ewp_seq (ewp_region (o_as rfl rfl (o_z ?_)))
 refine ewp_seq (ewp_seq (ewp_region (o_mv rfl rfl (o_pn rfl rfl ?_))))
 refine o_z ?_
 refine ewp_false rfl (ewp_skip (ewp_seq (ewp_region (o_mv rfl rfl (o_nc rfl rfl ?_)))))
 obtain ⟨O2, v6, S3, ha5, h4, h7, r11⟩ := Que.opn hx0' 2 3 (by decide)
 obtain ⟨A8, c9, rfl⟩ := h7.form
 refine o_fa rfl rfl (o_ld (hc := Blk.cell (i := 0) (h4.1) rfl) rfl rfl ?_)
 refine o_ln rfl rfl ?_
 have l13 : x0.heap.length ≤ 9223372036854775807 := Nat.le_trans h7.len.2.1 h7.len.2.2
 have r12 : inI64 (x0.heap.length : Int) := rngNat l13
 refine o_as rfl rfl (o_z ?_)
 refine ewp_ret ?_
 obtain ⟨O14, S15, hz17, ha18, h16⟩ := Que.shut (x := x0) (l0 := 2) (l1 := 3) (by decide) h4 h7 r11
 obtain rfl := sm hm
 replace hB := (hB.st S3).st S15
 obtain ⟨O', hS', hz, hl⟩ := hE.leave (fun q => if q = 2 then i0 else 0) rfl hB
 exact ret1v rfl (res_tmp rfl) ⟨O', hS', (Ob.leave h16 hz (hl 2 (by decide) (by decide)) hx0.2), (vInt r12)⟩
noncomputable def m_pqueue_Queue_Peek (x0 : Que) : Option (Int × Int × Int × Err) :=
  if (x0.heap.length : Int) = 0 then (some (0, 0, 0, (⟨3⟩ : Err))) else (bnd (atI x0.heap 0) fun a20 => some (a20.key, a20.tie, a20.item, (⟨0⟩ : Err)))
theorem c_pqueue_Queue_Peek {w : World} {O : Lab} {p0 i0 : Nat} {x0 : Que} (hx0 : Ob i0 w O (.pointer (some ⟨p0, 0, none⟩)) x0) {r : Int × Int × Int × Err} (hm : m_pqueue_Queue_Peek x0 = some r) :
    Fn Try.prog 77 [(.pointer (some ⟨p0, 0, none⟩))] w fun v w' => ∃ O', St (eT i0) w O w' O' ∧ ∃ v0 v1 v2 v3 : Value, Ob i0 w' O' (.pointer (some ⟨p0, 0, none⟩)) x0 ∧ v = .tuple #[v0, v1, v2, v3] ∧ Vb w' (Fr 0 w' O') v0 r.1 ∧ Vb w' (Fr 0 w' O') v1 r.2.1 ∧ Vb w' (Fr 0 w' O') v2 r.2.2.1 ∧ Vb w' (Fr 0 w' O') v3 r.2.2.2 := by
 obtain ⟨O0, hE, hz0, hl2⟩ := ent1 (w := w) (O := O) hx0.2
 have hx0' := Ob.leave hx0 hz0 hl2 (j := 2) (by decide)
 have hB : Bm w O0 w O0 := Bm.refl
 refine fn_enter Try.func77 rfl Try.ntmps77 rfl ?_
 unfold m_pqueue_Queue_Peek at hm
 refine ewp_seq (ewp_region (o_as rfl rfl (o_as rfl rfl (o_as rfl rfl (o_as rfl rfl (o_z ?_))))))
 refine ewp_seq (ewp_seq (ewp_region (o_mv rfl rfl (o_pn rfl rfl ?_))))
 refine o_mv rfl rfl (owp_yes rfl rfl (o_mv rfl rfl (owp_yes rfl rfl (o_nc rfl rfl (owp_yes rfl rfl ?_)))))
 obtain ⟨O2, v6, S3, ha5, h4, h7, r11⟩ := Que.opn hx0' 2 3 (by decide)
 obtain ⟨A8, c9, rfl⟩ := h7.form
 refine o_fa rfl rfl (owp_yes rfl rfl (o_ld (hc := Blk.cell (i := 0) (h4.1) rfl) rfl rfl ?_))
 refine owp_yes rfl rfl (o_ln rfl rfl ?_)
 have l13 : x0.heap.length ≤ 9223372036854775807 := Nat.le_trans h7.len.2.1 h7.len.2.2
 have r12 : inI64 (x0.heap.length : Int) := rngNat l13
 refine owp_yes rfl rfl (o_eeS rfl rfl rfl (fun c14 => ?_) fun c14 => ?_)
 ·
  replace hm := ip hm c14
  refine o_pf rfl rfl rfl (o_z ?_)
  refine ewp_true rfl (ewp_seq (ewp_region (o_miE rfl rfl ?_)))
  refine o_as rfl rfl (o_as rfl rfl (o_as rfl rfl (o_as rfl rfl (o_z ?_))))
  refine ewp_ret ?_
  obtain ⟨O15, S16, hz18, ha19, h17⟩ := Que.shut (x := x0) (l0 := 2) (l1 := 3) (by decide) h4 h7 r11
  obtain rfl := sm hm
  replace hB := (hB.st S3).st S16
  obtain ⟨O', hS', hz, hl⟩ := hE.leave (fun q => if q = 2 then i0 else 0) rfl hB
  exact ret4 rfl (res_tmp rfl) (res_tmp rfl) (res_tmp rfl) (res_tmp rfl) ⟨O', hS', _, _, _, _, (Ob.leave h17 hz (hl 2 (by decide) (by decide)) hx0.2), rfl, (vInt (show inI64 (0) from by decide)), (vInt (show inI64 (0) from by decide)), (vInt (show inI64 (0) from by decide)), (vErr (by decide))⟩
 ·
  replace hm := im hm c14
  refine o_pf rfl rfl rfl (o_z ?_)
  refine ewp_false rfl (ewp_skip (ewp_seq (ewp_region (o_mv rfl rfl (o_nc rfl rfl (o_fa rfl rfl (o_ld (hc := Blk.cell (i := 0) (h4.1) rfl) rfl rfl ?_)))))))
  obtain ⟨a20, e21, hm⟩ := bs hm
  obtain ⟨p23, x22⟩ := atI_some' e21
  obtain ⟨b24, o25, ce26, hA27, hl28, hd29, rfl, r31, r32, r33, r34⟩ := h7.elem x22
  refine o_iaE (hA := hA27) (hj := (Int.toNat_of_nonneg p23).symm) (hlt := hl28) rfl rfl rfl ?_
  refine o_la (hl := rfl) (hc := hd29) rfl rfl ?_
  refine l_alloc 4 O2 rfl fun g35 w36 O37 S38 h39 => ?_
  refine l_store h39 rfl rfl rfl (Nat.le_of_ble_eq_true rfl) (by first | exact allOne rfl | simp [Value.cells, Value.oneCell', errV_one]) fun w40 S41 h39 => ?_
  replace h39 : Lc 4 w40 O37 g35 140 [(.int .i64 a20.key), (.int .i64 a20.tie), (.int .i64 a20.item), (.int .i64 a20.number)] := h39
  refine o_z ?_
  refine ewp_seq (ewp_draw (· = w40) [(0, true), (1, true), (2, true), (3, true), (4, true), (5, true), (6, true), (7, true), (8, true), (9, true)] (by kernel_rfl) rfl (by kernel_rfl) rfl ?_)
  refine h_fa rfl rfl rfl (h_ldA (hc := Blk.cell (i := 0) (h39.1) rfl) rfl rfl rfl ?_)
  refine h_fa rfl rfl rfl (h_ldA (hc := Blk.cell (i := 1) (h39.1) rfl) rfl rfl rfl ?_)
  refine h_fa rfl rfl rfl (h_ldA (hc := Blk.cell (i := 2) (h39.1) rfl) rfl rfl rfl ?_)
  refine h_as rfl rfl rfl (h_as rfl rfl rfl (h_as rfl rfl rfl (h_as rfl rfl rfl (h_z ?_))))
  refine ewp_ret ?_
  replace h4 := (h4.st S38).st S41
  replace h7 := (h7.st S38).st S41
  obtain ⟨O42, S43, hz45, ha46, h44⟩ := Que.shut (x := x0) (l0 := 2) (l1 := 3) (by decide) h4 h7 r11
  obtain rfl := sm hm
  replace hB := (((hB.st S3).st S38).st S41).st S43
  obtain ⟨O', hS', hz, hl⟩ := hE.leave (fun q => if q = 2 then i0 else 0) rfl hB
  exact ret4 rfl (res_tmp rfl) (res_tmp rfl) (res_tmp rfl) (res_tmp rfl) ⟨O', hS', _, _, _, _, (Ob.leave h44 hz (hl 2 (by decide) (by decide)) hx0.2), rfl, (vInt r31), (vInt r32), (vInt r33), (vErr (show inI64 0 from by decide))⟩
noncomputable def m_pqueue_Queue_up (x0 : Que) (x1 : Int) : Option Que :=
  bnd (lop (ρ := Que) (fun (s5 : Int × Que) => if 0 < s5.1 then (bnd (chkI (s5.1 - 1)) fun n23 => bnd (quoI n23 2) fun n26 => bnd (atI s5.2.heap s5.1) fun a39 => bnd (atI s5.2.heap n26) fun a54 => bnd (m_pqueue_before a39 a54) fun q69 => if q69 = true then bnd (atI s5.2.heap n26) fun a81 => bnd (atI s5.2.heap s5.1) fun a96 => bnd (atI s5.2.heap s5.1) fun a111 => bnd (atI (s5.2.heap.set (s5.1 : Int).toNat a81) n26) fun a128 => some (.next (n26, (⟨((s5.2.heap.set (s5.1 : Int).toNat a81).set (n26 : Int).toNat a96), s5.2.next⟩ : Que))) else some (.ret s5.2)) else (some (.brk (s5.1, s5.2)))) (x1, x0)) fun res3 => fin res3 fun (s154 : Int × Que) => some s154.2
theorem c_pqueue_Queue_up {w : World} {O : Lab} {p0 i0 : Nat} {x0 : Que} (hx0 : Ob i0 w O (.pointer (some ⟨p0, 0, none⟩)) x0) {x1 : Int} (rx1 : inI64 x1) {r : Que} (hm : m_pqueue_Queue_up x0 x1 = some r) :
    Fn Try.prog 76 [(.pointer (some ⟨p0, 0, none⟩)), (.int .i64 x1)] w fun v w' => ∃ O', St (eT i0) w O w' O' ∧ Ob i0 w' O' (.pointer (some ⟨p0, 0, none⟩)) r := by
 obtain ⟨O0, hE, hz0, hl2⟩ := ent1 (w := w) (O := O) hx0.2
 have hx0' := Ob.leave hx0 hz0 hl2 (j := 2) (by decide)
 have hB : Bm w O0 w O0 := Bm.refl
 refine fn_enter Try.func76 rfl Try.ntmps76 rfl ?_
 unfold m_pqueue_Queue_up at hm
 obtain ⟨res3, hL4, hm⟩ := bs hm
 refine ewp_join (aft res3 (fun (s5 : Int × Que) (x6 : Unit) => []) (fun s5 x6 w' => ∃ O' : Lab, Bm w O0 w' O' ∧ Ob 2 w' O' (.pointer (some ⟨p0, 0, none⟩)) s5.2 ∧ inI64 s5.1)) ?_ ?_
 ·
  refine ewp_block (ewp_lop (σ := Int × Que) (X := Unit) hL4 (fun (s5 : Int × Que) (x6 : Unit) => [(0, (.pointer (some ⟨p0, 0, none⟩))), (1, (.int .i64 s5.1))]) _ (fun s5 x6 w' => ∃ O' : Lab, Bm w O0 w' O' ∧ Ob 2 w' O' (.pointer (some ⟨p0, 0, none⟩)) s5.2 ∧ inI64 s5.1) _ () ⟨O0, hB, hx0', rx1⟩ ⟨rfl, rfl, trivial⟩ ?_)
  rintro s5 x6 w9 cc11 ⟨O10, hB, h21, r20⟩ hf13 hret14 hbrk15
  refine ewp_seq (ewp_seq (ewp_region (o_mv rfl rfl (o_gtS rfl rfl rfl (fun c22 => ?_) fun c22 => ?_))))
  ·
   replace hf13 := ip hf13 c22
   refine o_z ?_
   refine ewp_true rfl (ewp_skip (ewp_block (ewp_seq (ewp_region (o_mv rfl rfl ?_)))))
   obtain ⟨n23, e24, hf13⟩ := bs hf13
   have r25 := (chkI_rng e24)
   refine o_sbE (he := e24) rfl rfl rfl ?_
   obtain ⟨n26, e27, hf13⟩ := bs hf13
   have r28 := quoI_in e27 r25
   refine o_quE (he := e27) (hr := r25) rfl rfl rfl ?_
   refine o_as rfl rfl (o_z ?_)
   refine ewp_seq (ewp_seq ?_)
   obtain ⟨O29, v33, S30, ha32, h31, h34, r38⟩ := Que.opn h21 2 3 (by decide)
   obtain ⟨A35, c36, rfl⟩ := h34.form
   refine ewp_drawX [(14, [])] O29 ?_
   refine x_pre (fuel := 2) [] [(0, true), (1, true), (2, true), (3, true), (4, true), (5, true), (6, true), (7, true), (8, true), (9, true), (10, true), (11, true), (12, true), (13, true)] (by kernel_rfl) rfl ?_
   refine h_mv rfl rfl rfl (h_nc rfl rfl rfl (h_fa rfl rfl rfl (h_ldC (hc := fun w' ⟨O', hq⟩ => Blk.cell (i := 0) ((h31.st hq (by decide)).1) rfl) rfl rfl rfl ?_)))
   refine h_mv rfl rfl rfl ?_
   obtain ⟨a39, e40, hf13⟩ := bs hf13
   obtain ⟨p42, x41⟩ := atI_some' e40
   obtain ⟨b43, o44, ce45, hA46, hF49, hl47, hd48, rfl, r50, r51, r52, r53⟩ := h34.elemF x41
   refine h_iaE (hA := hA46) (hj := (Int.toNat_of_nonneg p42).symm) (hlt := hl47) rfl rfl rfl rfl ?_
   refine h_laB (hl := rfl) (hb := fun w' ⟨O', hq⟩ => (cellsAt_agree (hq.agree (i := 3) (by decide)) hF49 hd48)) rfl rfl rfl ?_
   refine h_mv rfl rfl rfl (h_nc rfl rfl rfl (h_fa rfl rfl rfl (h_ldC (hc := fun w' ⟨O', hq⟩ => Blk.cell (i := 0) ((h31.st hq (by decide)).1) rfl) rfl rfl rfl ?_)))
   refine h_mv rfl rfl rfl ?_
   obtain ⟨a54, e55, hf13⟩ := bs hf13
   obtain ⟨p57, x56⟩ := atI_some' e55
   obtain ⟨b58, o59, ce60, hA61, hF64, hl62, hd63, rfl, r65, r66, r67, r68⟩ := h34.elemF x56
   refine h_iaE (hA := hA61) (hj := (Int.toNat_of_nonneg p57).symm) (hlt := hl62) rfl rfl rfl rfl ?_
   refine h_laB (hl := rfl) (hb := fun w' ⟨O', hq⟩ => (cellsAt_agree (hq.agree (i := 3) (by decide)) hF64 hd63)) rfl rfl rfl ?_
   refine hwp_nilT ?_
   refine x_one (i := 14) (by kernel_rfl) rfl ?_
   obtain ⟨q69, e70, hf13⟩ := bs hf13
   refine l_callA (O := O29) (A := All w9) (R := fun w' F v => Vb w' F v q69) (c_pqueue_before (fun _ h => h) (Vb.mono (F := Fr 0 w9 O29) (Vb.ofAgg (cs := [(.int .i64 a39.key), (.int .i64 a39.tie), (.int .i64 a39.item), (.int .i64 a39.number)]) (x := a39) rfl ⟨rfl, r50, r51, r52, r53⟩) Fr.lt) (Vb.mono (F := Fr 0 w9 O29) (Vb.ofAgg (cs := [(.int .i64 a54.key), (.int .i64 a54.tie), (.int .i64 a54.item), (.int .i64 a54.number)]) (x := a54) rfl ⟨rfl, r65, r66, r67, r68⟩) Fr.lt) e70) rfl rfl fun v75 w71 O72 S73 h74 => ?_
   obtain rfl := h74.bool
   have hZ := S73.lst [] (fun _ h => h.elim)
   cases q69
   case false =>
    replace hf13 := iF hf13
    refine x_go [] hZ (by kernel_rfl) ?_
    refine x_pre (fuel := 0) [] [(15, true)] (by kernel_rfl) rfl ?_
    refine h_nf rfl rfl rfl (hwp_nilT ?_)
    refine x_nil (by kernel_rfl) ?_
    refine ewp_true rfl (ewp_ret ?_)
    replace h31 := h31.st S73
    replace h34 := h34.st S73
    obtain ⟨O76, S77, hz79, ha80, h78⟩ := Que.shut (x := s5.2) (l0 := 2) (l1 := 3) (by decide) h31 h34 r38
    obtain rfl := sm hf13
    obtain rfl := hret14 _ rfl
    obtain rfl := sm (fin_ret hm)
    replace hB := ((hB.st S30).st S73).st S77
    obtain ⟨O', hS', hz, hl⟩ := hE.leave (fun q => if q = 2 then i0 else 0) rfl hB
    exact ret0 rfl  ⟨O', hS', (Ob.leave h78 hz (hl 2 (by decide) (by decide)) hx0.2)⟩
   replace hf13 := iT hf13
   refine x_go [] hZ (by kernel_rfl) ?_
   refine x_pre (fuel := 0) [] [(15, true)] (by kernel_rfl) rfl ?_
   refine h_nt rfl rfl rfl (hwp_nilT ?_)
   refine x_nil (by kernel_rfl) ?_
   refine ewp_false rfl (ewp_skip (ewp_seq (ewp_drawX [(25, [3])] O72 ?_)))
   refine x_pre (fuel := 4) [] [(0, true), (1, true), (2, true), (3, true), (4, true), (5, true), (6, true), (7, true), (8, true), (10, true), (11, true), (12, true), (13, true), (14, true), (15, true), (16, true), (17, true), (18, true), (19, true), (20, true), (21, true), (22, true), (23, true), (24, true)] (by kernel_rfl) rfl ?_
   refine h_mv rfl rfl rfl (h_nc rfl rfl rfl (h_fa rfl rfl rfl ?_))
   replace h31 := h31.st S73
   refine h_ldC (hc := fun w' ⟨O', hq⟩ => Blk.cell (i := 0) ((h31.st hq (by decide)).1) rfl) rfl rfl rfl ?_
   refine h_mv rfl rfl rfl (h_mv rfl rfl rfl (h_nc rfl rfl rfl (h_fa rfl rfl rfl (h_ldC (hc := fun w' ⟨O', hq⟩ => Blk.cell (i := 0) ((h31.st hq (by decide)).1) rfl) rfl rfl rfl ?_))))
   refine h_mv rfl rfl rfl (h_nc rfl rfl rfl (h_fa rfl rfl rfl (h_ldC (hc := fun w' ⟨O', hq⟩ => Blk.cell (i := 0) ((h31.st hq (by decide)).1) rfl) rfl rfl rfl ?_)))
   refine h_mv rfl rfl rfl ?_
   obtain ⟨a81, e82, hf13⟩ := bs hf13
   obtain ⟨p84, x83⟩ := atI_some' e82
   replace h34 := h34.st S73
   obtain ⟨b85, o86, ce87, hA88, hF91, hl89, hd90, rfl, r92, r93, r94, r95⟩ := h34.elemF x83
   refine h_iaE (hA := hA88) (hj := (Int.toNat_of_nonneg p84).symm) (hlt := hl89) rfl rfl rfl rfl ?_
   refine h_laB (hl := rfl) (hb := fun w' ⟨O', hq⟩ => (cellsAt_agree (hq.agree (i := 3) (by decide)) hF91 hd90)) rfl rfl rfl ?_
   refine h_mv rfl rfl rfl (h_nc rfl rfl rfl (h_fa rfl rfl rfl (h_ldC (hc := fun w' ⟨O', hq⟩ => Blk.cell (i := 0) ((h31.st hq (by decide)).1) rfl) rfl rfl rfl ?_)))
   refine h_mv rfl rfl rfl ?_
   obtain ⟨a96, e97, hf13⟩ := bs hf13
   obtain ⟨p99, x98⟩ := atI_some' e97
   obtain ⟨b100, o101, ce102, hA103, hF106, hl104, hd105, rfl, r107, r108, r109, r110⟩ := h34.elemF x98
   refine h_iaE (hA := hA103) (hj := (Int.toNat_of_nonneg p99).symm) (hlt := hl104) rfl rfl rfl rfl ?_
   refine h_laB (hl := rfl) (hb := fun w' ⟨O', hq⟩ => (cellsAt_agree (hq.agree (i := 3) (by decide)) hF106 hd105)) rfl rfl rfl ?_
   obtain ⟨a111, e112, hf13⟩ := bs hf13
   obtain ⟨p114, x113⟩ := atI_some' e112
   obtain ⟨b115, o116, ce117, hA118, hF121, hl119, hd120, rfl, r122, r123, r124, r125⟩ := h34.elemF x113
   refine h_iaE (hA := hA118) (hj := (Int.toNat_of_nonneg p114).symm) (hlt := hl119) rfl rfl rfl rfl ?_
   refine hwp_nilT ?_
   refine x_pre (fuel := 3) [3] [(9, true)] (by kernel_rfl) rfl ?_
   refine h_mv rfl rfl rfl (hwp_nilT ?_)
   refine x_one (i := 25) (by kernel_rfl) rfl ?_
   refine l_setE rfl h34 (a := a81) (Vb.ofAgg (cs := [(.int .i64 a81.key), (.int .i64 a81.tie), (.int .i64 a81.item), (.int .i64 a81.number)]) (x := a81) rfl ⟨rfl, r92, r93, r94, r95⟩) hA118 rfl rfl (lt_of_get x113) fun w126 S127 h34 => ?_
   have hZ := S127.lst [3] (fun _ h => by cases h; decide)
   refine x_go [] hZ (by kernel_rfl) ?_
   refine x_pre (fuel := 1) [] [(26, true)] (by kernel_rfl) rfl ?_
   obtain ⟨a128, e129, hf13⟩ := bs hf13
   obtain ⟨p131, x130⟩ := atI_some' e129
   obtain ⟨b132, o133, ce134, hA135, hF138, hl136, hd137, rfl, r139, r140, r141, r142⟩ := h34.elemF x130
   refine h_iaE (hA := hA135) (hj := (Int.toNat_of_nonneg p131).symm) (hlt := hl136) rfl rfl rfl rfl ?_
   refine hwp_nilT ?_
   refine x_one (i := 27) (by kernel_rfl) rfl ?_
   refine l_setE rfl h34 (a := a96) (Vb.ofAgg (cs := [(.int .i64 a96.key), (.int .i64 a96.tie), (.int .i64 a96.item), (.int .i64 a96.number)]) (x := a96) rfl ⟨rfl, r107, r108, r109, r110⟩) hA135 rfl rfl (lt_of_get x130) fun w143 S144 h34 => ?_
   refine x_end (by kernel_rfl) ?_
   refine x_nil (by kernel_rfl) ?_
   refine ewp_region (o_mv rfl rfl (o_as rfl rfl (o_z ?_)))
   replace h31 := (h31.st S127).st S144
   obtain ⟨O145, S146, hz148, ha149, h147⟩ := Que.shut (x := (⟨((s5.2.heap.set (s5.1 : Int).toNat a81).set (n26 : Int).toNat a96), s5.2.next⟩ : Que)) (l0 := 2) (l1 := 3) (by decide) (by have q := h31; rw [← ((by simp : ((s5.2.heap.set (s5.1 : Int).toNat a81).set (n26 : Int).toNat a96).length = (s5.2.heap.set (s5.1 : Int).toNat a81).length).trans ((by simp : (s5.2.heap.set (s5.1 : Int).toNat a81).length = s5.2.heap.length).trans rfl))] at q; exact q) h34.relen r38
   obtain rfl := sm hf13
   refine (?_ : Exists _)
   replace hB := ((((hB.st S30).st S73).st S127).st S144).st S146
   exact ⟨_, (), rfl, ⟨rfl, rfl, trivial⟩, _, hB, h147, r28⟩
  ·
   replace hf13 := im hf13 c22
   refine o_z ?_
   refine ewp_false rfl (ewp_exit ?_)
   obtain rfl := sm hf13
   refine (?_ : Exists _)
   exact ⟨_, (), hbrk15 _ rfl, trivial, _, hB, h21, r20⟩
 rintro l150 w151 ⟨s154, x155, rfl, hs153, O152, hB, h21, r20⟩
 replace hm := fin_done hm
 obtain rfl := sm hm
 obtain ⟨O', hS', hz, hl⟩ := hE.leave (fun q => if q = 2 then i0 else 0) rfl hB
 exact ret0n rfl  ⟨O', hS', (Ob.leave h21 hz (hl 2 (by decide) (by decide)) hx0.2)⟩
noncomputable def m_pqueue_Queue_down (x0 : Que) (x1 : Int) : Option Que :=
  bnd (lop (ρ := Que) (fun (s5 : Int × Que) => bnd (chkI (2 * s5.1)) fun n22 => bnd (chkI (n22 + 1)) fun n25 => if (s5.2.heap.length : Int) ≤ n25 then (some (.ret s5.2)) else (bnd (bnd (bnd (chkI (n25 + 1)) fun n55 => if n55 < (s5.2.heap.length : Int) then (bnd (chkI (n25 + 1)) fun n61 => bnd (atI s5.2.heap n61) fun a64 => bnd (atI s5.2.heap n25) fun a79 => bnd (m_pqueue_before a64 a79) fun q94 => if q94 = true then some true else some false) else (some false) : Option Bool) fun y51 => if y51 = true then (bnd (chkI (n25 + 1)) fun n121 => some n121) else (some n25) : Option Int) fun y46 => bnd (atI s5.2.heap y46) fun a138 => bnd (atI s5.2.heap s5.1) fun a153 => bnd (m_pqueue_before a138 a153) fun q168 => if q168 = true then bnd (atI s5.2.heap y46) fun a180 => bnd (atI s5.2.heap s5.1) fun a195 => bnd (atI s5.2.heap s5.1) fun a210 => bnd (atI (s5.2.heap.set (s5.1 : Int).toNat a180) y46) fun a227 => some (.next (y46, (⟨((s5.2.heap.set (s5.1 : Int).toNat a180).set (y46 : Int).toNat a195), s5.2.next⟩ : Que))) else some (.ret s5.2))) (x1, x0)) fun res3 => fin res3 fun (_ : Int × Que) => none
theorem c_pqueue_Queue_down {w : World} {O : Lab} {p0 i0 : Nat} {x0 : Que} (hx0 : Ob i0 w O (.pointer (some ⟨p0, 0, none⟩)) x0) {x1 : Int} (rx1 : inI64 x1) {r : Que} (hm : m_pqueue_Queue_down x0 x1 = some r) :
    Fn Try.prog 78 [(.pointer (some ⟨p0, 0, none⟩)), (.int .i64 x1)] w fun v w' => ∃ O', St (eT i0) w O w' O' ∧ Ob i0 w' O' (.pointer (some ⟨p0, 0, none⟩)) r := by
 obtain ⟨O0, hE, hz0, hl2⟩ := ent1 (w := w) (O := O) hx0.2
 have hx0' := Ob.leave hx0 hz0 hl2 (j := 2) (by decide)
 have hB : Bm w O0 w O0 := Bm.refl
 refine fn_enter Try.func78 rfl Try.ntmps78 rfl ?_
 unfold m_pqueue_Queue_down at hm
 obtain ⟨res3, hL4, hm⟩ := bs hm
 refine ewp_join (aft res3 (fun (s5 : Int × Que) (x6 : Unit) => []) (fun s5 x6 w' => False)) ?_ ?_
 ·
  refine ewp_block (ewp_lop (σ := Int × Que) (X := Unit) hL4 (fun (s5 : Int × Que) (x6 : Unit) => [(0, (.pointer (some ⟨p0, 0, none⟩))), (1, (.int .i64 s5.1))]) _ (fun s5 x6 w' => ∃ O' : Lab, Bm w O0 w' O' ∧ Ob 2 w' O' (.pointer (some ⟨p0, 0, none⟩)) s5.2 ∧ inI64 s5.1) _ () ⟨O0, hB, hx0', rx1⟩ ⟨rfl, rfl, trivial⟩ ?_)
  rintro s5 x6 w9 cc11 ⟨O10, hB, h21, r20⟩ hf13 hret14 hbrk15
  refine ewp_block (ewp_seq (ewp_region (o_mv rfl rfl ?_)))
  obtain ⟨n22, e23, hf13⟩ := bs hf13
  have r24 := (chkI_rng e23)
  refine o_mlE (he := e23) rfl rfl rfl ?_
  obtain ⟨n25, e26, hf13⟩ := bs hf13
  have r27 := (chkI_rng e26)
  refine o_adE (he := e26) rfl rfl rfl ?_
  refine o_as rfl rfl (o_z ?_)
  refine ewp_seq (ewp_seq (ewp_region (o_mv rfl rfl (o_mv rfl rfl (o_nc rfl rfl ?_)))))
  obtain ⟨O28, v32, S29, ha31, h30, h33, r37⟩ := Que.opn h21 2 3 (by decide)
  obtain ⟨A34, c35, rfl⟩ := h33.form
  refine o_fa rfl rfl (o_ld (hc := Blk.cell (i := 0) (h30.1) rfl) rfl rfl ?_)
  refine o_ln rfl rfl ?_
  have l39 : s5.2.heap.length ≤ 9223372036854775807 := Nat.le_trans h33.len.2.1 h33.len.2.2
  have r38 : inI64 (s5.2.heap.length : Int) := rngNat l39
  refine o_geS rfl rfl rfl (fun c40 => ?_) fun c40 => ?_
  ·
   replace hf13 := ip hf13 c40
   refine o_z ?_
   refine ewp_true rfl (ewp_ret ?_)
   obtain ⟨O41, S42, hz44, ha45, h43⟩ := Que.shut (x := s5.2) (l0 := 2) (l1 := 3) (by decide) h30 h33 r37
   obtain rfl := sm hf13
   obtain rfl := hret14 _ rfl
   obtain rfl := sm (fin_ret hm)
   replace hB := (hB.st S29).st S42
   obtain ⟨O', hS', hz, hl⟩ := hE.leave (fun q => if q = 2 then i0 else 0) rfl hB
   exact ret0 rfl  ⟨O', hS', (Ob.leave h43 hz (hl 2 (by decide) (by decide)) hx0.2)⟩
  ·
   replace hf13 := im hf13 c40
   refine o_z ?_
   refine ewp_false rfl (ewp_skip (ewp_seq ?_))
   obtain ⟨y46, hy47, hf13⟩ := bs hf13
   refine ewp_join (fun l' w' => ∃ (x49 : Unit) (O' : Lab), subs l' [(0, (.pointer (some ⟨p0, 0, none⟩))), (1, (.int .i64 s5.1)), (4, (.int .i64 y46))] ∧ Bm w O0 w' O' ∧ Ob 2 w' O' (.pointer (some ⟨p0, 0, none⟩)) s5.2 ∧ inI64 y46) ?_ ?_
   ·
    refine ewp_seq ?_
    obtain ⟨y51, hy52, hy47⟩ := bs hy47
    refine ewp_join (fun l' w' => ∃ (x54 : Unit) (O' : Lab), subs l' [(0, (.pointer (some ⟨p0, 0, none⟩))), (1, (.int .i64 s5.1)), (4, (.int .i64 n25)), (40, (.bool y51))] ∧ Bm w O0 w' O' ∧ Ob 2 w' O' (.pointer (some ⟨p0, 0, none⟩)) s5.2) ?_ ?_
    ·
     refine ewp_drawX [(24, [])] O28 ?_
     refine x_pre (fuel := 2) [] [(0, true), (1, true), (2, true), (3, true), (4, true), (5, true), (6, true), (7, true), (8, true), (9, true), (10, true), (11, true), (12, true), (13, true), (14, true), (15, true), (16, true), (17, true), (18, true), (19, true), (20, true), (21, true), (22, true), (23, true)] (by kernel_rfl) rfl ?_
     refine h_mv rfl rfl rfl ?_
     obtain ⟨n55, e56, hy52⟩ := bs hy52
     have r57 := (chkI_rng e56)
     refine h_adE (he := e56) rfl rfl rfl rfl ?_
     refine h_mv rfl rfl rfl (h_nc rfl rfl rfl (h_fa rfl rfl rfl (h_ldC (hc := fun w' ⟨O', hq⟩ => Blk.cell (i := 0) ((h30.st hq (by decide)).1) rfl) rfl rfl rfl ?_)))
     refine h_ln rfl rfl rfl ?_
     have l59 : s5.2.heap.length ≤ 9223372036854775807 := Nat.le_trans h33.len.2.1 h33.len.2.2
     have r58 : inI64 (s5.2.heap.length : Int) := rngNat l59
     refine h_ltS rfl rfl rfl rfl (fun c60 => ?_) fun c60 => ?_
     ·
      replace hy52 := ip hy52 c60
      refine h_mv rfl rfl rfl (hwp_o rfl (hwq_yes rfl rfl (g_mv rfl rfl (hwp_o rfl (hwq_yes rfl rfl (g_nc rfl rfl (hwp_o rfl (hwq_yes rfl rfl (g_fa rfl rfl (hwp_o rfl (hwq_yes rfl rfl (g_ldC (hc := fun w' ⟨O', hq⟩ => Blk.cell (i := 0) ((h30.st hq (by decide)).1) rfl) rfl rfl ?_))))))))))))
      refine hwp_o rfl (hwq_yes rfl rfl (g_mv rfl rfl (hwp_o rfl (hwq_yes rfl rfl ?_))))
      obtain ⟨n61, e62, hy52⟩ := bs hy52
      have r63 := (chkI_rng e62)
      refine g_adE (he := e62) rfl rfl rfl ?_
      refine hwp_o rfl (hwq_yes rfl rfl ?_)
      obtain ⟨a64, e65, hy52⟩ := bs hy52
      obtain ⟨p67, x66⟩ := atI_some' e65
      obtain ⟨b68, o69, ce70, hA71, hF74, hl72, hd73, rfl, r75, r76, r77, r78⟩ := h33.elemF x66
      refine g_iaE (hA := hA71) (hj := (Int.toNat_of_nonneg p67).symm) (hlt := hl72) rfl rfl rfl ?_
      refine hwp_o rfl (hwq_yes rfl rfl (g_laB (hl := rfl) (hb := fun w' ⟨O', hq⟩ => (cellsAt_agree (hq.agree (i := 3) (by decide)) hF74 hd73)) rfl rfl ?_))
      refine hwp_o rfl (hwq_yes rfl rfl (g_mv rfl rfl (hwp_o rfl (hwq_yes rfl rfl (g_nc rfl rfl (hwp_o rfl (hwq_yes rfl rfl (g_fa rfl rfl (hwp_o rfl (hwq_yes rfl rfl (g_ldC (hc := fun w' ⟨O', hq⟩ => Blk.cell (i := 0) ((h30.st hq (by decide)).1) rfl) rfl rfl ?_)))))))))))
      refine hwp_o rfl (hwq_yes rfl rfl (g_mv rfl rfl (hwp_o rfl (hwq_yes rfl rfl ?_))))
      obtain ⟨a79, e80, hy52⟩ := bs hy52
      obtain ⟨p82, x81⟩ := atI_some' e80
      obtain ⟨b83, o84, ce85, hA86, hF89, hl87, hd88, rfl, r90, r91, r92, r93⟩ := h33.elemF x81
      refine g_iaE (hA := hA86) (hj := (Int.toNat_of_nonneg p82).symm) (hlt := hl87) rfl rfl rfl ?_
      refine hwp_o rfl (hwq_yes rfl rfl (g_laB (hl := rfl) (hb := fun w' ⟨O', hq⟩ => (cellsAt_agree (hq.agree (i := 3) (by decide)) hF89 hd88)) rfl rfl ?_))
      refine hwp_nilT ?_
      refine x_one (i := 24) (by kernel_rfl) rfl ?_
      refine owp_yes rfl rfl ?_
      obtain ⟨q94, e95, hy52⟩ := bs hy52
      refine l_callA (O := O28) (A := All w9) (R := fun w' F v => Vb w' F v q94) (c_pqueue_before (fun _ h => h) (Vb.mono (F := Fr 0 w9 O28) (Vb.ofAgg (cs := [(.int .i64 a64.key), (.int .i64 a64.tie), (.int .i64 a64.item), (.int .i64 a64.number)]) (x := a64) rfl ⟨rfl, r75, r76, r77, r78⟩) Fr.lt) (Vb.mono (F := Fr 0 w9 O28) (Vb.ofAgg (cs := [(.int .i64 a79.key), (.int .i64 a79.tie), (.int .i64 a79.item), (.int .i64 a79.number)]) (x := a79) rfl ⟨rfl, r90, r91, r92, r93⟩) Fr.lt) e95) rfl rfl fun v100 w96 O97 S98 h99 => ?_
      obtain rfl := h99.bool
      have hZ := S98.lst [] (fun _ h => h.elim)
      cases q94
      case false =>
       replace hy52 := iF hy52
       refine x_go [] hZ (by kernel_rfl) ?_
       refine x_pre (fuel := 0) [] [(25, true)] (by kernel_rfl) rfl ?_
       refine h_pt rfl rfl rfl rfl (hwp_nilT ?_)
       refine x_nil (by kernel_rfl) ?_
       replace h30 := h30.st S98
       replace h33 := h33.st S98
       obtain ⟨O101, S102, hz104, ha105, h103⟩ := Que.shut (x := s5.2) (l0 := 2) (l1 := 3) (by decide) h30 h33 r37
       obtain rfl := sm hy52
       replace hB := ((hB.st S29).st S98).st S102
       exact ⟨(), _, ⟨rfl, rfl, rfl, rfl, trivial⟩, hB, h103⟩
      replace hy52 := iT hy52
      refine x_go [] hZ (by kernel_rfl) ?_
      refine x_pre (fuel := 0) [] [(25, true)] (by kernel_rfl) rfl ?_
      refine h_pt rfl rfl rfl rfl (hwp_nilT ?_)
      refine x_nil (by kernel_rfl) ?_
      replace h30 := h30.st S98
      replace h33 := h33.st S98
      obtain ⟨O106, S107, hz109, ha110, h108⟩ := Que.shut (x := s5.2) (l0 := 2) (l1 := 3) (by decide) h30 h33 r37
      obtain rfl := sm hy52
      replace hB := ((hB.st S29).st S98).st S107
      exact ⟨(), _, ⟨rfl, rfl, rfl, rfl, trivial⟩, hB, h108⟩
     ·
      replace hy52 := im hy52 c60
      refine h_mv rfl rfl rfl (h_no rfl rfl rfl rfl rfl (h_no rfl rfl rfl rfl rfl (h_no rfl rfl rfl rfl rfl (h_no rfl rfl rfl rfl rfl (h_no rfl rfl rfl rfl rfl (h_no rfl rfl rfl rfl rfl (h_no rfl rfl rfl rfl rfl (h_no rfl rfl rfl rfl rfl (h_no rfl rfl rfl rfl rfl (h_no rfl rfl rfl rfl rfl (h_no rfl rfl rfl rfl rfl (h_no rfl rfl rfl rfl rfl (h_no rfl rfl rfl rfl rfl (h_no rfl rfl rfl rfl rfl ?_))))))))))))))
      refine h_no rfl rfl rfl rfl rfl (hwp_nilT ?_)
      refine x_one (i := 24) (by kernel_rfl) rfl ?_
      refine owp_no rfl rfl rfl rfl (x_go [] ((St.refl nT _ _).lst [] (fun _ h => h.elim)) (by kernel_rfl) ?_)
      refine x_pre (fuel := 0) [] [(25, true)] (by kernel_rfl) rfl ?_
      refine h_pf rfl rfl rfl rfl (hwp_nilT ?_)
      refine x_nil (by kernel_rfl) ?_
      obtain ⟨O111, S112, hz114, ha115, h113⟩ := Que.shut (x := s5.2) (l0 := 2) (l1 := 3) (by decide) h30 h33 r37
      obtain rfl := sm hy52
      replace hB := (hB.st S29).st S112
      exact ⟨(), _, ⟨rfl, rfl, rfl, rfl, trivial⟩, hB, h113⟩
    replace hB := hB.st S29
    rintro l116 w117 ⟨x54, O118, hs119, hB, h99⟩
    refine ewp_sub _ hs119 ?_
    refine ewp_cond rfl (fun c120 => ?_) (fun c120 => ?_)
    ·
     replace hy47 := ip hy47 c120
     refine ewp_region (o_mv rfl rfl ?_)
     obtain ⟨n121, e122, hy47⟩ := bs hy47
     have r123 := (chkI_rng e122)
     refine o_adE (he := e122) rfl rfl rfl ?_
     refine o_as rfl rfl (o_z ?_)
     obtain rfl := sm hy47
     exact ⟨(), _, ⟨rfl, rfl, rfl, trivial⟩, hB, h99, r123⟩
    ·
     replace hy47 := im' hy47 c120
     refine ewp_skip ?_
     obtain rfl := sm hy47
     exact ⟨(), _, ⟨rfl, rfl, rfl, trivial⟩, hB, h99, r27⟩
   replace hB := hB.st S29
   rintro l124 w125 ⟨x49, O126, hs127, hB, h94, r50⟩
   refine ewp_sub _ hs127 ?_
   refine ewp_seq (ewp_seq ?_)
   obtain ⟨O128, v132, S129, ha131, h130, h133, r137⟩ := Que.opn h94 2 3 (by decide)
   obtain ⟨A134, c135, rfl⟩ := h133.form
   refine ewp_drawX [(14, [])] O128 ?_
   refine x_pre (fuel := 2) [] [(0, true), (1, true), (2, true), (3, true), (4, true), (5, true), (6, true), (7, true), (8, true), (9, true), (10, true), (11, true), (12, true), (13, true)] (by kernel_rfl) rfl ?_
   refine h_mv rfl rfl rfl (h_nc rfl rfl rfl (h_fa rfl rfl rfl (h_ldC (hc := fun w' ⟨O', hq⟩ => Blk.cell (i := 0) ((h130.st hq (by decide)).1) rfl) rfl rfl rfl ?_)))
   refine h_mv rfl rfl rfl ?_
   obtain ⟨a138, e139, hf13⟩ := bs hf13
   obtain ⟨p141, x140⟩ := atI_some' e139
   obtain ⟨b142, o143, ce144, hA145, hF148, hl146, hd147, rfl, r149, r150, r151, r152⟩ := h133.elemF x140
   refine h_iaE (hA := hA145) (hj := (Int.toNat_of_nonneg p141).symm) (hlt := hl146) rfl rfl rfl rfl ?_
   refine h_laB (hl := rfl) (hb := fun w' ⟨O', hq⟩ => (cellsAt_agree (hq.agree (i := 3) (by decide)) hF148 hd147)) rfl rfl rfl ?_
   refine h_mv rfl rfl rfl (h_nc rfl rfl rfl (h_fa rfl rfl rfl (h_ldC (hc := fun w' ⟨O', hq⟩ => Blk.cell (i := 0) ((h130.st hq (by decide)).1) rfl) rfl rfl rfl ?_)))
   refine h_mv rfl rfl rfl ?_
   obtain ⟨a153, e154, hf13⟩ := bs hf13
   obtain ⟨p156, x155⟩ := atI_some' e154
   obtain ⟨b157, o158, ce159, hA160, hF163, hl161, hd162, rfl, r164, r165, r166, r167⟩ := h133.elemF x155
   refine h_iaE (hA := hA160) (hj := (Int.toNat_of_nonneg p156).symm) (hlt := hl161) rfl rfl rfl rfl ?_
   refine h_laB (hl := rfl) (hb := fun w' ⟨O', hq⟩ => (cellsAt_agree (hq.agree (i := 3) (by decide)) hF163 hd162)) rfl rfl rfl ?_
   refine hwp_nilT ?_
   refine x_one (i := 14) (by kernel_rfl) rfl ?_
   obtain ⟨q168, e169, hf13⟩ := bs hf13
   refine l_callA (O := O128) (A := All w125) (R := fun w' F v => Vb w' F v q168) (c_pqueue_before (fun _ h => h) (Vb.mono (F := Fr 0 w125 O128) (Vb.ofAgg (cs := [(.int .i64 a138.key), (.int .i64 a138.tie), (.int .i64 a138.item), (.int .i64 a138.number)]) (x := a138) rfl ⟨rfl, r149, r150, r151, r152⟩) Fr.lt) (Vb.mono (F := Fr 0 w125 O128) (Vb.ofAgg (cs := [(.int .i64 a153.key), (.int .i64 a153.tie), (.int .i64 a153.item), (.int .i64 a153.number)]) (x := a153) rfl ⟨rfl, r164, r165, r166, r167⟩) Fr.lt) e169) rfl rfl fun v174 w170 O171 S172 h173 => ?_
   obtain rfl := h173.bool
   have hZ := S172.lst [] (fun _ h => h.elim)
   cases q168
   case false =>
    replace hf13 := iF hf13
    refine x_go [] hZ (by kernel_rfl) ?_
    refine x_pre (fuel := 0) [] [(15, true)] (by kernel_rfl) rfl ?_
    refine h_nf rfl rfl rfl (hwp_nilT ?_)
    refine x_nil (by kernel_rfl) ?_
    refine ewp_true rfl (ewp_ret ?_)
    replace h130 := h130.st S172
    replace h133 := h133.st S172
    obtain ⟨O175, S176, hz178, ha179, h177⟩ := Que.shut (x := s5.2) (l0 := 2) (l1 := 3) (by decide) h130 h133 r137
    obtain rfl := sm hf13
    obtain rfl := hret14 _ rfl
    obtain rfl := sm (fin_ret hm)
    replace hB := ((hB.st S129).st S172).st S176
    obtain ⟨O', hS', hz, hl⟩ := hE.leave (fun q => if q = 2 then i0 else 0) rfl hB
    exact ret0 rfl  ⟨O', hS', (Ob.leave h177 hz (hl 2 (by decide) (by decide)) hx0.2)⟩
   replace hf13 := iT hf13
   refine x_go [] hZ (by kernel_rfl) ?_
   refine x_pre (fuel := 0) [] [(15, true)] (by kernel_rfl) rfl ?_
   refine h_nt rfl rfl rfl (hwp_nilT ?_)
   refine x_nil (by kernel_rfl) ?_
   refine ewp_false rfl (ewp_skip (ewp_seq (ewp_drawX [(25, [3])] O171 ?_)))
   refine x_pre (fuel := 4) [] [(0, true), (1, true), (2, true), (3, true), (4, true), (5, true), (6, true), (7, true), (8, true), (10, true), (11, true), (12, true), (13, true), (14, true), (15, true), (16, true), (17, true), (18, true), (19, true), (20, true), (21, true), (22, true), (23, true), (24, true)] (by kernel_rfl) rfl ?_
   refine h_mv rfl rfl rfl (h_nc rfl rfl rfl (h_fa rfl rfl rfl ?_))
   replace h130 := h130.st S172
   refine h_ldC (hc := fun w' ⟨O', hq⟩ => Blk.cell (i := 0) ((h130.st hq (by decide)).1) rfl) rfl rfl rfl ?_
   refine h_mv rfl rfl rfl (h_mv rfl rfl rfl (h_nc rfl rfl rfl (h_fa rfl rfl rfl (h_ldC (hc := fun w' ⟨O', hq⟩ => Blk.cell (i := 0) ((h130.st hq (by decide)).1) rfl) rfl rfl rfl ?_))))
   refine h_mv rfl rfl rfl (h_nc rfl rfl rfl (h_fa rfl rfl rfl (h_ldC (hc := fun w' ⟨O', hq⟩ => Blk.cell (i := 0) ((h130.st hq (by decide)).1) rfl) rfl rfl rfl ?_)))
   refine h_mv rfl rfl rfl ?_
   obtain ⟨a180, e181, hf13⟩ := bs hf13
   obtain ⟨p183, x182⟩ := atI_some' e181
   replace h133 := h133.st S172
   obtain ⟨b184, o185, ce186, hA187, hF190, hl188, hd189, rfl, r191, r192, r193, r194⟩ := h133.elemF x182
   refine h_iaE (hA := hA187) (hj := (Int.toNat_of_nonneg p183).symm) (hlt := hl188) rfl rfl rfl rfl ?_
   refine h_laB (hl := rfl) (hb := fun w' ⟨O', hq⟩ => (cellsAt_agree (hq.agree (i := 3) (by decide)) hF190 hd189)) rfl rfl rfl ?_
   refine h_mv rfl rfl rfl (h_nc rfl rfl rfl (h_fa rfl rfl rfl (h_ldC (hc := fun w' ⟨O', hq⟩ => Blk.cell (i := 0) ((h130.st hq (by decide)).1) rfl) rfl rfl rfl ?_)))
   refine h_mv rfl rfl rfl ?_
   obtain ⟨a195, e196, hf13⟩ := bs hf13
   obtain ⟨p198, x197⟩ := atI_some' e196
   obtain ⟨b199, o200, ce201, hA202, hF205, hl203, hd204, rfl, r206, r207, r208, r209⟩ := h133.elemF x197
   refine h_iaE (hA := hA202) (hj := (Int.toNat_of_nonneg p198).symm) (hlt := hl203) rfl rfl rfl rfl ?_
   refine h_laB (hl := rfl) (hb := fun w' ⟨O', hq⟩ => (cellsAt_agree (hq.agree (i := 3) (by decide)) hF205 hd204)) rfl rfl rfl ?_
   obtain ⟨a210, e211, hf13⟩ := bs hf13
   obtain ⟨p213, x212⟩ := atI_some' e211
   obtain ⟨b214, o215, ce216, hA217, hF220, hl218, hd219, rfl, r221, r222, r223, r224⟩ := h133.elemF x212
   refine h_iaE (hA := hA217) (hj := (Int.toNat_of_nonneg p213).symm) (hlt := hl218) rfl rfl rfl rfl ?_
   refine hwp_nilT ?_
   refine x_pre (fuel := 3) [3] [(9, true)] (by kernel_rfl) rfl ?_
   refine h_mv rfl rfl rfl (hwp_nilT ?_)
   refine x_one (i := 25) (by kernel_rfl) rfl ?_
   refine l_setE rfl h133 (a := a180) (Vb.ofAgg (cs := [(.int .i64 a180.key), (.int .i64 a180.tie), (.int .i64 a180.item), (.int .i64 a180.number)]) (x := a180) rfl ⟨rfl, r191, r192, r193, r194⟩) hA217 rfl rfl (lt_of_get x212) fun w225 S226 h133 => ?_
   have hZ := S226.lst [3] (fun _ h => by cases h; decide)
   refine x_go [] hZ (by kernel_rfl) ?_
   refine x_pre (fuel := 1) [] [(26, true)] (by kernel_rfl) rfl ?_
   obtain ⟨a227, e228, hf13⟩ := bs hf13
   obtain ⟨p230, x229⟩ := atI_some' e228
   obtain ⟨b231, o232, ce233, hA234, hF237, hl235, hd236, rfl, r238, r239, r240, r241⟩ := h133.elemF x229
   refine h_iaE (hA := hA234) (hj := (Int.toNat_of_nonneg p230).symm) (hlt := hl235) rfl rfl rfl rfl ?_
   refine hwp_nilT ?_
   refine x_one (i := 27) (by kernel_rfl) rfl ?_
   refine l_setE rfl h133 (a := a195) (Vb.ofAgg (cs := [(.int .i64 a195.key), (.int .i64 a195.tie), (.int .i64 a195.item), (.int .i64 a195.number)]) (x := a195) rfl ⟨rfl, r206, r207, r208, r209⟩) hA234 rfl rfl (lt_of_get x229) fun w242 S243 h133 => ?_
   refine x_end (by kernel_rfl) ?_
   refine x_nil (by kernel_rfl) ?_
   refine ewp_region (o_mv rfl rfl (o_as rfl rfl (o_z ?_)))
   replace h130 := (h130.st S226).st S243
   obtain ⟨O244, S245, hz247, ha248, h246⟩ := Que.shut (x := (⟨((s5.2.heap.set (s5.1 : Int).toNat a180).set (y46 : Int).toNat a195), s5.2.next⟩ : Que)) (l0 := 2) (l1 := 3) (by decide) (by have q := h130; rw [← ((by simp : ((s5.2.heap.set (s5.1 : Int).toNat a180).set (y46 : Int).toNat a195).length = (s5.2.heap.set (s5.1 : Int).toNat a180).length).trans ((by simp : (s5.2.heap.set (s5.1 : Int).toNat a180).length = s5.2.heap.length).trans rfl))] at q; exact q) h133.relen r137
   obtain rfl := sm hf13
   refine (?_ : Exists _)
   replace hB := ((((hB.st S129).st S172).st S226).st S243).st S245
   exact ⟨_, (), rfl, ⟨rfl, rfl, trivial⟩, _, hB, h246, r50⟩
 rintro l249 w250 ⟨s253, x254, _, _, hE⟩
 exact hE.elim
noncomputable def m_pqueue_Queue_Push (x0 : Que) (x1 : Int) (x2 : Int) (x3 : Int) : Option (Err × Que) :=
  if 65536 ≤ (x0.heap.length : Int) then (some ((⟨10⟩ : Err), x0)) else (bnd (appI 32 x0.heap [(⟨x1, x2, x3, x0.next⟩ : QEn)]) fun u29 => bnd (chkI (x0.next + 1)) fun n42 => bnd (chkI ((u29.length : Int) - 1)) fun n49 => bnd (m_pqueue_Queue_up (⟨u29, n42⟩ : Que) n49) fun q57 => some ((⟨0⟩ : Err), q57))
theorem c_pqueue_Queue_Push {w : World} {O : Lab} {p0 i0 : Nat} {x0 : Que} (hx0 : Ob i0 w O (.pointer (some ⟨p0, 0, none⟩)) x0) {x1 : Int} (rx1 : inI64 x1) {x2 : Int} (rx2 : inI64 x2) {x3 : Int} (rx3 : inI64 x3) {r : Err × Que} (hm : m_pqueue_Queue_Push x0 x1 x2 x3 = some r) :
    Fn Try.prog 60 [(.pointer (some ⟨p0, 0, none⟩)), (.int .i64 x1), (.int .i64 x2), (.int .i64 x3)] w fun v w' => ∃ O', St (eT i0) w O w' O' ∧ Ob i0 w' O' (.pointer (some ⟨p0, 0, none⟩)) r.2 ∧ Vb w' (Fr 0 w' O') v r.1 := by
 obtain ⟨O0, hE, hz0, hl2⟩ := ent1 (w := w) (O := O) hx0.2
 have hx0' := Ob.leave hx0 hz0 hl2 (j := 2) (by decide)
 have hB : Bm w O0 w O0 := Bm.refl
 refine fn_enter Try.func60 rfl Try.ntmps60 rfl ?_
 unfold m_pqueue_Queue_Push at hm
 refine ewp_seq (ewp_region (o_as rfl rfl (o_z ?_)))
 refine ewp_seq (ewp_seq (ewp_region (o_mv rfl rfl (o_pn rfl rfl ?_))))
 refine o_z ?_
 refine ewp_false rfl (ewp_skip (ewp_seq (ewp_seq (ewp_region (o_mv rfl rfl (o_nc rfl rfl ?_))))))
 obtain ⟨O5, v9, S6, ha8, h7, h10, r14⟩ := Que.opn hx0' 2 3 (by decide)
 obtain ⟨A11, c12, rfl⟩ := h10.form
 refine o_fa rfl rfl (o_ld (hc := Blk.cell (i := 0) (h7.1) rfl) rfl rfl ?_)
 refine o_ln rfl rfl ?_
 have l16 : x0.heap.length ≤ 9223372036854775807 := Nat.le_trans h10.len.2.1 h10.len.2.2
 have r15 : inI64 (x0.heap.length : Int) := rngNat l16
 refine o_geS rfl rfl rfl (fun c17 => ?_) fun c17 => ?_
 ·
  replace hm := ip hm c17
  refine o_z ?_
  refine ewp_true rfl (ewp_seq (ewp_region (o_miE rfl rfl ?_)))
  refine o_as rfl rfl (o_z ?_)
  refine ewp_ret ?_
  obtain ⟨O18, S19, hz21, ha22, h20⟩ := Que.shut (x := x0) (l0 := 2) (l1 := 3) (by decide) h7 h10 r14
  obtain rfl := sm hm
  replace hB := (hB.st S6).st S19
  obtain ⟨O', hS', hz, hl⟩ := hE.leave (fun q => if q = 2 then i0 else 0) rfl hB
  exact ret1v rfl (res_tmp rfl) ⟨O', hS', (Ob.leave h20 hz (hl 2 (by decide) (by decide)) hx0.2), (vErr (by decide))⟩
 ·
  replace hm := im hm c17
  refine o_z ?_
  refine ewp_false rfl (ewp_skip (ewp_seq (ewp_drawX [(13, []), (14, [3])] O5 ?_)))
  refine x_pre (fuel := 6) [] [(1, true), (2, true), (3, true), (4, true), (5, true), (6, true), (7, true), (8, true), (9, true), (10, true), (11, true), (12, true)] (by kernel_rfl) rfl ?_
  refine h_mv rfl rfl rfl (h_nc rfl rfl rfl (h_fa rfl rfl rfl (h_ldC (hc := fun w' ⟨O', hq⟩ => Blk.cell (i := 0) ((h7.st hq (by decide)).1) rfl) rfl rfl rfl ?_)))
  refine h_mv rfl rfl rfl (h_mv rfl rfl rfl (h_mv rfl rfl rfl (h_mv rfl rfl rfl (h_nc rfl rfl rfl (h_fa rfl rfl rfl (h_ldC (hc := fun w' ⟨O', hq⟩ => Blk.cell (i := 1) ((h7.st hq (by decide)).1) rfl) rfl rfl rfl ?_))))))
  refine h_bd rfl rfl rfl rfl ?_
  refine hwp_nilT ?_
  refine x_pre (fuel := 5) [3] [(0, true)] (by kernel_rfl) rfl ?_
  refine h_mv rfl rfl rfl (hwp_nilT ?_)
  refine x_one (i := 13) (by kernel_rfl) rfl ?_
  refine l_bslice 4 (by decide) O5 (xs := ([(⟨x1, x2, x3, x0.next⟩ : QEn)] : List QEn)) rfl rfl rfl rfl ⟨(Vb.ofAgg (cs := [(.int .i64 x1), (.int .i64 x2), (.int .i64 x3), (.int .i64 x0.next)]) (x := (⟨x1, x2, x3, x0.next⟩ : QEn)) rfl ⟨rfl, rx1, rx2, rx3, r14⟩), trivial⟩ (by decide) (by decide) rfl fun g23 w24 O25 S26 h27 => ?_
  have hZ := S26.lst [] (fun _ h => h.elim)
  refine x_go [(14, [3])] hZ (by kernel_rfl) ?_
  refine x_one (i := 14) (by kernel_rfl) rfl ?_
  obtain ⟨u29, e30, hm⟩ := bs hm
  obtain ⟨e30, e31, e32⟩ := appI_some e30
  replace h10 := h10.st S26
  refine l_append rfl h10 (h27.rd) rfl rfl (by decide) e31 e32 rfl fun A33 c34 w35 O36 S37 h38 => ?_
  rw [← e30] at h38 ⊢
  have hZ := S37.lst [3] (fun _ h => by cases h; decide)
  refine x_go [] hZ (by kernel_rfl) ?_
  refine x_pre (fuel := 1) [] [(15, true), (16, true)] (by kernel_rfl) rfl ?_
  refine h_nc rfl rfl rfl (h_fa rfl rfl rfl (hwp_nilT ?_))
  refine x_one (i := 17) (by kernel_rfl) rfl ?_
  replace h7 := (h7.st S26).st S37
  refine l_store h7 rfl rfl rfl (Nat.le_of_ble_eq_true rfl) (by first | exact allOne rfl | simp [Value.cells, Value.oneCell', errV_one]) fun w40 S41 h7 => ?_
  replace h7 : Lc 2 w40 O36 p0 109 [(.slice A33 u29.length c34), (.int .i64 x0.next)] := h7
  refine x_end (by kernel_rfl) ?_
  refine x_nil (by kernel_rfl) ?_
  refine ewp_seq (ewp_region (o_mv rfl rfl (o_nc rfl rfl (o_fa rfl rfl (o_ld (hc := Blk.cell (i := 1) (h7.1) rfl) rfl rfl ?_)))))
  obtain ⟨n42, e43, hm⟩ := bs hm
  have r44 := (chkI_rng e43)
  refine o_adE (he := e43) rfl rfl rfl ?_
  refine o_nc rfl rfl (o_fa rfl rfl (l_store h7 rfl rfl rfl (Nat.le_of_ble_eq_true rfl) (by first | exact allOne rfl | simp [Value.cells, Value.oneCell', errV_one]) fun w45 S46 h7 => ?_))
  replace h7 : Lc 2 w45 O36 p0 109 [(.slice A33 u29.length c34), (.int .i64 n42)] := h7
  refine o_z ?_
  refine ewp_seq (ewp_region (o_mv rfl rfl (o_mv rfl rfl (o_nc rfl rfl (o_fa rfl rfl (o_ld (hc := Blk.cell (i := 0) (h7.1) rfl) rfl rfl ?_))))))
  refine o_ln rfl rfl ?_
  replace h38 := (h38.st S41).st S46
  have l48 : u29.length ≤ 9223372036854775807 := Nat.le_trans h38.len.2.1 h38.len.2.2
  have r47 : inI64 (u29.length : Int) := rngNat l48
  obtain ⟨n49, e50, hm⟩ := bs hm
  have r51 := (chkI_rng e50)
  refine o_sbE (he := e50) rfl rfl rfl ?_
  obtain ⟨O52, S53, hz55, ha56, h54⟩ := Que.shut (x := (⟨u29, n42⟩ : Que)) (l0 := 2) (l1 := 3) (by decide) h7 h38 r44
  obtain ⟨q57, e58, hm⟩ := bs hm
  refine l_callM (O := O52) (c_pqueue_Queue_up h54 r51 e58) rfl rfl fun v63 w59 O60 S61 h64 => ?_
  refine o_z ?_
  refine ewp_seq (ewp_region (o_as rfl rfl (o_z ?_)))
  refine ewp_ret ?_
  obtain rfl := sm hm
  replace hB := ((((((hB.st S6).st S26).st S37).st S41).st S46).st S53).st S61
  obtain ⟨O', hS', hz, hl⟩ := hE.leave (fun q => if q = 2 then i0 else 0) rfl hB
  exact ret1v rfl (res_tmp rfl) ⟨O', hS', (Ob.leave h64 hz (hl 2 (by decide) (by decide)) hx0.2), (vErr (show inI64 0 from by decide))⟩
noncomputable def m_pqueue_Queue_Pop (x0 : Que) : Option (Int × Int × Int × Err × Que) :=
  bnd (m_pqueue_Queue_Peek x0) fun q2 => if q2.2.2.2.n ≠ 0 then (some (0, 0, 0, (⟨q2.2.2.2.n⟩ : Err), x0)) else (bnd (chkI ((x0.heap.length : Int) - 1)) fun n35 => bnd (atI x0.heap n35) fun a38 => bnd (atI x0.heap 0) fun a53 => bnd (cutI (x0.heap.set (0 : Int).toNat a38) 0 n35) fun u70 => bnd (m_pqueue_Queue_down (⟨u70, x0.next⟩ : Que) 0) fun q82 => some (q2.1, q2.2.1, q2.2.2.1, (⟨0⟩ : Err), q82))
theorem c_pqueue_Queue_Pop {w : World} {O : Lab} {p0 i0 : Nat} {x0 : Que} (hx0 : Ob i0 w O (.pointer (some ⟨p0, 0, none⟩)) x0) {r : Int × Int × Int × Err × Que} (hm : m_pqueue_Queue_Pop x0 = some r) :
    Fn Try.prog 62 [(.pointer (some ⟨p0, 0, none⟩))] w fun v w' => ∃ O', St (eT i0) w O w' O' ∧ ∃ v0 v1 v2 v3 : Value, Ob i0 w' O' (.pointer (some ⟨p0, 0, none⟩)) r.2.2.2.2 ∧ v = .tuple #[v0, v1, v2, v3] ∧ Vb w' (Fr 0 w' O') v0 r.1 ∧ Vb w' (Fr 0 w' O') v1 r.2.1 ∧ Vb w' (Fr 0 w' O') v2 r.2.2.1 ∧ Vb w' (Fr 0 w' O') v3 r.2.2.2.1 := by
 obtain ⟨O0, hE, hz0, hl2⟩ := ent1 (w := w) (O := O) hx0.2
 have hx0' := Ob.leave hx0 hz0 hl2 (j := 2) (by decide)
 have hB : Bm w O0 w O0 := Bm.refl
 refine fn_enter Try.func62 rfl Try.ntmps62 rfl ?_
 unfold m_pqueue_Queue_Pop at hm
 refine ewp_seq (ewp_region (o_as rfl rfl (o_as rfl rfl (o_as rfl rfl (o_as rfl rfl (o_z ?_))))))
 refine ewp_seq (ewp_region (o_mv rfl rfl ?_))
 obtain ⟨q2, e3, hm⟩ := bs hm
 refine l_callM (O := O0) (c_pqueue_Queue_Peek hx0' e3) rfl rfl fun v8 w4 O5 S6 h7 => ?_
 obtain ⟨v10, v11, v12, v13, h9, rfl, h14, h15, h16, h17⟩ := h7
 obtain ⟨rfl, r18⟩ := h14.int
 obtain ⟨rfl, r19⟩ := h15.int
 obtain ⟨rfl, r20⟩ := h16.int
 obtain ⟨rfl, r21⟩ := h17.err
 refine o_mv rfl rfl (o_ex rfl rfl rfl (o_ex rfl rfl rfl (o_ex rfl rfl rfl (o_ex rfl rfl rfl (o_as rfl rfl (o_as rfl rfl (o_as rfl rfl (o_as rfl rfl (o_z ?_)))))))))
 refine ewp_seq (ewp_seq (ewp_region (o_mv rfl rfl (o_rnS rfl rfl (fun c22 => ?_) fun c22 => ?_))))
 ·
  replace hm := ip hm c22
  refine o_z ?_
  refine ewp_true rfl (ewp_seq (ewp_region (o_mv rfl rfl (o_as rfl rfl (o_as rfl rfl (o_as rfl rfl (o_as rfl rfl (o_z ?_))))))))
  refine ewp_ret ?_
  obtain rfl := sm hm
  replace hB := hB.st S6
  obtain ⟨O', hS', hz, hl⟩ := hE.leave (fun q => if q = 2 then i0 else 0) rfl hB
  exact ret4 rfl (res_tmp rfl) (res_tmp rfl) (res_tmp rfl) (res_tmp rfl) ⟨O', hS', _, _, _, _, (Ob.leave h9 hz (hl 2 (by decide) (by decide)) hx0.2), rfl, (vInt (show inI64 (0) from by decide)), (vInt (show inI64 (0) from by decide)), (vInt (show inI64 (0) from by decide)), (vErr r21)⟩
 ·
  replace hm := im hm c22
  refine o_z ?_
  refine ewp_false rfl (ewp_skip (ewp_seq (ewp_region (o_mv rfl rfl (o_nc rfl rfl ?_)))))
  obtain ⟨O23, v27, S24, ha26, h25, h28, r32⟩ := Que.opn h9 2 3 (by decide)
  obtain ⟨A29, c30, rfl⟩ := h28.form
  refine o_fa rfl rfl (o_ld (hc := Blk.cell (i := 0) (h25.1) rfl) rfl rfl ?_)
  refine o_ln rfl rfl ?_
  have l34 : x0.heap.length ≤ 9223372036854775807 := Nat.le_trans h28.len.2.1 h28.len.2.2
  have r33 : inI64 (x0.heap.length : Int) := rngNat l34
  obtain ⟨n35, e36, hm⟩ := bs hm
  have r37 := (chkI_rng e36)
  refine o_sbE (he := e36) rfl rfl rfl ?_
  refine o_as rfl rfl (o_z ?_)
  refine ewp_seq (ewp_drawX [] O23 ?_)
  refine x_pre (fuel := 1) [] [(0, true), (1, true), (2, true), (3, true), (4, true), (5, true), (6, true), (7, true), (8, true), (9, true), (10, true), (11, true)] (by kernel_rfl) rfl ?_
  refine h_mv rfl rfl rfl (h_nc rfl rfl rfl (h_fa rfl rfl rfl (h_ldC (hc := fun w' ⟨O', hq⟩ => Blk.cell (i := 0) ((h25.st hq (by decide)).1) rfl) rfl rfl rfl ?_)))
  refine h_mv rfl rfl rfl (h_nc rfl rfl rfl (h_fa rfl rfl rfl (h_ldC (hc := fun w' ⟨O', hq⟩ => Blk.cell (i := 0) ((h25.st hq (by decide)).1) rfl) rfl rfl rfl ?_)))
  refine h_mv rfl rfl rfl ?_
  obtain ⟨a38, e39, hm⟩ := bs hm
  obtain ⟨p41, x40⟩ := atI_some' e39
  obtain ⟨b42, o43, ce44, hA45, hF48, hl46, hd47, rfl, r49, r50, r51, r52⟩ := h28.elemF x40
  refine h_iaE (hA := hA45) (hj := (Int.toNat_of_nonneg p41).symm) (hlt := hl46) rfl rfl rfl rfl ?_
  refine h_laB (hl := rfl) (hb := fun w' ⟨O', hq⟩ => (cellsAt_agree (hq.agree (i := 3) (by decide)) hF48 hd47)) rfl rfl rfl ?_
  obtain ⟨a53, e54, hm⟩ := bs hm
  obtain ⟨p56, x55⟩ := atI_some' e54
  obtain ⟨b57, o58, ce59, hA60, hF63, hl61, hd62, rfl, r64, r65, r66, r67⟩ := h28.elemF x55
  refine h_iaE (hA := hA60) (hj := (Int.toNat_of_nonneg p56).symm) (hlt := hl61) rfl rfl rfl rfl ?_
  refine hwp_nilT ?_
  refine x_one (i := 12) (by kernel_rfl) rfl ?_
  refine l_setE rfl h28 (a := a38) (Vb.ofAgg (cs := [(.int .i64 a38.key), (.int .i64 a38.tie), (.int .i64 a38.item), (.int .i64 a38.number)]) (x := a38) rfl ⟨rfl, r49, r50, r51, r52⟩) hA60 rfl rfl (lt_of_get x55) fun w68 S69 h28 => ?_
  refine x_end (by kernel_rfl) ?_
  refine x_nil (by kernel_rfl) ?_
  refine ewp_seq (ewp_region (o_mv rfl rfl (o_mv rfl rfl (o_nc rfl rfl (o_fa rfl rfl ?_)))))
  replace h25 := h25.st S69
  refine o_ld (hc := Blk.cell (i := 0) (h25.1) rfl) rfl rfl ?_
  refine o_mv rfl rfl ?_
  obtain ⟨u70, e71, hm⟩ := bs hm
  obtain ⟨h72, e73⟩ := cutRw h28 e71
  refine o_cutH (hc := e73) rfl rfl rfl ?_
  refine o_nc rfl rfl (o_fa rfl rfl (l_store h25 rfl rfl rfl (Nat.le_of_ble_eq_true rfl) (by first | exact allOne rfl | simp [Value.cells, Value.oneCell', errV_one]) fun w75 S76 h25 => ?_))
  replace h25 : Lc 2 w75 O23 p0 109 [(.slice A29 u70.length c30), (.int .i64 x0.next)] := h25
  refine o_z ?_
  refine ewp_seq (ewp_region (o_mv rfl rfl ?_))
  replace h72 := h72.st S76
  obtain ⟨O77, S78, hz80, ha81, h79⟩ := Que.shut (x := (⟨u70, x0.next⟩ : Que)) (l0 := 2) (l1 := 3) (by decide) h25 h72 r32
  obtain ⟨q82, e83, hm⟩ := bs hm
  refine l_callM (O := O77) (c_pqueue_Queue_down h79 (show inI64 (0) from by decide) e83) rfl rfl fun v88 w84 O85 S86 h89 => ?_
  refine o_z ?_
  refine ewp_seq (ewp_region (o_mv rfl rfl (o_mv rfl rfl (o_mv rfl rfl (o_as rfl rfl (o_as rfl rfl (o_as rfl rfl (o_as rfl rfl (o_z ?_)))))))))
  refine ewp_ret ?_
  obtain rfl := sm hm
  replace hB := (((((hB.st S6).st S24).st S69).st S76).st S78).st S86
  obtain ⟨O', hS', hz, hl⟩ := hE.leave (fun q => if q = 2 then i0 else 0) rfl hB
  exact ret4 rfl (res_tmp rfl) (res_tmp rfl) (res_tmp rfl) (res_tmp rfl) ⟨O', hS', _, _, _, _, (Ob.leave h89 hz (hl 2 (by decide) (by decide)) hx0.2), rfl, (vInt r18), (vInt r19), (vInt r20), (vErr (show inI64 0 from by decide))⟩
end
section
open Go Go.RowKit
attribute [local irreducible] ewp owp hwp hwq Ev Evg Fn retPost Res1
attribute [local irreducible] hwx loudX
noncomputable def m_task_apply (x0 : Tsk) (x1 : List Int) (x2 : Int) : Option ((List Int) × Err) :=
  bnd (if x2 < 0 then (some true) else (if (x0.ops.length : Int) ≤ x2 then (some true) else (some false)) : Option Bool) fun y28 => if y28 = true then (some (([] : List Int), (⟨1⟩ : Err))) else (bnd (m_task_Proper x0.vars x1) fun q41 => if q41 = true then bnd (atI x0.ops x2) fun a48 => bnd (m_task_Holds a48.pre x1) fun q69 => if q69 = true then bnd (m_slices_Clone_Lint_int x1) fun q76 => bnd (atI x0.ops x2) fun a86 => bnd (rng (ρ := (List Int) × Err) (fun (k113 : Nat) (a114 : Eff) (s111 : (List Int)) => bnd (m_task_Holds a114.cond x1) fun q148 => if q148 = true then bnd (atI s111 a114.var) fun a155 => some (.next (s111.set (a114.var : Int).toNat a114.val)) else some (.next s111)) a86.effs 0 q76) fun res109 => fin res109 fun (s173 : (List Int)) => some (s173, (⟨0⟩ : Err)) else some (([] : List Int), (⟨12⟩ : Err)) else some (([] : List Int), (⟨2⟩ : Err)))
theorem c_task_apply {w : World} {A : Nat → Prop} (hA : ∀ k, A k → k < w.heap.size) {vx0 : Value} {x0 : Tsk} (hx0 : Vb w A vx0 x0) {vx1 : Value} {x1 : List Int} (hx1 : Vb w A vx1 x1) {x2 : Int} (rx2 : inI64 x2) {r : (List Int) × Err} (hm : m_task_apply x0 x1 x2 = some r) :
    Fn Try.prog 103 [vx0, vx1, (.int .i64 x2)] w fun v w' => Ext w w' ∧ T2 w' (upA A w w') v r := by
 obtain ⟨O, hB, hA0⟩ := enter hA
 replace hx0 := hx0.mono hA0
 obtain ⟨cs4, rfl, v5, v6, v7, v8, rfl, h9, h12, h15, h18⟩ := hx0
 obtain ⟨A10, c11, rfl⟩ := h9.form
 obtain ⟨A13, c14, rfl⟩ := h12.form
 obtain ⟨A16, c17, rfl⟩ := h15.form
 obtain ⟨A19, c20, rfl⟩ := h18.form
 replace hx1 := hx1.mono hA0
 obtain ⟨A21, c22, rfl⟩ := hx1.form
 refine fn_enter Try.func103 rfl Try.ntmps103 rfl ?_
 unfold m_task_apply at hm
 refine ewp_seq (ewp_region (l_box 2 O rfl rfl fun g23 w24 O25 S26 h27 => ?_))
 replace h27 : Lc 2 w24 O25 g23 26 [(.slice A10 x0.vars.length c11), (.slice A13 x0.init.length c14), (.slice A16 x0.goal.length c17), (.slice A19 x0.ops.length c20)] := h27
 refine o_as rfl rfl (o_as rfl rfl (o_z ?_))
 refine ewp_seq (ewp_block (ewp_seq ?_))
 obtain ⟨y28, hy29, hm⟩ := bs hm
 refine ewp_join (fun l' w' => ∃ (x31 : Unit) (O' : Lab), subs l' [(1, (.slice A21 x1.length c22)), (2, (.int .i64 x2)), (3, (.pointer (some ⟨g23, 0, none⟩))), (11, (.bool y28))] ∧ Bs w A w' O' ∧ Vb w' (Fr 0 w' O') (.slice A21 x1.length c22) x1 ∧ Lc 2 w' O' g23 26 [(.slice A10 x0.vars.length c11), (.slice A13 x0.init.length c14), (.slice A16 x0.goal.length c17), (.slice A19 x0.ops.length c20)] ∧ Vb w' (Fr 0 w' O') (.slice A10 x0.vars.length c11) x0.vars ∧ Vb w' (Fr 0 w' O') (.slice A13 x0.init.length c14) x0.init ∧ Vb w' (Fr 0 w' O') (.slice A16 x0.goal.length c17) x0.goal ∧ Vb w' (Fr 0 w' O') (.slice A19 x0.ops.length c20) x0.ops) ?_ ?_
 ·
  refine ewp_region (o_mv rfl rfl (o_ltS rfl rfl rfl (fun c32 => ?_) fun c32 => ?_))
  ·
   replace hy29 := ip hy29 c32
   refine o_mv rfl rfl (owp_no rfl rfl rfl rfl (owp_no rfl rfl rfl rfl (owp_no rfl rfl rfl rfl (owp_no rfl rfl rfl rfl (owp_no rfl rfl rfl rfl (o_pt rfl rfl rfl (o_as rfl rfl (o_z ?_))))))))
   obtain rfl := sm hy29
   replace hB := hB.st S26
   replace hx1 := hx1.st S26
   replace h9 := h9.st S26
   replace h12 := h12.st S26
   replace h15 := h15.st S26
   replace h18 := h18.st S26
   exact ⟨(), _, ⟨rfl, rfl, rfl, rfl, trivial⟩, hB, hx1, h27, h9, h12, h15, h18⟩
  ·
   replace hy29 := im hy29 c32
   refine o_mv rfl rfl (owp_yes rfl rfl (o_mv rfl rfl (owp_yes rfl rfl (o_fa rfl rfl (owp_yes rfl rfl (o_ld (hc := Blk.cell (i := 3) (h27.1) rfl) rfl rfl ?_))))))
   refine owp_yes rfl rfl (o_ln rfl rfl ?_)
   replace h18 := h18.st S26
   have l34 : x0.ops.length ≤ 9223372036854775807 := Nat.le_trans h18.len.2.1 h18.len.2.2
   have r33 : inI64 (x0.ops.length : Int) := rngNat l34
   refine owp_yes rfl rfl (o_geS rfl rfl rfl (fun c35 => ?_) fun c35 => ?_)
   ·
    replace hy29 := ip hy29 c35
    refine o_pf rfl rfl rfl (o_as rfl rfl (o_z ?_))
    obtain rfl := sm hy29
    replace hB := hB.st S26
    replace hx1 := hx1.st S26
    replace h9 := h9.st S26
    replace h12 := h12.st S26
    replace h15 := h15.st S26
    exact ⟨(), _, ⟨rfl, rfl, rfl, rfl, trivial⟩, hB, hx1, h27, h9, h12, h15, h18⟩
   ·
    replace hy29 := im hy29 c35
    refine o_pf rfl rfl rfl (o_as rfl rfl (o_z ?_))
    obtain rfl := sm hy29
    replace hB := hB.st S26
    replace hx1 := hx1.st S26
    replace h9 := h9.st S26
    replace h12 := h12.st S26
    replace h15 := h15.st S26
    exact ⟨(), _, ⟨rfl, rfl, rfl, rfl, trivial⟩, hB, hx1, h27, h9, h12, h15, h18⟩
 replace hB := hB.st S26
 replace hx1 := hx1.st S26
 replace h9 := h9.st S26
 replace h12 := h12.st S26
 replace h15 := h15.st S26
 replace h18 := h18.st S26
 rintro l36 w37 ⟨x31, O38, hs39, hB, hx1, h27, h9, h12, h15, h18⟩
 refine ewp_sub _ hs39 ?_
 refine ewp_cond rfl (fun c40 => ?_) (fun c40 => ?_)
 ·
  replace hm := ip hm c40
  refine ewp_seq (ewp_region (o_miE rfl rfl ?_))
  refine o_as rfl rfl (o_as rfl rfl (o_z ?_))
  refine ewp_ret ?_
  obtain rfl := sm hm
  exact ret2 rfl (res_tmp rfl) (res_tmp rfl) ⟨hB.ext, _, _, rfl, (Vb.mono (F := Fr 0 w37 O38) (Vb.nil _ _) hB.out), (vErr (by decide))⟩
 ·
  replace hm := im' hm c40
  refine ewp_seq (ewp_region (o_fa rfl rfl (o_ld (hc := Blk.cell (i := 0) (h27.1) rfl) rfl rfl ?_)))
  refine o_mv rfl rfl ?_
  obtain ⟨q41, e42, hm⟩ := bs hm
  refine l_callA (O := O38) (A := All w37) (R := fun w' F v => Vb w' F v q41) (c_task_Proper (fun _ h => h) (Vb.mono (F := Fr 0 w37 O38) h9 Fr.lt) (Vb.mono (F := Fr 0 w37 O38) hx1 Fr.lt) e42) rfl rfl fun v47 w43 O44 S45 h46 => ?_
  obtain rfl := h46.bool
  cases q41
  case false =>
   replace hm := iF hm
   refine o_nf rfl rfl (o_as rfl rfl (o_z ?_))
   refine ewp_true rfl (ewp_seq (ewp_region (o_miE rfl rfl ?_)))
   refine o_as rfl rfl (o_as rfl rfl (o_z ?_))
   refine ewp_ret ?_
   obtain rfl := sm hm
   replace hB := hB.st S45
   exact ret2 rfl (res_tmp rfl) (res_tmp rfl) ⟨hB.ext, _, _, rfl, (Vb.mono (F := Fr 0 w43 O44) (Vb.nil _ _) hB.out), (vErr (by decide))⟩
  replace hm := iT hm
  refine o_nt rfl rfl (o_as rfl rfl (o_z ?_))
  refine ewp_false rfl (ewp_seq (ewp_region (o_fa rfl rfl ?_)))
  replace h27 := h27.st S45
  refine o_ld (hc := Blk.cell (i := 3) (h27.1) rfl) rfl rfl ?_
  refine o_mv rfl rfl ?_
  obtain ⟨a48, e49, hm⟩ := bs hm
  obtain ⟨p51, x50⟩ := atI_some' e49
  replace h18 := h18.st S45
  obtain ⟨b52, o53, ce54, hA55, hl56, hd57, v59, v60, rfl, h61, h64, r67, z68⟩ := h18.elem' x50
  obtain ⟨A62, c63, rfl⟩ := h61.form
  obtain ⟨A65, c66, rfl⟩ := h64.form
  refine o_iaE (hA := hA55) (hj := (Int.toNat_of_nonneg p51).symm) (hlt := hl56) rfl rfl rfl ?_
  refine o_fa rfl rfl (o_ld (hc := cat2 hd57) rfl rfl ?_)
  refine o_mv rfl rfl ?_
  obtain ⟨q69, e70, hm⟩ := bs hm
  replace hx1 := hx1.st S45
  refine l_callA (O := O44) (A := All w43) (R := fun w' F v => Vb w' F v q69) (c_task_Holds (fun _ h => h) (Vb.mono (F := Fr 0 w43 O44) h61 Fr.lt) (Vb.mono (F := Fr 0 w43 O44) hx1 Fr.lt) e70) rfl rfl fun v75 w71 O72 S73 h74 => ?_
  obtain rfl := h74.bool
  cases q69
  case false =>
   replace hm := iF hm
   refine o_nf rfl rfl (o_as rfl rfl (o_z ?_))
   refine ewp_true rfl (ewp_seq (ewp_region (o_miE rfl rfl ?_)))
   refine o_as rfl rfl (o_as rfl rfl (o_z ?_))
   refine ewp_ret ?_
   obtain rfl := sm hm
   replace hB := (hB.st S45).st S73
   exact ret2 rfl (res_tmp rfl) (res_tmp rfl) ⟨hB.ext, _, _, rfl, (Vb.mono (F := Fr 0 w71 O72) (Vb.nil _ _) hB.out), (vErr (by decide))⟩
  replace hm := iT hm
  refine o_nt rfl rfl (o_as rfl rfl (o_z ?_))
  refine ewp_false rfl (ewp_skip (ewp_seq (ewp_region (o_mv rfl rfl ?_))))
  obtain ⟨q76, e77, hm⟩ := bs hm
  replace hx1 := hx1.st S73
  refine l_callRow 3 (by decide) (O := O72) (c_slices_Clone_Lint_int Fr.lt hx1 e77) rfl rfl fun A83 c84 w78 O79 S80 h81 => ?_
  refine o_as rfl rfl (o_z ?_)
  refine ewp_seq (ewp_seq (ewp_region (o_fa rfl rfl ?_)))
  replace h27 := (h27.st S73).st S80
  refine o_ld (hc := Blk.cell (i := 3) (h27.1) rfl) rfl rfl ?_
  refine o_mv rfl rfl ?_
  obtain ⟨a86, e87, hm⟩ := bs hm
  obtain ⟨p89, x88⟩ := atI_some' e87
  replace h18 := (h18.st S73).st S80
  obtain ⟨b90, o91, ce92, hA93, hl94, hd95, v97, v98, rfl, h99, h102, r105, z106⟩ := h18.elem' x88
  obtain ⟨A100, c101, rfl⟩ := h99.form
  obtain ⟨A103, c104, rfl⟩ := h102.form
  refine o_iaE (hA := hA93) (hj := (Int.toNat_of_nonneg p89).symm) (hlt := hl94) rfl rfl rfl ?_
  refine o_fa rfl rfl (o_ld (hc := cat3 hd95) rfl rfl ?_)
  refine o_ln rfl rfl ?_
  have l108 : a86.effs.length ≤ 9223372036854775807 := Nat.le_trans h102.len.2.1 h102.len.2.2
  have r107 : inI64 (a86.effs.length : Int) := rngNat l108
  refine o_mv rfl rfl (o_z ?_)
  obtain ⟨res109, hL110, hm⟩ := bs hm
  refine ewp_join (aft res109 (fun (s111 : (List Int)) (x112 : Unit) => [(8, (.slice A83 q76.length c84))]) (fun s111 x112 w' => ∃ O' : Lab, Bs w A w' O' ∧ Rw 3 w' O' 3 (.slice A83 q76.length c84) s111)) ?_ ?_
  ·
   refine ewp_block ?_
   replace hB := ((hB.st S45).st S73).st S80
   replace hx1 := hx1.st S80
   refine ewp_rng (σ := (List Int)) (X := Unit) (a86.effs.length) hL110 rfl l108 (fun (s111 : (List Int)) (x112 : Unit) => [(1, (.slice A21 x1.length c22)), (8, (.slice A83 q76.length c84)), (47, (.slice A103 a86.effs.length c104))]) _ (fun s111 x112 w' => ∃ O' : Lab, Bs w A w' O' ∧ Vb w' (Fr 0 w' O') (.slice A21 x1.length c22) x1 ∧ Rw 3 w' O' 3 (.slice A83 q76.length c84) s111 ∧ Vb w' (Fr 0 w' O') (.slice A103 a86.effs.length c104) a86.effs) _ () ⟨O79, hB, hx1, h81, h102⟩ ⟨rfl, rfl, rfl, rfl, rfl, trivial⟩ (fun _ _ => ⟨rfl, rfl⟩) (fun _ _ => ⟨rfl, trivial⟩) (fun _ _ _ ⟨O', hB, hx1, h126, h102⟩ => ⟨O', hB, h126⟩) ⟨rfl, rfl, rfl⟩ ⟨rfl, rfl⟩ ?_
   rintro k113 a114 s111 x112 w115 cc117 hx118 ⟨O116, hB, hx1, h126, h102⟩ hf119 hret120 hbrk121
   have rk113 : inI64 (k113 : Int) := rngK hx118 l108
   refine ewp_seq (ewp_region ?_)
   obtain ⟨b128, o129, ce130, hA131, hl132, hd133, v135, rfl, h136, r139, r140⟩ := h102.elem' hx118
   obtain ⟨A137, c138, rfl⟩ := h136.form
   refine o_iaE (hA := hA131) (hj := rfl) (hlt := hl132) rfl rfl rfl ?_
   refine o_la (hl := rfl) (hc := hd133) rfl rfl ?_
   refine l_alloc 4 O116 rfl fun g141 w142 O143 S144 h145 => ?_
   refine l_store h145 rfl rfl rfl (Nat.le_of_ble_eq_true rfl) (by first | exact allOne rfl | simp [Value.cells, Value.oneCell', errV_one]) fun w146 S147 h145 => ?_
   replace h145 : Lc 4 w146 O143 g141 77 [(.slice A137 a114.cond.length c138), (.int .i64 a114.var), (.int .i64 a114.val)] := h145
   refine o_z ?_
   refine ewp_seq (ewp_region (o_fa rfl rfl (o_ld (hc := Blk.cell (i := 0) (h145.1) rfl) rfl rfl ?_)))
   refine o_mv rfl rfl ?_
   obtain ⟨q148, e149, hf119⟩ := bs hf119
   replace hx1 := (hx1.st S144).st S147
   replace h136 := (h136.st S144).st S147
   refine l_callA (O := O143) (A := All w146) (R := fun w' F v => Vb w' F v q148) (c_task_Holds (fun _ h => h) (Vb.mono (F := Fr 0 w146 O143) h136 Fr.lt) (Vb.mono (F := Fr 0 w146 O143) hx1 Fr.lt) e149) rfl rfl fun v154 w150 O151 S152 h153 => ?_
   obtain rfl := h153.bool
   cases q148
   case false =>
    replace hf119 := iF hf119
    refine o_z ?_
    refine ewp_false rfl (ewp_skip ?_)
    obtain rfl := sm hf119
    refine (?_ : Exists _)
    replace hB := ((hB.st S144).st S147).st S152
    replace hx1 := hx1.st S152
    replace h102 := ((h102.st S144).st S147).st S152
    replace h126 := ((h126.st S144).st S147).st S152
    exact ⟨_, (), rfl, ⟨rfl, rfl, rfl, rfl, rfl, trivial⟩, _, hB, hx1, h126, h102⟩
   replace hf119 := iT hf119
   refine o_z ?_
   refine ewp_true rfl (ewp_region (o_mv rfl rfl (o_fa rfl rfl ?_)))
   replace h145 := h145.st S152
   refine o_ld (hc := Blk.cell (i := 1) (h145.1) rfl) rfl rfl ?_
   refine o_fa rfl rfl (o_ld (hc := Blk.cell (i := 2) (h145.1) rfl) rfl rfl ?_)
   obtain ⟨a155, e156, hf119⟩ := bs hf119
   obtain ⟨p158, x157⟩ := atI_some' e156
   replace h126 := ((h126.st S144).st S147).st S152
   obtain ⟨b159, o160, ce161, hA162, hl163, hd164, rfl, r166⟩ := h126.elem x157
   refine o_iaE (hA := hA162) (hj := (Int.toNat_of_nonneg p158).symm) (hlt := hl163) rfl rfl rfl ?_
   refine l_setE rfl h126 (a := a114.val) (vInt r140) hA162 rfl rfl (lt_of_get x157) fun w167 S168 h126 => ?_
   refine o_z ?_
   obtain rfl := sm hf119
   refine (?_ : Exists _)
   replace hB := (((hB.st S144).st S147).st S152).st S168
   replace hx1 := (hx1.st S152).st S168
   replace h102 := (((h102.st S144).st S147).st S152).st S168
   exact ⟨_, (), rfl, ⟨rfl, rfl, rfl, rfl, rfl, trivial⟩, _, hB, hx1, h126, h102⟩
  replace hB := ((hB.st S45).st S73).st S80
  rintro l169 w170 ⟨s173, x174, rfl, hs172, O171, hB, h126⟩
  replace hm := fin_done hm
  refine ewp_sub _ hs172 ?_
  refine ewp_seq (ewp_region (o_mv rfl rfl (o_as rfl rfl (o_as rfl rfl (o_z ?_)))))
  refine ewp_ret ?_
  obtain ⟨O175, S176, h126⟩ := h126.freeze
  obtain rfl := sm hm
  replace hB := hB.st S176
  exact ret2 rfl (res_tmp rfl) (res_tmp rfl) ⟨hB.ext, _, _, rfl, (Vb.mono (F := Fr 0 w170 O175) h126 hB.out), (vErr (show inI64 0 from by decide))⟩
noncomputable def m_task_Apply (x0 : Tsk) (x1 : List Int) (x2 : Int) : Option ((List Int) × Err) :=
  bnd (m_task_Check x0) fun q28 => if q28.n ≠ 0 then (some (([] : List Int), (⟨q28.n⟩ : Err))) else (bnd (m_task_apply x0 x1 x2) fun q37 => some (q37.1, (⟨q37.2.n⟩ : Err)))
theorem c_task_Apply {w : World} {A : Nat → Prop} (hA : ∀ k, A k → k < w.heap.size) {vx0 : Value} {x0 : Tsk} (hx0 : Vb w A vx0 x0) {vx1 : Value} {x1 : List Int} (hx1 : Vb w A vx1 x1) {x2 : Int} (rx2 : inI64 x2) {r : (List Int) × Err} (hm : m_task_Apply x0 x1 x2 = some r) :
    Fn Try.prog 81 [vx0, vx1, (.int .i64 x2)] w fun v w' => Ext w w' ∧ T2 w' (upA A w w') v r := by
 obtain ⟨O, hB, hA0⟩ := enter hA
 replace hx0 := hx0.mono hA0
 obtain ⟨cs4, rfl, v5, v6, v7, v8, rfl, h9, h12, h15, h18⟩ := hx0
 obtain ⟨A10, c11, rfl⟩ := h9.form
 obtain ⟨A13, c14, rfl⟩ := h12.form
 obtain ⟨A16, c17, rfl⟩ := h15.form
 obtain ⟨A19, c20, rfl⟩ := h18.form
 replace hx1 := hx1.mono hA0
 obtain ⟨A21, c22, rfl⟩ := hx1.form
 refine fn_enter Try.func81 rfl Try.ntmps81 rfl ?_
 unfold m_task_Apply at hm
 refine ewp_seq (ewp_region (l_box 2 O rfl rfl fun g23 w24 O25 S26 h27 => ?_))
 replace h27 : Lc 2 w24 O25 g23 26 [(.slice A10 x0.vars.length c11), (.slice A13 x0.init.length c14), (.slice A16 x0.goal.length c17), (.slice A19 x0.ops.length c20)] := h27
 refine o_as rfl rfl (o_as rfl rfl (o_z ?_))
 refine ewp_seq (ewp_seq (ewp_region (o_la (hl := rfl) (hc := (h27.1).cellsAt) rfl rfl ?_)))
 obtain ⟨q28, e29, hm⟩ := bs hm
 replace h9 := h9.st S26
 replace h12 := h12.st S26
 replace h15 := h15.st S26
 replace h18 := h18.st S26
 refine l_callA (O := O25) (A := All w24) (R := fun w' F v => Vb w' F v q28) (c_task_Check (fun _ h => h) (Vb.mono (F := Fr 0 w24 O25) (Vb.ofAgg (cs := [(.slice A10 x0.vars.length c11), (.slice A13 x0.init.length c14), (.slice A16 x0.goal.length c17), (.slice A19 x0.ops.length c20)]) (x := x0) rfl ⟨_, _, _, _, rfl, h9, h12, h15, h18⟩) Fr.lt) e29) rfl rfl fun v34 w30 O31 S32 h33 => ?_
 obtain ⟨rfl, r35⟩ := h33.err
 refine o_as rfl rfl (o_z ?_)
 refine ewp_seq (ewp_region (o_mv rfl rfl (o_rnS rfl rfl (fun c36 => ?_) fun c36 => ?_)))
 ·
  replace hm := ip hm c36
  refine o_z ?_
  refine ewp_true rfl (ewp_seq (ewp_region (o_mv rfl rfl (o_as rfl rfl (o_as rfl rfl (o_z ?_))))))
  refine ewp_ret ?_
  obtain rfl := sm hm
  replace hB := (hB.st S26).st S32
  exact ret2 rfl (res_tmp rfl) (res_tmp rfl) ⟨hB.ext, _, _, rfl, (Vb.mono (F := Fr 0 w30 O31) (Vb.nil _ _) hB.out), (vErr r35)⟩
 ·
  replace hm := im hm c36
  refine o_z ?_
  refine ewp_false rfl (ewp_skip (ewp_seq (ewp_region ?_)))
  replace h27 := h27.st S32
  refine o_la (hl := rfl) (hc := (h27.1).cellsAt) rfl rfl ?_
  refine o_mv rfl rfl (o_mv rfl rfl ?_)
  obtain ⟨q37, e38, hm⟩ := bs hm
  replace hx1 := (hx1.st S26).st S32
  replace h9 := h9.st S32
  replace h12 := h12.st S32
  replace h15 := h15.st S32
  replace h18 := h18.st S32
  refine l_call (O := O31) (R := fun w' F v => T2 w' F v q37) (c_task_apply Fr.lt (Vb.ofAgg (cs := [(.slice A10 x0.vars.length c11), (.slice A13 x0.init.length c14), (.slice A16 x0.goal.length c17), (.slice A19 x0.ops.length c20)]) (x := x0) rfl ⟨_, _, _, _, rfl, h9, h12, h15, h18⟩) hx1 rx2 e38) rfl rfl fun v43 w39 O40 S41 h42 => ?_
  obtain ⟨v44, v45, rfl, h46, h47⟩ := h42
  obtain ⟨A48, c49, rfl⟩ := h46.form
  obtain ⟨rfl, r50⟩ := h47.err
  refine o_ex rfl rfl rfl (o_ex rfl rfl rfl (o_as rfl rfl (o_as rfl rfl (o_z ?_))))
  refine ewp_ret ?_
  obtain rfl := sm hm
  replace hB := ((hB.st S26).st S32).st S41
  exact ret2 rfl (res_tmp rfl) (res_tmp rfl) ⟨hB.ext, _, _, rfl, (Vb.mono (F := Fr 0 w39 O40) h46 hB.out), (vErr r50)⟩
structure Rsl where
  verdict : Int
  plan : List Int
  cost : Int
  expanded : Int
instance : Rp Rsl where
  isAgg := true
  size := 4
  R w F cs x := ∃ v0, cs = [.int .i64 x.verdict, v0, .int .i64 x.cost, .int .i64 x.expanded] ∧ Vb w F v0 x.plan ∧ inI64 x.verdict ∧ inI64 x.cost ∧ inI64 x.expanded
  len := by rintro w F cs x ⟨v0, rfl, h0, h1, h2, h3⟩; rfl
  one := by rintro w F cs x ⟨v0, rfl, h0, h1, h2, h3⟩ u hu; simp at hu; rcases hu with rfl | rfl | rfl | rfl <;> first | rfl | exact Vb.one rfl (by assumption)
  agree := by rintro w w' F cs x ⟨v0, rfl, h0, h1, h2, h3⟩ ha; exact ⟨v0, rfl, h0.agree ha, h1, h2, h3⟩
  mono := by rintro w F G cs x ⟨v0, rfl, h0, h1, h2, h3⟩ ha; exact ⟨v0, rfl, h0.mono ha, h1, h2, h3⟩
structure Sch where
  t : Tsk
  states : Reg
  que : Que
  costs : List Int
  fin : List Bool
  exp : Int
instance : Ow Sch where
  R w F M v x := ∃ (g : Nat) (L : Lab) (c0 c1 c2 c3 c4 c5 c6 c7 : Value), v = .pointer (some ⟨g, 0, none⟩) ∧ Blk w g 85 [c0, c1, c2, c3, c4, c5, c6, c7, .int .i64 x.exp] ∧ M g ∧ L g = 0 ∧ Vb w F c0 x.t.vars ∧ Vb w F c1 x.t.init ∧ Vb w F c2 x.t.goal ∧ Vb w F c3 x.t.ops ∧ Ow.R w F (fun k => M k ∧ L k = 1) c4 x.states ∧ Ow.R w F (fun k => M k ∧ L k = 2) c5 x.que ∧ RwM w F (fun k => M k ∧ L k = 3) 3 c6 x.costs ∧ RwM w F (fun k => M k ∧ L k = 4) 4 c7 x.fin ∧ inI64 x.exp
  agree := by rintro w w' F M v x ⟨g, L, c0, c1, c2, c3, c4, c5, c6, c7, rfl, hb, hM, hL, h0, h1, h2, h3, h4, h5, h6, h7, h8⟩ a1 a2; exact ⟨g, L, c0, c1, c2, c3, c4, c5, c6, c7, rfl, hb.keep (a2 g hM), hM, hL, h0.agree a1, h1.agree a1, h2.agree a1, h3.agree a1, Ow.agree h4 a1 fun k hk => a2 k hk.1, Ow.agree h5 a1 fun k hk => a2 k hk.1, h6.agree a1 fun k hk => a2 k hk.1, h7.agree a1 fun k hk => a2 k hk.1, h8⟩
  mono := by rintro w F M F' M' v x ⟨g, L, c0, c1, c2, c3, c4, c5, c6, c7, rfl, hb, hM, hL, h0, h1, h2, h3, h4, h5, h6, h7, h8⟩ a1 a2 a3; exact ⟨g, L, c0, c1, c2, c3, c4, c5, c6, c7, rfl, hb, a2 g hM, hL, h0.mono a1, h1.mono a1, h2.mono a1, h3.mono a1, Ow.mono h4 a1 (fun k hk => ⟨a2 k hk.1, hk.2⟩) fun k hf hm => a3 k hf hm.1, Ow.mono h5 a1 (fun k hk => ⟨a2 k hk.1, hk.2⟩) fun k hf hm => a3 k hf hm.1, h6.mono a1 (fun k hk => ⟨a2 k hk.1, hk.2⟩) fun k hf hm => a3 k hf hm.1, h7.mono a1 (fun k hk => ⟨a2 k hk.1, hk.2⟩) fun k hf hm => a3 k hf hm.1, h8⟩
theorem Sch.opn {i : Nat} {w : World} {O : Lab} {p : Nat} {x : Sch} (h : Ob i w O (.pointer (some ⟨p, 0, none⟩)) x) (l0 l1 l2 l3 l4 : Nat) (hl : l0 ≠ 0 ∧ l1 ≠ 0 ∧ l2 ≠ 0 ∧ l3 ≠ 0 ∧ l4 ≠ 0) : ∃ (O' : Lab) (c0 c1 c2 c3 c4 c5 c6 c7 : Value), St (eT i) w O w O' ∧ (∀ k, Fr i w O k → ∃ q, q ∈ [l0, l1, l2, l3, l4] ∧ Fr q w O' k) ∧ Lc l0 w O' p 85 [c0, c1, c2, c3, c4, c5, c6, c7, .int .i64 x.exp] ∧ Vb w (Fr 0 w O') c0 x.t.vars ∧ Vb w (Fr 0 w O') c1 x.t.init ∧ Vb w (Fr 0 w O') c2 x.t.goal ∧ Vb w (Fr 0 w O') c3 x.t.ops ∧ Ob l1 w O' c4 x.states ∧ Ob l2 w O' c5 x.que ∧ Rw l3 w O' 3 c6 x.costs ∧ Rw l4 w O' 4 c7 x.fin ∧ inI64 x.exp := by
  obtain ⟨⟨g, L, c0, c1, c2, c3, c4, c5, c6, c7, hv, hb, hM, hL, h0, h1, h2, h3, h4, h5, h6, h7, h8⟩, hi⟩ := h
  obtain rfl : p = g := by injection hv with hv; injection hv with hv; injection hv
  exact ⟨part O i L [l0, l1, l2, l3, l4], c0, c1, c2, c3, c4, c5, c6, c7, part_st hi, part_all (by simp), ⟨hb, (part_fr (j := 0) rfl p ⟨hM, hL⟩).2⟩, h0.mono (part_fr0 hi), h1.mono (part_fr0 hi), h2.mono (part_fr0 hi), h3.mono (part_fr0 hi), ⟨Ow.mono h4 (part_fr0 hi) (part_fr (j := 1) rfl) (frNe0 hl.2.1), hl.2.1⟩, ⟨Ow.mono h5 (part_fr0 hi) (part_fr (j := 2) rfl) (frNe0 hl.2.2.1), hl.2.2.1⟩, h6.rw (part_fr0 hi) (part_fr (j := 3) rfl) hl.2.2.2.1, h7.rw (part_fr0 hi) (part_fr (j := 4) rfl) hl.2.2.2.2, h8⟩
theorem Sch.shut {w : World} {O : Lab} {p : Nat} {x : Sch} {l0 l1 l2 l3 l4 : Nat} {c0 c1 c2 c3 c4 c5 c6 c7 : Value} (hd : ¬ 0 ∈ [l0, l1, l2, l3, l4] ∧ [l0, l1, l2, l3, l4].idxOf l0 = 0 ∧ [l0, l1, l2, l3, l4].idxOf l1 = 1 ∧ [l0, l1, l2, l3, l4].idxOf l2 = 2 ∧ [l0, l1, l2, l3, l4].idxOf l3 = 3 ∧ [l0, l1, l2, l3, l4].idxOf l4 = 4) (hb : Lc l0 w O p 85 [c0, c1, c2, c3, c4, c5, c6, c7, .int .i64 x.exp]) (h0 : Vb w (Fr 0 w O) c0 x.t.vars) (h1 : Vb w (Fr 0 w O) c1 x.t.init) (h2 : Vb w (Fr 0 w O) c2 x.t.goal) (h3 : Vb w (Fr 0 w O) c3 x.t.ops) (h4 : Ob l1 w O c4 x.states) (h5 : Ob l2 w O c5 x.que) (h6 : Rw l3 w O 3 c6 x.costs) (h7 : Rw l4 w O 4 c7 x.fin) (h8 : inI64 x.exp) : ∃ O', St (· ∈ [l0, l1, l2, l3, l4]) w O w O' ∧ (∀ k, Fr 0 w O k → Fr 0 w O' k) ∧ (∀ q, q ∈ [l0, l1, l2, l3, l4] → ∀ k, Fr q w O k → Fr l0 w O' k) ∧ Ob l0 w O' (.pointer (some ⟨p, 0, none⟩)) x := by
  have hb1 : l0 ≠ 0 := fun e => hd.1 (by simp [e])
  have hg := whole_fr (i := l0) hd.2.1 (by simp) p ⟨hb.1.lt, hb.2⟩
  exact ⟨whole O l0 [l0, l1, l2, l3, l4], whole_st, whole_fr0 hd.1, whole_all, ⟨p, fun k => [l0, l1, l2, l3, l4].idxOf (O k), c0, c1, c2, c3, c4, c5, c6, c7, rfl, hb.1, hg.1, hg.2, h0.mono (whole_fr0 hd.1), h1.mono (whole_fr0 hd.1), h2.mono (whole_fr0 hd.1), h3.mono (whole_fr0 hd.1), Ow.mono h4.1 (whole_fr0 hd.1) (whole_fr hd.2.2.1 (by simp)) (fun k a b => frNe0 hb1 k a b.1), Ow.mono h5.1 (whole_fr0 hd.1) (whole_fr hd.2.2.2.1 (by simp)) (fun k a b => frNe0 hb1 k a b.1), h6.m (whole_fr0 hd.1) (whole_fr hd.2.2.2.2.1 (by simp)) (fun k a b => frNe0 hb1 k a b.1), h7.m (whole_fr0 hd.1) (whole_fr hd.2.2.2.2.2 (by simp)) (fun k a b => frNe0 hb1 k a b.1), h8⟩, hb1⟩
noncomputable def m_stubborn_search_reach (x0 : Sch) (x1 : List Int) (x2 : Int) (x3 : Int) (x4 : Int) : Option (Err × Sch) :=
  bnd (m_registry_Registry_Add x0.states x1) fun q45 => if q45.2.2.1.n ≠ 0 then (some ((⟨q45.2.2.1.n⟩ : Err), (⟨(⟨x0.t.vars, x0.t.init, x0.t.goal, x0.t.ops⟩ : Tsk), q45.2.2.2, x0.que, x0.costs, x0.fin, x0.exp⟩ : Sch))) else (bnd (if q45.2.1 = true then (bnd (appI 8 x0.costs [1125899906842624]) fun u73 => bnd (appI 1 x0.fin [false]) fun u75 => some (⟨(⟨x0.t.vars, x0.t.init, x0.t.goal, x0.t.ops⟩ : Tsk), q45.2.2.2, x0.que, u73, u75, x0.exp⟩ : Sch)) else (some (⟨(⟨x0.t.vars, x0.t.init, x0.t.goal, x0.t.ops⟩ : Tsk), q45.2.2.2, x0.que, x0.costs, x0.fin, x0.exp⟩ : Sch)) : Option Sch) fun y67 => bnd (atI y67.costs q45.1) fun a234 => if a234 ≤ x4 then (some ((⟨0⟩ : Err), y67)) else (bnd (atI y67.costs q45.1) fun a252 => bnd (m_registry_Registry_SetLink y67.states q45.1 x2 x3 x4) fun q266 => if q266.1.n ≠ 0 then (some ((⟨q266.1.n⟩ : Err), (⟨(⟨y67.t.vars, y67.t.init, y67.t.goal, y67.t.ops⟩ : Tsk), q266.2, y67.que, (y67.costs.set (q45.1 : Int).toNat x4), y67.fin, y67.exp⟩ : Sch))) else (bnd (m_pqueue_Queue_Push y67.que x4 0 q45.1) fun q282 => some ((⟨q282.1.n⟩ : Err), (⟨(⟨y67.t.vars, y67.t.init, y67.t.goal, y67.t.ops⟩ : Tsk), q266.2, q282.2, (y67.costs.set (q45.1 : Int).toNat x4), y67.fin, y67.exp⟩ : Sch)))))
theorem c_stubborn_search_reach {w : World} {O : Lab} {p0 i0 : Nat} {x0 : Sch} (hx0 : Ob i0 w O (.pointer (some ⟨p0, 0, none⟩)) x0) {vx1 : Value} {x1 : List Int} (hx1 : Vb w (Fr 0 w O) vx1 x1) {x2 : Int} (rx2 : inI64 x2) {x3 : Int} (rx3 : inI64 x3) {x4 : Int} (rx4 : inI64 x4) {r : Err × Sch} (hm : m_stubborn_search_reach x0 x1 x2 x3 x4 = some r) :
    Fn Try.prog 41 [(.pointer (some ⟨p0, 0, none⟩)), vx1, (.int .i64 x2), (.int .i64 x3), (.int .i64 x4)] w fun v w' => ∃ O', St (eT i0) w O w' O' ∧ Ob i0 w' O' (.pointer (some ⟨p0, 0, none⟩)) r.2 ∧ Vb w' (Fr 0 w' O') v r.1 := by
 obtain ⟨O0, hE, hz0, hl2⟩ := ent1 (w := w) (O := O) hx0.2
 have hx0' := Ob.leave hx0 hz0 hl2 (j := 2) (by decide)
 have hB : Bm w O0 w O0 := Bm.refl
 replace hx1 := hx1.mono hz0
 obtain ⟨A6, c7, rfl⟩ := hx1.form
 refine fn_enter Try.func41 rfl Try.ntmps41 rfl ?_
 unfold m_stubborn_search_reach at hm
 refine ewp_seq (ewp_region (o_as rfl rfl (o_z ?_)))
 refine ewp_seq (ewp_region (o_mv rfl rfl (o_nc rfl rfl ?_)))
 obtain ⟨O8, v12, v16, v20, v24, v28, v31, v34, v39, S9, ha11, h10, h13, h17, h21, h25, h29, h32, h35, h40, r44⟩ := Sch.opn hx0' 2 3 4 5 6 (by decide)
 obtain ⟨A14, c15, rfl⟩ := h13.form
 obtain ⟨A18, c19, rfl⟩ := h17.form
 obtain ⟨A22, c23, rfl⟩ := h21.form
 obtain ⟨A26, c27, rfl⟩ := h25.form
 obtain ⟨p30, rfl⟩ := h29.ptr
 obtain ⟨p33, rfl⟩ := h32.ptr
 obtain ⟨A36, c37, rfl⟩ := h35.form
 obtain ⟨A41, c42, rfl⟩ := h40.form
 refine o_fa rfl rfl (o_ld (hc := Blk.cell (i := 4) (h10.1) rfl) rfl rfl ?_)
 refine o_mv rfl rfl ?_
 obtain ⟨q45, e46, hm⟩ := bs hm
 replace hx1 := hx1.st S9
 refine l_callM (O := O8) (c_registry_Registry_Add h29 hx1 e46) rfl rfl fun v51 w47 O48 S49 h50 => ?_
 obtain ⟨v53, v54, v55, h52, rfl, h56, h57, h58⟩ := h50
 obtain ⟨rfl, r59⟩ := h56.int
 obtain rfl := h57.bool
 obtain ⟨rfl, r60⟩ := h58.err
 refine o_mv rfl rfl (o_ex rfl rfl rfl (o_ex rfl rfl rfl (o_ex rfl rfl rfl (o_as rfl rfl (o_as rfl rfl (o_as rfl rfl (o_z ?_)))))))
 refine ewp_seq (ewp_seq (ewp_region (o_mv rfl rfl (o_rnS rfl rfl (fun c61 => ?_) fun c61 => ?_))))
 ·
  replace hm := ip hm c61
  refine o_z ?_
  refine ewp_true rfl (ewp_seq (ewp_region (o_mv rfl rfl (o_as rfl rfl (o_z ?_)))))
  refine ewp_ret ?_
  replace h10 := h10.st S49
  replace h13 := h13.st S49
  replace h17 := h17.st S49
  replace h21 := h21.st S49
  replace h25 := h25.st S49
  replace h32 := h32.st S49
  replace h35 := h35.st S49
  replace h40 := h40.st S49
  obtain ⟨O62, S63, hz65, ha66, h64⟩ := Sch.shut (x := (⟨(⟨x0.t.vars, x0.t.init, x0.t.goal, x0.t.ops⟩ : Tsk), q45.2.2.2, x0.que, x0.costs, x0.fin, x0.exp⟩ : Sch)) (l0 := 2) (l1 := 3) (l2 := 4) (l3 := 5) (l4 := 6) (by decide) h10 h13 h17 h21 h25 h52 h32 h35 h40 r44
  obtain rfl := sm hm
  replace hB := ((hB.st S9).st S49).st S63
  obtain ⟨O', hS', hz, hl⟩ := hE.leave (fun q => if q = 2 then i0 else 0) rfl hB
  exact ret1v rfl (res_tmp rfl) ⟨O', hS', (Ob.leave h64 hz (hl 2 (by decide) (by decide)) hx0.2), (vErr r60)⟩
 ·
  replace hm := im hm c61
  refine o_z ?_
  refine ewp_false rfl (ewp_skip (ewp_seq ?_))
  obtain ⟨y67, hy68, hm⟩ := bs hm
  refine ewp_join (fun l' w' => ∃ (x70 : Unit) (O' : Lab), subs l' [(0, (.pointer (some ⟨p0, 0, none⟩))), (2, (.int .i64 x2)), (3, (.int .i64 x3)), (4, (.int .i64 x4)), (11, (.int .i64 q45.1))] ∧ Bm w O0 w' O' ∧ Ob 2 w' O' (.pointer (some ⟨p0, 0, none⟩)) y67) ?_ ?_
  ·
   refine ewp_seq (ewp_region (o_mv rfl rfl (o_z ?_)))
   refine ewp_cond rfl (fun c72 => ?_) (fun c72 => ?_)
   ·
    replace hy68 := ip hy68 c72
    obtain ⟨u73, e74, hy68⟩ := bs hy68
    obtain ⟨u75, e76, hy68⟩ := bs hy68
    refine ewp_drawX [(6, []), (7, [5]), (12, []), (13, [6]), (16, [2])] O48 ?_
    refine x_pre (fuel := 16) [] [(2, true), (3, true), (4, true), (5, true)] (by kernel_rfl) rfl ?_
    refine h_mv rfl rfl rfl (h_nc rfl rfl rfl (h_fa rfl rfl rfl ?_))
    replace h10 := h10.st S49
    refine h_ldC (hc := fun w' ⟨O', hq⟩ => Blk.cell (i := 6) ((h10.st hq (by decide)).1) rfl) rfl rfl rfl ?_
    refine hwp_nilT ?_
    refine x_pre (fuel := 12) [5] [(8, true), (9, true), (10, true), (11, true)] (by kernel_rfl) rfl ?_
    refine h_mv rfl rfl rfl (h_nc rfl rfl rfl (h_fa rfl rfl rfl (h_ldC (hc := fun w' ⟨O', hq⟩ => Blk.cell (i := 7) ((h10.st hq (by decide)).1) rfl) rfl rfl rfl ?_)))
    refine hwp_nilT ?_
    refine x_pre (fuel := 11) [5, 6] [(0, true)] (by kernel_rfl) rfl ?_
    refine h_mv rfl rfl rfl (hwp_nilT ?_)
    refine x_pre (fuel := 10) [2, 5, 6] [(1, true)] (by kernel_rfl) rfl ?_
    refine h_mv rfl rfl rfl (hwp_nilT ?_)
    refine x_two (i := 6) (j := 12) (by kernel_rfl) rfl rfl ?_ ?_
    ·
     refine l_bslice 7 (by decide) O48 (xs := ([1125899906842624] : List Int)) rfl rfl rfl rfl ⟨(vInt (show inI64 (1125899906842624) from by decide)), trivial⟩ (by decide) (by decide) rfl fun g77 w78 O79 S80 h81 => ?_
     have hZ := S80.lst [] (fun _ h => h.elim)
     refine x_go [(7, [5]), (12, []), (13, [6]), (16, [2])] hZ (by kernel_rfl) ?_
     refine x_two (i := 7) (j := 12) (by kernel_rfl) rfl rfl ?_ ?_
     ·
      obtain ⟨e74, e83, e84⟩ := appI_some e74
      replace h35 := (h35.st S49).st S80
      refine l_append rfl h35 (h81.rd) rfl rfl (by decide) e83 e84 rfl fun A85 c86 w87 O88 S89 h90 => ?_
      rw [← e74] at h90 ⊢
      have hZ := S89.lst [5] (fun _ h => by cases h; decide)
      refine x_go [(12, []), (13, [6]), (16, [2])] hZ (by kernel_rfl) ?_
      refine x_one (i := 12) (by kernel_rfl) rfl ?_
      refine l_bslice 8 (by decide) O88 (xs := ([false] : List Bool)) rfl rfl rfl rfl ⟨vBool, trivial⟩ (by decide) (by decide) rfl fun g92 w93 O94 S95 h96 => ?_
      have hZ := S95.lst [] (fun _ h => h.elim)
      refine x_go [(13, [6]), (16, [2])] hZ (by kernel_rfl) ?_
      refine x_one (i := 13) (by kernel_rfl) rfl ?_
      obtain ⟨e76, e98, e99⟩ := appI_some e76
      replace h40 := (((h40.st S49).st S80).st S89).st S95
      refine l_append rfl h40 (h96.rd) rfl rfl (by decide) e98 e99 rfl fun A100 c101 w102 O103 S104 h105 => ?_
      rw [← e76] at h105 ⊢
      have hZ := S104.lst [6] (fun _ h => by cases h; decide)
      refine x_go [(16, [2])] hZ (by kernel_rfl) ?_
      refine x_pre (fuel := 4) [] [(14, true), (15, true)] (by kernel_rfl) rfl ?_
      refine h_nc rfl rfl rfl (h_fa rfl rfl rfl (hwp_nilT ?_))
      refine x_one (i := 16) (by kernel_rfl) rfl ?_
      replace h10 := (((h10.st S80).st S89).st S95).st S104
      refine l_store h10 rfl rfl rfl (Nat.le_of_ble_eq_true rfl) (by first | exact allOne rfl | simp [Value.cells, Value.oneCell', errV_one]) fun w107 S108 h10 => ?_
      replace h10 : Lc 2 w107 O103 p0 85 [(.slice A14 x0.t.vars.length c15), (.slice A18 x0.t.init.length c19), (.slice A22 x0.t.goal.length c23), (.slice A26 x0.t.ops.length c27), (.pointer (some ⟨p30, 0, none⟩)), (.pointer (some ⟨p33, 0, none⟩)), (.slice A85 u73.length c86), (.slice A41 x0.fin.length c42), (.int .i64 x0.exp)] := h10
      have hZ := S108.lst [2] (fun _ h => by cases h; decide)
      refine x_go [] hZ (by kernel_rfl) ?_
      refine x_pre (fuel := 1) [] [(17, true), (18, true)] (by kernel_rfl) rfl ?_
      refine h_nc rfl rfl rfl (h_fa rfl rfl rfl (hwp_nilT ?_))
      refine x_one (i := 19) (by kernel_rfl) rfl ?_
      refine l_store h10 rfl rfl rfl (Nat.le_of_ble_eq_true rfl) (by first | exact allOne rfl | simp [Value.cells, Value.oneCell', errV_one]) fun w109 S110 h10 => ?_
      replace h10 : Lc 2 w109 O103 p0 85 [(.slice A14 x0.t.vars.length c15), (.slice A18 x0.t.init.length c19), (.slice A22 x0.t.goal.length c23), (.slice A26 x0.t.ops.length c27), (.pointer (some ⟨p30, 0, none⟩)), (.pointer (some ⟨p33, 0, none⟩)), (.slice A85 u73.length c86), (.slice A100 u75.length c101), (.int .i64 x0.exp)] := h10
      refine x_end (by kernel_rfl) ?_
      refine x_nil (by kernel_rfl) ?_
      replace h13 := ((((((h13.st S49).st S80).st S89).st S95).st S104).st S108).st S110
      replace h17 := ((((((h17.st S49).st S80).st S89).st S95).st S104).st S108).st S110
      replace h21 := ((((((h21.st S49).st S80).st S89).st S95).st S104).st S108).st S110
      replace h25 := ((((((h25.st S49).st S80).st S89).st S95).st S104).st S108).st S110
      replace h32 := ((((((h32.st S49).st S80).st S89).st S95).st S104).st S108).st S110
      replace h52 := (((((h52.st S80).st S89).st S95).st S104).st S108).st S110
      replace h90 := (((h90.st S95).st S104).st S108).st S110
      replace h105 := (h105.st S108).st S110
      obtain ⟨O111, S112, hz114, ha115, h113⟩ := Sch.shut (x := (⟨(⟨x0.t.vars, x0.t.init, x0.t.goal, x0.t.ops⟩ : Tsk), q45.2.2.2, x0.que, u73, u75, x0.exp⟩ : Sch)) (l0 := 2) (l1 := 3) (l2 := 4) (l3 := 5) (l4 := 6) (by decide) h10 h13 h17 h21 h25 h52 h32 h90 h105 r44
      obtain rfl := sm hy68
      replace hB := ((((((((hB.st S9).st S49).st S80).st S89).st S95).st S104).st S108).st S110).st S112
      exact ⟨(), _, ⟨rfl, rfl, rfl, rfl, rfl, trivial⟩, hB, h113⟩
     ·
      refine l_bslice 8 (by decide) O79 (xs := ([false] : List Bool)) rfl rfl rfl rfl ⟨vBool, trivial⟩ (by decide) (by decide) rfl fun g116 w117 O118 S119 h120 => ?_
      have hZ := S119.lst [] (fun _ h => h.elim)
      refine x_go [(7, [5]), (13, [6]), (16, [2])] hZ (by kernel_rfl) ?_
      refine x_one (i := 7) (by kernel_rfl) rfl ?_
      obtain ⟨e74, e122, e123⟩ := appI_some e74
      replace h35 := ((h35.st S49).st S80).st S119
      replace h81 := h81.st S119
      refine l_append rfl h35 (h81.rd) rfl rfl (by decide) e122 e123 rfl fun A124 c125 w126 O127 S128 h129 => ?_
      rw [← e74] at h129 ⊢
      have hZ := S128.lst [5] (fun _ h => by cases h; decide)
      refine x_go [(13, [6]), (16, [2])] hZ (by kernel_rfl) ?_
      refine x_one (i := 13) (by kernel_rfl) rfl ?_
      obtain ⟨e76, e131, e132⟩ := appI_some e76
      replace h40 := (((h40.st S49).st S80).st S119).st S128
      replace h120 := h120.st S128
      refine l_append rfl h40 (h120.rd) rfl rfl (by decide) e131 e132 rfl fun A133 c134 w135 O136 S137 h138 => ?_
      rw [← e76] at h138 ⊢
      have hZ := S137.lst [6] (fun _ h => by cases h; decide)
      refine x_go [(16, [2])] hZ (by kernel_rfl) ?_
      refine x_pre (fuel := 4) [] [(14, true), (15, true)] (by kernel_rfl) rfl ?_
      refine h_nc rfl rfl rfl (h_fa rfl rfl rfl (hwp_nilT ?_))
      refine x_one (i := 16) (by kernel_rfl) rfl ?_
      replace h10 := (((h10.st S80).st S119).st S128).st S137
      refine l_store h10 rfl rfl rfl (Nat.le_of_ble_eq_true rfl) (by first | exact allOne rfl | simp [Value.cells, Value.oneCell', errV_one]) fun w140 S141 h10 => ?_
      replace h10 : Lc 2 w140 O136 p0 85 [(.slice A14 x0.t.vars.length c15), (.slice A18 x0.t.init.length c19), (.slice A22 x0.t.goal.length c23), (.slice A26 x0.t.ops.length c27), (.pointer (some ⟨p30, 0, none⟩)), (.pointer (some ⟨p33, 0, none⟩)), (.slice A124 u73.length c125), (.slice A41 x0.fin.length c42), (.int .i64 x0.exp)] := h10
      have hZ := S141.lst [2] (fun _ h => by cases h; decide)
      refine x_go [] hZ (by kernel_rfl) ?_
      refine x_pre (fuel := 1) [] [(17, true), (18, true)] (by kernel_rfl) rfl ?_
      refine h_nc rfl rfl rfl (h_fa rfl rfl rfl (hwp_nilT ?_))
      refine x_one (i := 19) (by kernel_rfl) rfl ?_
      refine l_store h10 rfl rfl rfl (Nat.le_of_ble_eq_true rfl) (by first | exact allOne rfl | simp [Value.cells, Value.oneCell', errV_one]) fun w142 S143 h10 => ?_
      replace h10 : Lc 2 w142 O136 p0 85 [(.slice A14 x0.t.vars.length c15), (.slice A18 x0.t.init.length c19), (.slice A22 x0.t.goal.length c23), (.slice A26 x0.t.ops.length c27), (.pointer (some ⟨p30, 0, none⟩)), (.pointer (some ⟨p33, 0, none⟩)), (.slice A124 u73.length c125), (.slice A133 u75.length c134), (.int .i64 x0.exp)] := h10
      refine x_end (by kernel_rfl) ?_
      refine x_nil (by kernel_rfl) ?_
      replace h13 := ((((((h13.st S49).st S80).st S119).st S128).st S137).st S141).st S143
      replace h17 := ((((((h17.st S49).st S80).st S119).st S128).st S137).st S141).st S143
      replace h21 := ((((((h21.st S49).st S80).st S119).st S128).st S137).st S141).st S143
      replace h25 := ((((((h25.st S49).st S80).st S119).st S128).st S137).st S141).st S143
      replace h32 := ((((((h32.st S49).st S80).st S119).st S128).st S137).st S141).st S143
      replace h52 := (((((h52.st S80).st S119).st S128).st S137).st S141).st S143
      replace h129 := ((h129.st S137).st S141).st S143
      replace h138 := (h138.st S141).st S143
      obtain ⟨O144, S145, hz147, ha148, h146⟩ := Sch.shut (x := (⟨(⟨x0.t.vars, x0.t.init, x0.t.goal, x0.t.ops⟩ : Tsk), q45.2.2.2, x0.que, u73, u75, x0.exp⟩ : Sch)) (l0 := 2) (l1 := 3) (l2 := 4) (l3 := 5) (l4 := 6) (by decide) h10 h13 h17 h21 h25 h52 h32 h129 h138 r44
      obtain rfl := sm hy68
      replace hB := ((((((((hB.st S9).st S49).st S80).st S119).st S128).st S137).st S141).st S143).st S145
      exact ⟨(), _, ⟨rfl, rfl, rfl, rfl, rfl, trivial⟩, hB, h146⟩
    ·
     refine l_bslice 8 (by decide) O48 (xs := ([false] : List Bool)) rfl rfl rfl rfl ⟨vBool, trivial⟩ (by decide) (by decide) rfl fun g149 w150 O151 S152 h153 => ?_
     have hZ := S152.lst [] (fun _ h => h.elim)
     refine x_go [(6, []), (7, [5]), (13, [6]), (16, [2])] hZ (by kernel_rfl) ?_
     refine x_one (i := 6) (by kernel_rfl) rfl ?_
     refine l_bslice 7 (by decide) O151 (xs := ([1125899906842624] : List Int)) rfl rfl rfl rfl ⟨(vInt (show inI64 (1125899906842624) from by decide)), trivial⟩ (by decide) (by decide) rfl fun g155 w156 O157 S158 h159 => ?_
     have hZ := S158.lst [] (fun _ h => h.elim)
     refine x_go [(7, [5]), (13, [6]), (16, [2])] hZ (by kernel_rfl) ?_
     refine x_one (i := 7) (by kernel_rfl) rfl ?_
     obtain ⟨e74, e161, e162⟩ := appI_some e74
     replace h35 := ((h35.st S49).st S152).st S158
     refine l_append rfl h35 (h159.rd) rfl rfl (by decide) e161 e162 rfl fun A163 c164 w165 O166 S167 h168 => ?_
     rw [← e74] at h168 ⊢
     have hZ := S167.lst [5] (fun _ h => by cases h; decide)
     refine x_go [(13, [6]), (16, [2])] hZ (by kernel_rfl) ?_
     refine x_one (i := 13) (by kernel_rfl) rfl ?_
     obtain ⟨e76, e170, e171⟩ := appI_some e76
     replace h40 := (((h40.st S49).st S152).st S158).st S167
     replace h153 := (h153.st S158).st S167
     refine l_append rfl h40 (h153.rd) rfl rfl (by decide) e170 e171 rfl fun A172 c173 w174 O175 S176 h177 => ?_
     rw [← e76] at h177 ⊢
     have hZ := S176.lst [6] (fun _ h => by cases h; decide)
     refine x_go [(16, [2])] hZ (by kernel_rfl) ?_
     refine x_pre (fuel := 4) [] [(14, true), (15, true)] (by kernel_rfl) rfl ?_
     refine h_nc rfl rfl rfl (h_fa rfl rfl rfl (hwp_nilT ?_))
     refine x_one (i := 16) (by kernel_rfl) rfl ?_
     replace h10 := (((h10.st S152).st S158).st S167).st S176
     refine l_store h10 rfl rfl rfl (Nat.le_of_ble_eq_true rfl) (by first | exact allOne rfl | simp [Value.cells, Value.oneCell', errV_one]) fun w179 S180 h10 => ?_
     replace h10 : Lc 2 w179 O175 p0 85 [(.slice A14 x0.t.vars.length c15), (.slice A18 x0.t.init.length c19), (.slice A22 x0.t.goal.length c23), (.slice A26 x0.t.ops.length c27), (.pointer (some ⟨p30, 0, none⟩)), (.pointer (some ⟨p33, 0, none⟩)), (.slice A163 u73.length c164), (.slice A41 x0.fin.length c42), (.int .i64 x0.exp)] := h10
     have hZ := S180.lst [2] (fun _ h => by cases h; decide)
     refine x_go [] hZ (by kernel_rfl) ?_
     refine x_pre (fuel := 1) [] [(17, true), (18, true)] (by kernel_rfl) rfl ?_
     refine h_nc rfl rfl rfl (h_fa rfl rfl rfl (hwp_nilT ?_))
     refine x_one (i := 19) (by kernel_rfl) rfl ?_
     refine l_store h10 rfl rfl rfl (Nat.le_of_ble_eq_true rfl) (by first | exact allOne rfl | simp [Value.cells, Value.oneCell', errV_one]) fun w181 S182 h10 => ?_
     replace h10 : Lc 2 w181 O175 p0 85 [(.slice A14 x0.t.vars.length c15), (.slice A18 x0.t.init.length c19), (.slice A22 x0.t.goal.length c23), (.slice A26 x0.t.ops.length c27), (.pointer (some ⟨p30, 0, none⟩)), (.pointer (some ⟨p33, 0, none⟩)), (.slice A163 u73.length c164), (.slice A172 u75.length c173), (.int .i64 x0.exp)] := h10
     refine x_end (by kernel_rfl) ?_
     refine x_nil (by kernel_rfl) ?_
     replace h13 := ((((((h13.st S49).st S152).st S158).st S167).st S176).st S180).st S182
     replace h17 := ((((((h17.st S49).st S152).st S158).st S167).st S176).st S180).st S182
     replace h21 := ((((((h21.st S49).st S152).st S158).st S167).st S176).st S180).st S182
     replace h25 := ((((((h25.st S49).st S152).st S158).st S167).st S176).st S180).st S182
     replace h32 := ((((((h32.st S49).st S152).st S158).st S167).st S176).st S180).st S182
     replace h52 := (((((h52.st S152).st S158).st S167).st S176).st S180).st S182
     replace h168 := ((h168.st S176).st S180).st S182
     replace h177 := (h177.st S180).st S182
     obtain ⟨O183, S184, hz186, ha187, h185⟩ := Sch.shut (x := (⟨(⟨x0.t.vars, x0.t.init, x0.t.goal, x0.t.ops⟩ : Tsk), q45.2.2.2, x0.que, u73, u75, x0.exp⟩ : Sch)) (l0 := 2) (l1 := 3) (l2 := 4) (l3 := 5) (l4 := 6) (by decide) h10 h13 h17 h21 h25 h52 h32 h168 h177 r44
     obtain rfl := sm hy68
     replace hB := ((((((((hB.st S9).st S49).st S152).st S158).st S167).st S176).st S180).st S182).st S184
     exact ⟨(), _, ⟨rfl, rfl, rfl, rfl, rfl, trivial⟩, hB, h185⟩
   ·
    replace hy68 := im' hy68 c72
    refine ewp_skip ?_
    replace h10 := h10.st S49
    replace h13 := h13.st S49
    replace h17 := h17.st S49
    replace h21 := h21.st S49
    replace h25 := h25.st S49
    replace h32 := h32.st S49
    replace h35 := h35.st S49
    replace h40 := h40.st S49
    obtain ⟨O188, S189, hz191, ha192, h190⟩ := Sch.shut (x := (⟨(⟨x0.t.vars, x0.t.init, x0.t.goal, x0.t.ops⟩ : Tsk), q45.2.2.2, x0.que, x0.costs, x0.fin, x0.exp⟩ : Sch)) (l0 := 2) (l1 := 3) (l2 := 4) (l3 := 5) (l4 := 6) (by decide) h10 h13 h17 h21 h25 h52 h32 h35 h40 r44
    obtain rfl := sm hy68
    replace hB := ((hB.st S9).st S49).st S189
    exact ⟨(), _, ⟨rfl, rfl, rfl, rfl, rfl, trivial⟩, hB, h190⟩
  replace hB := (hB.st S9).st S49
  rintro l193 w194 ⟨x70, O195, hs196, hB, h71⟩
  refine ewp_sub _ hs196 ?_
  refine ewp_seq (ewp_seq (ewp_region (o_mv rfl rfl (o_mv rfl rfl (o_nc rfl rfl ?_)))))
  obtain ⟨O197, v201, v205, v209, v213, v217, v220, v223, v228, S198, ha200, h199, h202, h206, h210, h214, h218, h221, h224, h229, r233⟩ := Sch.opn h71 2 3 4 5 6 (by decide)
  obtain ⟨A203, c204, rfl⟩ := h202.form
  obtain ⟨A207, c208, rfl⟩ := h206.form
  obtain ⟨A211, c212, rfl⟩ := h210.form
  obtain ⟨A215, c216, rfl⟩ := h214.form
  obtain ⟨p219, rfl⟩ := h218.ptr
  obtain ⟨p222, rfl⟩ := h221.ptr
  obtain ⟨A225, c226, rfl⟩ := h224.form
  obtain ⟨A230, c231, rfl⟩ := h229.form
  refine o_fa rfl rfl (o_ld (hc := Blk.cell (i := 6) (h199.1) rfl) rfl rfl ?_)
  refine o_mv rfl rfl ?_
  obtain ⟨a234, e235, hm⟩ := bs hm
  obtain ⟨p237, x236⟩ := atI_some' e235
  obtain ⟨b238, o239, ce240, hA241, hl242, hd243, rfl, r245⟩ := h224.elem x236
  refine o_iaE (hA := hA241) (hj := (Int.toNat_of_nonneg p237).symm) (hlt := hl242) rfl rfl rfl ?_
  refine o_ld (hc := cat0 hd243) rfl rfl ?_
  refine o_geS rfl rfl rfl (fun c246 => ?_) fun c246 => ?_
  ·
   replace hm := ip hm c246
   refine o_z ?_
   refine ewp_true rfl (ewp_seq (ewp_region (o_as rfl rfl (o_z ?_))))
   refine ewp_ret ?_
   obtain ⟨O247, S248, hz250, ha251, h249⟩ := Sch.shut (x := y67) (l0 := 2) (l1 := 3) (l2 := 4) (l3 := 5) (l4 := 6) (by decide) h199 h202 h206 h210 h214 h218 h221 h224 h229 r233
   obtain rfl := sm hm
   replace hB := (hB.st S198).st S248
   obtain ⟨O', hS', hz, hl⟩ := hE.leave (fun q => if q = 2 then i0 else 0) rfl hB
   exact ret1v rfl (res_tmp rfl) ⟨O', hS', (Ob.leave h249 hz (hl 2 (by decide) (by decide)) hx0.2), (vErr (show inI64 0 from by decide))⟩
  ·
   replace hm := im hm c246
   refine o_z ?_
   refine ewp_false rfl (ewp_skip (ewp_seq (ewp_region (o_mv rfl rfl (o_nc rfl rfl (o_fa rfl rfl (o_ld (hc := Blk.cell (i := 6) (h199.1) rfl) rfl rfl ?_)))))))
   refine o_mv rfl rfl (o_mv rfl rfl ?_)
   obtain ⟨a252, e253, hm⟩ := bs hm
   obtain ⟨p255, x254⟩ := atI_some' e253
   obtain ⟨b256, o257, ce258, hA259, hl260, hd261, rfl, r263⟩ := h224.elem x254
   refine o_iaE (hA := hA259) (hj := (Int.toNat_of_nonneg p255).symm) (hlt := hl260) rfl rfl rfl ?_
   refine l_setE rfl h224 (a := x4) (vInt rx4) hA259 rfl rfl (lt_of_get x254) fun w264 S265 h224 => ?_
   refine o_z ?_
   refine ewp_seq (ewp_seq (ewp_region (o_mv rfl rfl (o_nc rfl rfl (o_fa rfl rfl ?_)))))
   replace h199 := h199.st S265
   refine o_ld (hc := Blk.cell (i := 4) (h199.1) rfl) rfl rfl ?_
   refine o_mv rfl rfl (o_mv rfl rfl (o_mv rfl rfl (o_mv rfl rfl ?_)))
   obtain ⟨q266, e267, hm⟩ := bs hm
   replace h218 := h218.st S265
   refine l_callM (O := O197) (c_registry_Registry_SetLink h218 r59 rx2 rx3 rx4 e267) rfl rfl fun v272 w268 O269 S270 h271 => ?_
   obtain ⟨h273, h274⟩ := h271
   obtain ⟨rfl, r275⟩ := h274.err
   refine o_as rfl rfl (o_z ?_)
   refine ewp_seq (ewp_region (o_mv rfl rfl (o_rnS rfl rfl (fun c276 => ?_) fun c276 => ?_)))
   ·
    replace hm := ip hm c276
    refine o_z ?_
    refine ewp_true rfl (ewp_seq (ewp_region (o_mv rfl rfl (o_as rfl rfl (o_z ?_)))))
    refine ewp_ret ?_
    replace h199 := h199.st S270
    replace h202 := (h202.st S265).st S270
    replace h206 := (h206.st S265).st S270
    replace h210 := (h210.st S265).st S270
    replace h214 := (h214.st S265).st S270
    replace h221 := (h221.st S265).st S270
    replace h224 := h224.st S270
    replace h229 := (h229.st S265).st S270
    obtain ⟨O277, S278, hz280, ha281, h279⟩ := Sch.shut (x := (⟨(⟨y67.t.vars, y67.t.init, y67.t.goal, y67.t.ops⟩ : Tsk), q266.2, y67.que, (y67.costs.set (q45.1 : Int).toNat x4), y67.fin, y67.exp⟩ : Sch)) (l0 := 2) (l1 := 3) (l2 := 4) (l3 := 5) (l4 := 6) (by decide) (by have q := h199; rw [← ((by simp : (y67.costs.set (q45.1 : Int).toNat x4).length = y67.costs.length).trans rfl)] at q; exact q) h202 h206 h210 h214 h273 h221 h224.relen h229 r233
    obtain rfl := sm hm
    replace hB := (((hB.st S198).st S265).st S270).st S278
    obtain ⟨O', hS', hz, hl⟩ := hE.leave (fun q => if q = 2 then i0 else 0) rfl hB
    exact ret1v rfl (res_tmp rfl) ⟨O', hS', (Ob.leave h279 hz (hl 2 (by decide) (by decide)) hx0.2), (vErr r275)⟩
   ·
    replace hm := im hm c276
    refine o_z ?_
    refine ewp_false rfl (ewp_skip (ewp_seq (ewp_region (o_mv rfl rfl (o_nc rfl rfl (o_fa rfl rfl ?_))))))
    replace h199 := h199.st S270
    refine o_ld (hc := Blk.cell (i := 5) (h199.1) rfl) rfl rfl ?_
    refine o_mv rfl rfl (o_mv rfl rfl ?_)
    obtain ⟨q282, e283, hm⟩ := bs hm
    replace h221 := (h221.st S265).st S270
    refine l_callM (O := O269) (c_pqueue_Queue_Push h221 rx4 (show inI64 (0) from by decide) r59 e283) rfl rfl fun v288 w284 O285 S286 h287 => ?_
    obtain ⟨h289, h290⟩ := h287
    obtain ⟨rfl, r291⟩ := h290.err
    refine o_as rfl rfl (o_z ?_)
    refine ewp_ret ?_
    replace h199 := h199.st S286
    replace h202 := ((h202.st S265).st S270).st S286
    replace h206 := ((h206.st S265).st S270).st S286
    replace h210 := ((h210.st S265).st S270).st S286
    replace h214 := ((h214.st S265).st S270).st S286
    replace h224 := (h224.st S270).st S286
    replace h229 := ((h229.st S265).st S270).st S286
    replace h273 := h273.st S286
    obtain ⟨O292, S293, hz295, ha296, h294⟩ := Sch.shut (x := (⟨(⟨y67.t.vars, y67.t.init, y67.t.goal, y67.t.ops⟩ : Tsk), q266.2, q282.2, (y67.costs.set (q45.1 : Int).toNat x4), y67.fin, y67.exp⟩ : Sch)) (l0 := 2) (l1 := 3) (l2 := 4) (l3 := 5) (l4 := 6) (by decide) (by have q := h199; rw [← ((by simp : (y67.costs.set (q45.1 : Int).toNat x4).length = y67.costs.length).trans rfl)] at q; exact q) h202 h206 h210 h214 h273 h289 h224.relen h229 r233
    obtain rfl := sm hm
    replace hB := ((((hB.st S198).st S265).st S270).st S286).st S293
    obtain ⟨O', hS', hz, hl⟩ := hE.leave (fun q => if q = 2 then i0 else 0) rfl hB
    exact ret1v rfl (res_tmp rfl) ⟨O', hS', (Ob.leave h294 hz (hl 2 (by decide) (by decide)) hx0.2), (vErr r291)⟩
noncomputable def m_stubborn_search_expand (x0 : Sch) (x1 : Int) (x2 : List Int) : Option (Err × Sch) :=
  bnd (atI x0.fin x1) fun a43 => bnd (chkI (x0.exp + 1)) fun n56 => bnd (m_stubborn_set (⟨x0.t.vars, x0.t.init, x0.t.goal, x0.t.ops⟩ : Tsk) x2) fun q61 => bnd (rng (ρ := Err × Sch) (fun (k81 : Nat) (a82 : Int) (s79 : Sch) => bnd (m_task_Apply (⟨s79.t.vars, s79.t.init, s79.t.goal, s79.t.ops⟩ : Tsk) x2 a82) fun q139 => if q139.2.n ≠ 0 then (some (.ret ((⟨q139.2.n⟩ : Err), s79))) else (bnd (atI s79.costs x1) fun a159 => bnd (atI s79.t.ops a82) fun a171 => bnd (chkI (a159 + a171.cost)) fun n192 => bnd (m_stubborn_search_reach s79 q139.1 x1 a82 n192) fun q200 => if q200.1.n ≠ 0 then (some (.ret ((⟨q200.1.n⟩ : Err), q200.2))) else (some (.next q200.2)))) q61 0 (⟨(⟨x0.t.vars, x0.t.init, x0.t.goal, x0.t.ops⟩ : Tsk), x0.states, x0.que, x0.costs, (x0.fin.set (x1 : Int).toNat true), n56⟩ : Sch)) fun res77 => fin res77 fun (s215 : Sch) => some ((⟨0⟩ : Err), s215)
theorem c_stubborn_search_expand {w : World} {O : Lab} {p0 i0 : Nat} {x0 : Sch} (hx0 : Ob i0 w O (.pointer (some ⟨p0, 0, none⟩)) x0) {x1 : Int} (rx1 : inI64 x1) {vx2 : Value} {x2 : List Int} (hx2 : Vb w (Fr 0 w O) vx2 x2) {r : Err × Sch} (hm : m_stubborn_search_expand x0 x1 x2 = some r) :
    Fn Try.prog 66 [(.pointer (some ⟨p0, 0, none⟩)), (.int .i64 x1), vx2] w fun v w' => ∃ O', St (eT i0) w O w' O' ∧ Ob i0 w' O' (.pointer (some ⟨p0, 0, none⟩)) r.2 ∧ Vb w' (Fr 0 w' O') v r.1 := by
 obtain ⟨O0, hE, hz0, hl2⟩ := ent1 (w := w) (O := O) hx0.2
 have hx0' := Ob.leave hx0 hz0 hl2 (j := 2) (by decide)
 have hB : Bm w O0 w O0 := Bm.refl
 replace hx2 := hx2.mono hz0
 obtain ⟨A4, c5, rfl⟩ := hx2.form
 refine fn_enter Try.func66 rfl Try.ntmps66 rfl ?_
 unfold m_stubborn_search_expand at hm
 refine ewp_seq (ewp_region (o_as rfl rfl (o_z ?_)))
 refine ewp_seq (ewp_region (o_mv rfl rfl (o_nc rfl rfl ?_)))
 obtain ⟨O6, v10, v14, v18, v22, v26, v29, v32, v37, S7, ha9, h8, h11, h15, h19, h23, h27, h30, h33, h38, r42⟩ := Sch.opn hx0' 2 3 4 5 6 (by decide)
 obtain ⟨A12, c13, rfl⟩ := h11.form
 obtain ⟨A16, c17, rfl⟩ := h15.form
 obtain ⟨A20, c21, rfl⟩ := h19.form
 obtain ⟨A24, c25, rfl⟩ := h23.form
 obtain ⟨p28, rfl⟩ := h27.ptr
 obtain ⟨p31, rfl⟩ := h30.ptr
 obtain ⟨A34, c35, rfl⟩ := h33.form
 obtain ⟨A39, c40, rfl⟩ := h38.form
 refine o_fa rfl rfl (o_ld (hc := Blk.cell (i := 7) (h8.1) rfl) rfl rfl ?_)
 refine o_mv rfl rfl ?_
 obtain ⟨a43, e44, hm⟩ := bs hm
 obtain ⟨p46, x45⟩ := atI_some' e44
 obtain ⟨b47, o48, ce49, hA50, hl51, hd52, rfl⟩ := h38.elem x45
 refine o_iaE (hA := hA50) (hj := (Int.toNat_of_nonneg p46).symm) (hlt := hl51) rfl rfl rfl ?_
 refine l_setE rfl h38 (a := true) vBool hA50 rfl rfl (lt_of_get x45) fun w54 S55 h38 => ?_
 refine o_z ?_
 refine ewp_seq (ewp_region (o_mv rfl rfl (o_nc rfl rfl (o_fa rfl rfl ?_))))
 replace h8 := h8.st S55
 refine o_ld (hc := Blk.cell (i := 8) (h8.1) rfl) rfl rfl ?_
 obtain ⟨n56, e57, hm⟩ := bs hm
 have r58 := (chkI_rng e57)
 refine o_adE (he := e57) rfl rfl rfl ?_
 refine o_nc rfl rfl (o_fa rfl rfl (l_store h8 rfl rfl rfl (Nat.le_of_ble_eq_true rfl) (by first | exact allOne rfl | simp [Value.cells, Value.oneCell', errV_one]) fun w59 S60 h8 => ?_))
 replace h8 : Lc 2 w59 O6 p0 85 [(.slice A12 x0.t.vars.length c13), (.slice A16 x0.t.init.length c17), (.slice A20 x0.t.goal.length c21), (.slice A24 x0.t.ops.length c25), (.pointer (some ⟨p28, 0, none⟩)), (.pointer (some ⟨p31, 0, none⟩)), (.slice A34 x0.costs.length c35), (.slice A39 x0.fin.length c40), (.int .i64 n56)] := h8
 refine o_z ?_
 refine ewp_seq (ewp_seq (ewp_region (o_mv rfl rfl (o_nc rfl rfl (o_fa rfl rfl (o_la (hl := rfl) (hc := (cellsAt_part 0 4 (h8.1).cellsAt)) rfl rfl ?_))))))
 refine o_mv rfl rfl ?_
 obtain ⟨q61, e62, hm⟩ := bs hm
 replace hx2 := ((hx2.st S7).st S55).st S60
 replace h11 := (h11.st S55).st S60
 replace h15 := (h15.st S55).st S60
 replace h19 := (h19.st S55).st S60
 replace h23 := (h23.st S55).st S60
 refine l_call (O := O6) (R := fun w' F v => Vb w' F v q61) (c_stubborn_set Fr.lt (Vb.ofAgg (cs := [(.slice A12 x0.t.vars.length c13), (.slice A16 x0.t.init.length c17), (.slice A20 x0.t.goal.length c21), (.slice A24 x0.t.ops.length c25)]) (x := (⟨x0.t.vars, x0.t.init, x0.t.goal, x0.t.ops⟩ : Tsk)) rfl ⟨_, _, _, _, rfl, h11, h15, h19, h23⟩) hx2 e62) rfl rfl fun v67 w63 O64 S65 h66 => ?_
 obtain ⟨A68, c69, rfl⟩ := h66.form
 refine o_ln rfl rfl ?_
 have l71 : q61.length ≤ 9223372036854775807 := Nat.le_trans h66.len.2.1 h66.len.2.2
 have r70 : inI64 (q61.length : Int) := rngNat l71
 refine o_mv rfl rfl (o_z ?_)
 replace h8 := h8.st S65
 replace h11 := h11.st S65
 replace h15 := h15.st S65
 replace h19 := h19.st S65
 replace h23 := h23.st S65
 replace h27 := ((h27.st S55).st S60).st S65
 replace h30 := ((h30.st S55).st S60).st S65
 replace h33 := ((h33.st S55).st S60).st S65
 replace h38 := (h38.st S60).st S65
 obtain ⟨O72, S73, hz75, ha76, h74⟩ := Sch.shut (x := (⟨(⟨x0.t.vars, x0.t.init, x0.t.goal, x0.t.ops⟩ : Tsk), x0.states, x0.que, x0.costs, (x0.fin.set (x1 : Int).toNat true), n56⟩ : Sch)) (l0 := 2) (l1 := 3) (l2 := 4) (l3 := 5) (l4 := 6) (by decide) (by have q := h8; rw [← ((by simp : (x0.fin.set (x1 : Int).toNat true).length = x0.fin.length).trans rfl)] at q; exact q) h11 h15 h19 h23 h27 h30 h33 h38.relen r58
 obtain ⟨res77, hL78, hm⟩ := bs hm
 refine ewp_join (aft res77 (fun (s79 : Sch) (x80 : Unit) => []) (fun s79 x80 w' => ∃ O' : Lab, Bm w O0 w' O' ∧ Ob 2 w' O' (.pointer (some ⟨p0, 0, none⟩)) s79)) ?_ ?_
 ·
  refine ewp_block ?_
  replace hB := ((((hB.st S7).st S55).st S60).st S65).st S73
  replace hx2 := (hx2.st S65).st S73
  replace h66 := h66.st S73
  refine ewp_rng (σ := Sch) (X := Unit) (q61.length) hL78 rfl l71 (fun (s79 : Sch) (x80 : Unit) => [(0, (.pointer (some ⟨p0, 0, none⟩))), (1, (.int .i64 x1)), (2, (.slice A4 x2.length c5)), (30, (.slice A68 q61.length c69))]) _ (fun s79 x80 w' => ∃ O' : Lab, Bm w O0 w' O' ∧ Ob 2 w' O' (.pointer (some ⟨p0, 0, none⟩)) s79 ∧ Vb w' (Fr 0 w' O') (.slice A4 x2.length c5) x2 ∧ Vb w' (Fr 0 w' O') (.slice A68 q61.length c69) q61) _ () ⟨O72, hB, h74, hx2, h66⟩ ⟨rfl, rfl, rfl, rfl, rfl, rfl, trivial⟩ (fun _ _ => ⟨rfl, rfl⟩) (fun _ _ => trivial) (fun _ _ _ ⟨O', hB, h93, hx2, h66⟩ => ⟨O', hB, h93⟩) ⟨rfl, rfl, rfl⟩ ⟨rfl, rfl⟩ ?_
  rintro k81 a82 s79 x80 w83 cc85 hx86 ⟨O84, hB, h93, hx2, h66⟩ hf87 hret88 hbrk89
  have rk81 : inI64 (k81 : Int) := rngK hx86 l71
  refine ewp_seq (ewp_region ?_)
  obtain ⟨b94, o95, ce96, hA97, hl98, hd99, rfl, r101⟩ := h66.elem' hx86
  refine o_iaE (hA := hA97) (hj := rfl) (hlt := hl98) rfl rfl rfl ?_
  refine o_ld (hc := cat0 hd99) rfl rfl ?_
  refine o_as rfl rfl (o_z ?_)
  refine ewp_seq (ewp_region (o_mv rfl rfl (o_nc rfl rfl ?_)))
  obtain ⟨O102, v106, v110, v114, v118, v122, v125, v128, v133, S103, ha105, h104, h107, h111, h115, h119, h123, h126, h129, h134, r138⟩ := Sch.opn h93 2 3 4 5 6 (by decide)
  obtain ⟨A108, c109, rfl⟩ := h107.form
  obtain ⟨A112, c113, rfl⟩ := h111.form
  obtain ⟨A116, c117, rfl⟩ := h115.form
  obtain ⟨A120, c121, rfl⟩ := h119.form
  obtain ⟨p124, rfl⟩ := h123.ptr
  obtain ⟨p127, rfl⟩ := h126.ptr
  obtain ⟨A130, c131, rfl⟩ := h129.form
  obtain ⟨A135, c136, rfl⟩ := h134.form
  refine o_fa rfl rfl (o_la (hl := rfl) (hc := (cellsAt_part 0 4 (h104.1).cellsAt)) rfl rfl ?_)
  refine o_mv rfl rfl (o_mv rfl rfl ?_)
  obtain ⟨q139, e140, hf87⟩ := bs hf87
  replace hx2 := hx2.st S103
  refine l_call (O := O102) (R := fun w' F v => T2 w' F v q139) (c_task_Apply Fr.lt (Vb.ofAgg (cs := [(.slice A108 s79.t.vars.length c109), (.slice A112 s79.t.init.length c113), (.slice A116 s79.t.goal.length c117), (.slice A120 s79.t.ops.length c121)]) (x := (⟨s79.t.vars, s79.t.init, s79.t.goal, s79.t.ops⟩ : Tsk)) rfl ⟨_, _, _, _, rfl, h107, h111, h115, h119⟩) hx2 r101 e140) rfl rfl fun v145 w141 O142 S143 h144 => ?_
  obtain ⟨v146, v147, rfl, h148, h149⟩ := h144
  obtain ⟨A150, c151, rfl⟩ := h148.form
  obtain ⟨rfl, r152⟩ := h149.err
  refine o_mv rfl rfl (o_ex rfl rfl rfl (o_ex rfl rfl rfl (o_as rfl rfl (o_as rfl rfl (o_z ?_)))))
  refine ewp_seq (ewp_seq (ewp_region (o_mv rfl rfl (o_rnS rfl rfl (fun c153 => ?_) fun c153 => ?_))))
  ·
   replace hf87 := ip hf87 c153
   refine o_z ?_
   refine ewp_true rfl (ewp_seq (ewp_region (o_mv rfl rfl (o_as rfl rfl (o_z ?_)))))
   refine ewp_ret ?_
   replace h104 := h104.st S143
   replace h107 := h107.st S143
   replace h111 := h111.st S143
   replace h115 := h115.st S143
   replace h119 := h119.st S143
   replace h123 := h123.st S143
   replace h126 := h126.st S143
   replace h129 := h129.st S143
   replace h134 := h134.st S143
   obtain ⟨O154, S155, hz157, ha158, h156⟩ := Sch.shut (x := s79) (l0 := 2) (l1 := 3) (l2 := 4) (l3 := 5) (l4 := 6) (by decide) h104 h107 h111 h115 h119 h123 h126 h129 h134 r138
   obtain rfl := sm hf87
   obtain rfl := hret88 _ rfl
   obtain rfl := sm (fin_ret hm)
   replace hB := ((hB.st S103).st S143).st S155
   obtain ⟨O', hS', hz, hl⟩ := hE.leave (fun q => if q = 2 then i0 else 0) rfl hB
   exact ret1v rfl (res_tmp rfl) ⟨O', hS', (Ob.leave h156 hz (hl 2 (by decide) (by decide)) hx0.2), (vErr r152)⟩
  ·
   replace hf87 := im hf87 c153
   refine o_z ?_
   refine ewp_false rfl (ewp_skip (ewp_seq (ewp_drawX [(21, [2, 3, 4, 5, 6])] O142 ?_)))
   refine x_pre (fuel := 2) [] [(0, true), (1, true), (2, true), (3, true), (4, true), (5, true), (6, true), (7, true), (8, true), (9, true), (10, true), (11, true), (12, true), (13, true), (14, true), (15, true), (16, true), (17, true), (18, true), (19, true), (20, true)] (by kernel_rfl) rfl ?_
   refine h_mv rfl rfl rfl (h_mv rfl rfl rfl (h_mv rfl rfl rfl (h_mv rfl rfl rfl (h_mv rfl rfl rfl (h_nc rfl rfl rfl (h_fa rfl rfl rfl ?_))))))
   replace h104 := h104.st S143
   refine h_ldC (hc := fun w' ⟨O', hq⟩ => Blk.cell (i := 6) ((h104.st hq (by decide)).1) rfl) rfl rfl rfl ?_
   refine h_mv rfl rfl rfl ?_
   obtain ⟨a159, e160, hf87⟩ := bs hf87
   obtain ⟨p162, x161⟩ := atI_some' e160
   replace h129 := h129.st S143
   obtain ⟨b163, o164, ce165, hA166, hF169, hl167, hd168, rfl, r170⟩ := h129.elemF x161
   refine h_iaE (hA := hA166) (hj := (Int.toNat_of_nonneg p162).symm) (hlt := hl167) rfl rfl rfl rfl ?_
   refine h_ldC (hc := fun w' ⟨O', hq⟩ => cat0 (cellsAt_agree (hq.agree (i := 5) (by decide)) hF169 hd168)) rfl rfl rfl ?_
   refine h_mv rfl rfl rfl (h_nc rfl rfl rfl (h_fa rfl rfl rfl (h_fa rfl rfl rfl (h_ldC (hc := fun w' ⟨O', hq⟩ => Blk.cell (i := 3) ((h104.st hq (by decide)).1) rfl) rfl rfl rfl ?_))))
   refine h_mv rfl rfl rfl ?_
   obtain ⟨a171, e172, hf87⟩ := bs hf87
   obtain ⟨p174, x173⟩ := atI_some' e172
   replace h119 := h119.st S143
   obtain ⟨b175, o176, ce177, hA178, hF181, hl179, hd180, v182, v183, rfl, h184, h187, r190, z191⟩ := h119.elem x173
   obtain ⟨A185, c186, rfl⟩ := h184.form
   obtain ⟨A188, c189, rfl⟩ := h187.form
   refine h_iaE (hA := hA178) (hj := (Int.toNat_of_nonneg p174).symm) (hlt := hl179) rfl rfl rfl rfl ?_
   refine h_fa rfl rfl rfl (h_ldC (hc := fun w' ⟨O', hq⟩ => cat1 (cellsAt_agree (hq.agree (i := 0) (by decide)) hF181 hd180)) rfl rfl rfl ?_)
   obtain ⟨n192, e193, hf87⟩ := bs hf87
   have r194 := (chkI_rng e193)
   refine h_adE (he := e193) rfl rfl rfl rfl ?_
   refine hwp_nilT ?_
   refine x_one (i := 21) (by kernel_rfl) rfl ?_
   replace h107 := h107.st S143
   replace h111 := h111.st S143
   replace h115 := h115.st S143
   replace h123 := h123.st S143
   replace h126 := h126.st S143
   replace h134 := h134.st S143
   obtain ⟨O195, S196, hz198, ha199, h197⟩ := Sch.shut (x := s79) (l0 := 2) (l1 := 3) (l2 := 4) (l3 := 5) (l4 := 6) (by decide) h104 h107 h111 h115 h119 h123 h126 h129 h134 r138
   have hZ := S196.lst [2, 3, 4, 5, 6] (by decide)
   obtain ⟨q200, e201, hf87⟩ := bs hf87
   replace h148 := h148.st S196
   refine l_callM (O := O195) (c_stubborn_search_reach h197 h148 rx1 r101 r194 e201) rfl rfl fun v206 w202 O203 S204 h205 => ?_
   obtain ⟨h207, h208⟩ := h205
   obtain ⟨rfl, r209⟩ := h208.err
   replace hZ := hZ.cmp S204 [2, 3, 4, 5, 6] (fun _ h => by cases h; decide) rfl
   refine x_go [] hZ (by kernel_rfl) ?_
   refine x_pre (fuel := 0) [] [(22, true)] (by kernel_rfl) rfl ?_
   refine h_as rfl rfl rfl (hwp_nilT ?_)
   refine x_nil (by kernel_rfl) ?_
   refine ewp_seq (ewp_region (o_mv rfl rfl (o_rnS rfl rfl (fun c210 => ?_) fun c210 => ?_)))
   ·
    replace hf87 := ip hf87 c210
    refine o_z ?_
    refine ewp_true rfl (ewp_seq (ewp_region (o_mv rfl rfl (o_as rfl rfl (o_z ?_)))))
    refine ewp_ret ?_
    obtain rfl := sm hf87
    obtain rfl := hret88 _ rfl
    obtain rfl := sm (fin_ret hm)
    replace hB := (((hB.st S103).st S143).st S196).st S204
    obtain ⟨O', hS', hz, hl⟩ := hE.leave (fun q => if q = 2 then i0 else 0) rfl hB
    exact ret1v rfl (res_tmp rfl) ⟨O', hS', (Ob.leave h207 hz (hl 2 (by decide) (by decide)) hx0.2), (vErr r209)⟩
   ·
    replace hf87 := im hf87 c210
    refine o_z ?_
    refine ewp_false rfl (ewp_skip ?_)
    obtain rfl := sm hf87
    refine (?_ : Exists _)
    replace hB := (((hB.st S103).st S143).st S196).st S204
    replace hx2 := ((hx2.st S143).st S196).st S204
    replace h66 := (((h66.st S103).st S143).st S196).st S204
    exact ⟨_, (), rfl, ⟨rfl, rfl, rfl, rfl, rfl, rfl, trivial⟩, _, hB, h207, hx2, h66⟩
 replace hB := ((((hB.st S7).st S55).st S60).st S65).st S73
 rintro l211 w212 ⟨s215, x216, rfl, hs214, O213, hB, h93⟩
 replace hm := fin_done hm
 refine ewp_sub _ hs214 ?_
 refine ewp_seq (ewp_region (o_as rfl rfl (o_z ?_)))
 refine ewp_ret ?_
 obtain rfl := sm hm
 obtain ⟨O', hS', hz, hl⟩ := hE.leave (fun q => if q = 2 then i0 else 0) rfl hB
 exact ret1v rfl (res_tmp rfl) ⟨O', hS', (Ob.leave h93 hz (hl 2 (by decide) (by decide)) hx0.2), (vErr (show inI64 0 from by decide))⟩
noncomputable def m_stubborn_search_run (x0 : Sch) (x1 : Int) : Option (Rsl × Sch) :=
  bnd (lop (ρ := Rsl × Sch) (fun (s17 : Int × Sch) => bnd (m_pqueue_Queue_Len s17.2.que) fun q71 => if 0 < q71 then (bnd (m_pqueue_Queue_Pop s17.2.que) fun q82 => bnd (if q82.2.2.2.1.n ≠ 0 then (some true) else (bnd (atI s17.2.fin q82.2.2.1) fun a112 => if a112 = true then (some true) else (bnd (atI s17.2.costs q82.2.2.1) fun a129 => if q82.1 ≠ a129 then (some true) else (some false))) : Option Bool) fun y102 => if y102 = true then (some (.next (s17.1, (⟨(⟨s17.2.t.vars, s17.2.t.init, s17.2.t.goal, s17.2.t.ops⟩ : Tsk), s17.2.states, q82.2.2.2.2, s17.2.costs, s17.2.fin, s17.2.exp⟩ : Sch)))) else (bnd (m_registry_Registry_State ((⟨(⟨s17.2.t.vars, s17.2.t.init, s17.2.t.goal, s17.2.t.ops⟩ : Tsk), s17.2.states, q82.2.2.2.2, s17.2.costs, s17.2.fin, s17.2.exp⟩ : Sch).states) q82.2.2.1) fun q194 => if q194.2.n ≠ 0 then (some (.brk (s17.1, (⟨(⟨s17.2.t.vars, s17.2.t.init, s17.2.t.goal, s17.2.t.ops⟩ : Tsk), s17.2.states, q82.2.2.2.2, s17.2.costs, s17.2.fin, s17.2.exp⟩ : Sch)))) else (bnd (m_task_Holds ((⟨(⟨s17.2.t.vars, s17.2.t.init, s17.2.t.goal, s17.2.t.ops⟩ : Tsk), s17.2.states, q82.2.2.2.2, s17.2.costs, s17.2.fin, s17.2.exp⟩ : Sch).t.goal) q194.1) fun q215 => if q215 = true then bnd (m_registry_Registry_Path ((⟨(⟨s17.2.t.vars, s17.2.t.init, s17.2.t.goal, s17.2.t.ops⟩ : Tsk), s17.2.states, q82.2.2.2.2, s17.2.costs, s17.2.fin, s17.2.exp⟩ : Sch).states) q82.2.2.1) fun q294 => if q294.2.n ≠ 0 then (some (.brk (s17.1, (⟨(⟨s17.2.t.vars, s17.2.t.init, s17.2.t.goal, s17.2.t.ops⟩ : Tsk), s17.2.states, q82.2.2.2.2, s17.2.costs, s17.2.fin, s17.2.exp⟩ : Sch)))) else (some (.ret ((⟨1, q294.1, q82.1, (⟨(⟨s17.2.t.vars, s17.2.t.init, s17.2.t.goal, s17.2.t.ops⟩ : Tsk), s17.2.states, q82.2.2.2.2, s17.2.costs, s17.2.fin, s17.2.exp⟩ : Sch).exp⟩ : Rsl), (⟨(⟨s17.2.t.vars, s17.2.t.init, s17.2.t.goal, s17.2.t.ops⟩ : Tsk), s17.2.states, q82.2.2.2.2, s17.2.costs, s17.2.fin, s17.2.exp⟩ : Sch)))) else if x1 ≤ ((⟨(⟨s17.2.t.vars, s17.2.t.init, s17.2.t.goal, s17.2.t.ops⟩ : Tsk), s17.2.states, q82.2.2.2.2, s17.2.costs, s17.2.fin, s17.2.exp⟩ : Sch).exp) then (some (.ret ((⟨3, ([] : List Int), 0, (⟨(⟨s17.2.t.vars, s17.2.t.init, s17.2.t.goal, s17.2.t.ops⟩ : Tsk), s17.2.states, q82.2.2.2.2, s17.2.costs, s17.2.fin, s17.2.exp⟩ : Sch).exp⟩ : Rsl), (⟨(⟨s17.2.t.vars, s17.2.t.init, s17.2.t.goal, s17.2.t.ops⟩ : Tsk), s17.2.states, q82.2.2.2.2, s17.2.costs, s17.2.fin, s17.2.exp⟩ : Sch)))) else (bnd (m_stubborn_search_expand (⟨(⟨s17.2.t.vars, s17.2.t.init, s17.2.t.goal, s17.2.t.ops⟩ : Tsk), s17.2.states, q82.2.2.2.2, s17.2.costs, s17.2.fin, s17.2.exp⟩ : Sch) q82.2.2.1 q194.1) fun q237 => if q237.1.n ≠ 0 then (some (.ret ((⟨3, ([] : List Int), 0, q237.2.exp⟩ : Rsl), q237.2))) else (some (.next ((⟨(⟨s17.2.t.vars, s17.2.t.init, s17.2.t.goal, s17.2.t.ops⟩ : Tsk), s17.2.states, q82.2.2.2.2, s17.2.costs, s17.2.fin, s17.2.exp⟩ : Sch).exp, q237.2))))))) else (some (.brk (s17.1, s17.2)))) (0, x0)) fun res15 => fin res15 fun (s331 : Int × Sch) => some ((⟨2, ([] : List Int), 0, s331.2.exp⟩ : Rsl), s331.2)
theorem c_stubborn_search_run {w : World} {O : Lab} {p0 i0 : Nat} {x0 : Sch} (hx0 : Ob i0 w O (.pointer (some ⟨p0, 0, none⟩)) x0) {x1 : Int} (rx1 : inI64 x1) {r : Rsl × Sch} (hm : m_stubborn_search_run x0 x1 = some r) :
    Fn Try.prog 42 [(.pointer (some ⟨p0, 0, none⟩)), (.int .i64 x1)] w fun v w' => ∃ O', St (eT i0) w O w' O' ∧ Ob i0 w' O' (.pointer (some ⟨p0, 0, none⟩)) r.2 ∧ Vb w' (Fr 0 w' O') v r.1 := by
 obtain ⟨O0, hE, hz0, hl2⟩ := ent1 (w := w) (O := O) hx0.2
 have hx0' := Ob.leave hx0 hz0 hl2 (j := 2) (by decide)
 have hB : Bm w O0 w O0 := Bm.refl
 refine fn_enter Try.func42 rfl Try.ntmps42 rfl ?_
 unfold m_stubborn_search_run at hm
 refine ewp_seq (ewp_region (l_alloc 3 O0 rfl fun g3 w4 O5 S6 h7 => ?_))
 refine o_z ?_
 refine ewp_seq (ewp_region (o_bd rfl rfl rfl ?_))
 refine l_alloc 4 O5 rfl fun g8 w9 O10 S11 h12 => ?_
 refine l_store h12 rfl rfl rfl (Nat.le_of_ble_eq_true rfl) (by first | exact allOne rfl | simp [Value.cells, Value.oneCell', errV_one]) fun w13 S14 h12 => ?_
 replace h12 : Lc 4 w13 O10 g8 50 [(.int .i64 3), (.slice none 0 0), (.int .i64 0), (.int .i64 0)] := h12
 refine o_z ?_
 refine ewp_seq ?_
 obtain ⟨res15, hL16, hm⟩ := bs hm
 refine ewp_join (aft res15 (fun (s17 : Int × Sch) (x18 : Unit) => [(0, (.pointer (some ⟨p0, 0, none⟩))), (4, (.pointer (some ⟨g3, 0, none⟩)))]) (fun s17 x18 w' => ∃ O' : Lab, Bm w O0 w' O' ∧ Ob 2 w' O' (.pointer (some ⟨p0, 0, none⟩)) s17.2 ∧ Lc 3 w' O' g3 50 [(.int .i64 0), (.slice none 0 0), (.int .i64 0), (.int .i64 0)] ∧ inI64 s17.1)) ?_ ?_
 ·
  refine ewp_block ?_
  replace hB := ((hB.st S6).st S11).st S14
  replace hx0' := ((hx0'.st S6).st S11).st S14
  replace h7 := (h7.st S11).st S14
  refine ewp_lop (σ := Int × Sch) (X := Unit) hL16 (fun (s17 : Int × Sch) (x18 : Unit) => [(0, (.pointer (some ⟨p0, 0, none⟩))), (1, (.int .i64 x1)), (4, (.pointer (some ⟨g3, 0, none⟩))), (5, (.pointer (some ⟨g8, 0, none⟩)))]) _ (fun s17 x18 w' => ∃ O' : Lab, Bm w O0 w' O' ∧ Ob 2 w' O' (.pointer (some ⟨p0, 0, none⟩)) s17.2 ∧ Lc 3 w' O' g3 50 [(.int .i64 0), (.slice none 0 0), (.int .i64 0), (.int .i64 0)] ∧ Lc 4 w' O' g8 50 [(.int .i64 3), (.slice none 0 0), (.int .i64 0), (.int .i64 s17.1)] ∧ inI64 s17.1) _ () ⟨O10, hB, hx0', h7, h12, (show inI64 0 from by decide)⟩ ⟨rfl, rfl, rfl, rfl, trivial⟩ ?_
  rintro s17 x18 w21 cc23 ⟨O22, hB, h33, h7, h12, r32⟩ hf25 hret26 hbrk27
  refine ewp_seq (ewp_seq (ewp_region (o_mv rfl rfl (o_nc rfl rfl ?_))))
  obtain ⟨O34, v38, v42, v46, v50, v54, v57, v60, v65, S35, ha37, h36, h39, h43, h47, h51, h55, h58, h61, h66, r70⟩ := Sch.opn h33 2 5 6 7 8 (by decide)
  obtain ⟨A40, c41, rfl⟩ := h39.form
  obtain ⟨A44, c45, rfl⟩ := h43.form
  obtain ⟨A48, c49, rfl⟩ := h47.form
  obtain ⟨A52, c53, rfl⟩ := h51.form
  obtain ⟨p56, rfl⟩ := h55.ptr
  obtain ⟨p59, rfl⟩ := h58.ptr
  obtain ⟨A62, c63, rfl⟩ := h61.form
  obtain ⟨A67, c68, rfl⟩ := h66.form
  refine o_fa rfl rfl (o_ld (hc := Blk.cell (i := 5) (h36.1) rfl) rfl rfl ?_)
  obtain ⟨q71, e72, hf25⟩ := bs hf25
  refine l_callM (O := O34) (c_pqueue_Queue_Len h58 e72) rfl rfl fun v77 w73 O74 S75 h76 => ?_
  obtain ⟨h78, h79⟩ := h76
  obtain ⟨rfl, r80⟩ := h79.int
  refine o_gtS rfl rfl rfl (fun c81 => ?_) fun c81 => ?_
  ·
   replace hf25 := ip hf25 c81
   refine o_z ?_
   refine ewp_true rfl (ewp_skip (ewp_block (ewp_seq (ewp_region (o_mv rfl rfl (o_nc rfl rfl (o_fa rfl rfl ?_)))))))
   replace h36 := h36.st S75
   refine o_ld (hc := Blk.cell (i := 5) (h36.1) rfl) rfl rfl ?_
   obtain ⟨q82, e83, hf25⟩ := bs hf25
   refine l_callM (O := O74) (c_pqueue_Queue_Pop h78 e83) rfl rfl fun v88 w84 O85 S86 h87 => ?_
   obtain ⟨v90, v91, v92, v93, h89, rfl, h94, h95, h96, h97⟩ := h87
   obtain ⟨rfl, r98⟩ := h94.int
   obtain ⟨rfl, r99⟩ := h95.int
   obtain ⟨rfl, r100⟩ := h96.int
   obtain ⟨rfl, r101⟩ := h97.err
   refine o_mv rfl rfl (o_ex rfl rfl rfl (o_ex rfl rfl rfl (o_ex rfl rfl rfl (o_ex rfl rfl rfl (o_as rfl rfl (o_as rfl rfl (o_as rfl rfl (o_as rfl rfl (o_z ?_)))))))))
   refine ewp_seq (ewp_seq ?_)
   obtain ⟨y102, hy103, hf25⟩ := bs hf25
   refine ewp_join (fun l' w' => ∃ (x105 : Unit) (O' : Lab), subs l' [(0, (.pointer (some ⟨p0, 0, none⟩))), (1, (.int .i64 x1)), (4, (.pointer (some ⟨g3, 0, none⟩))), (5, (.pointer (some ⟨g8, 0, none⟩))), (6, (.int .i64 q82.1)), (8, (.int .i64 q82.2.2.1)), (51, (.bool y102))] ∧ Bm w O0 w' O' ∧ Ob 2 w' O' (.pointer (some ⟨p0, 0, none⟩)) (⟨(⟨s17.2.t.vars, s17.2.t.init, s17.2.t.goal, s17.2.t.ops⟩ : Tsk), s17.2.states, q82.2.2.2.2, s17.2.costs, s17.2.fin, s17.2.exp⟩ : Sch) ∧ Lc 3 w' O' g3 50 [(.int .i64 0), (.slice none 0 0), (.int .i64 0), (.int .i64 0)] ∧ Lc 4 w' O' g8 50 [(.int .i64 3), (.slice none 0 0), (.int .i64 0), (.int .i64 s17.1)]) ?_ ?_
   ·
    refine ewp_region (o_mv rfl rfl (o_rnS rfl rfl (fun c106 => ?_) fun c106 => ?_))
    ·
     replace hy103 := ip hy103 c106
     refine o_mv rfl rfl (owp_no rfl rfl rfl rfl (owp_no rfl rfl rfl rfl (owp_no rfl rfl rfl rfl (owp_no rfl rfl rfl rfl (owp_no rfl rfl rfl rfl (owp_no rfl rfl rfl rfl (owp_no rfl rfl rfl rfl (o_pt rfl rfl rfl (o_mv rfl rfl (owp_no rfl rfl rfl rfl (owp_no rfl rfl rfl rfl (owp_no rfl rfl rfl rfl (owp_no rfl rfl rfl rfl (owp_no rfl rfl rfl rfl ?_))))))))))))))
     refine owp_no rfl rfl rfl rfl (owp_no rfl rfl rfl rfl (owp_no rfl rfl rfl rfl (owp_no rfl rfl rfl rfl (o_pt rfl rfl rfl (o_z ?_)))))
     replace h36 := h36.st S86
     replace h39 := (h39.st S75).st S86
     replace h43 := (h43.st S75).st S86
     replace h47 := (h47.st S75).st S86
     replace h51 := (h51.st S75).st S86
     replace h55 := (h55.st S75).st S86
     replace h61 := (h61.st S75).st S86
     replace h66 := (h66.st S75).st S86
     obtain ⟨O107, S108, hz110, ha111, h109⟩ := Sch.shut (x := (⟨(⟨s17.2.t.vars, s17.2.t.init, s17.2.t.goal, s17.2.t.ops⟩ : Tsk), s17.2.states, q82.2.2.2.2, s17.2.costs, s17.2.fin, s17.2.exp⟩ : Sch)) (l0 := 2) (l1 := 5) (l2 := 6) (l3 := 7) (l4 := 8) (by decide) h36 h39 h43 h47 h51 h55 h89 h61 h66 r70
     obtain rfl := sm hy103
     replace hB := (((hB.st S35).st S75).st S86).st S108
     replace h7 := (((h7.st S35).st S75).st S86).st S108
     replace h12 := (((h12.st S35).st S75).st S86).st S108
     exact ⟨(), _, ⟨rfl, rfl, rfl, rfl, rfl, rfl, rfl, trivial⟩, hB, h109, h7, h12⟩
    ·
     replace hy103 := im hy103 c106
     refine o_mv rfl rfl (owp_yes rfl rfl (o_mv rfl rfl (owp_yes rfl rfl (o_nc rfl rfl (owp_yes rfl rfl (o_fa rfl rfl (owp_yes rfl rfl ?_)))))))
     replace h36 := h36.st S86
     refine o_ld (hc := Blk.cell (i := 7) (h36.1) rfl) rfl rfl ?_
     refine owp_yes rfl rfl (o_mv rfl rfl (owp_yes rfl rfl ?_))
     obtain ⟨a112, e113, hy103⟩ := bs hy103
     obtain ⟨p115, x114⟩ := atI_some' e113
     replace h66 := (h66.st S75).st S86
     obtain ⟨b116, o117, ce118, hA119, hl120, hd121, rfl⟩ := h66.elem x114
     refine o_iaE (hA := hA119) (hj := (Int.toNat_of_nonneg p115).symm) (hlt := hl120) rfl rfl rfl ?_
     refine owp_yes rfl rfl (o_ld (hc := cat0 hd121) rfl rfl ?_)
     refine o_pf rfl rfl rfl (o_mv rfl rfl ?_)
     rcases Bool.eq_false_or_eq_true a112 with c123 | c123
     ·
      try rw [c123]
      replace hy103 := ip hy103 c123
      refine owp_no rfl rfl rfl rfl (owp_no rfl rfl rfl rfl (owp_no rfl rfl rfl rfl (owp_no rfl rfl rfl rfl (owp_no rfl rfl rfl rfl (owp_no rfl rfl rfl rfl (owp_no rfl rfl rfl rfl (owp_no rfl rfl rfl rfl (owp_no rfl rfl rfl rfl (o_pt rfl rfl rfl (o_z ?_))))))))))
      replace h39 := (h39.st S75).st S86
      replace h43 := (h43.st S75).st S86
      replace h47 := (h47.st S75).st S86
      replace h51 := (h51.st S75).st S86
      replace h55 := (h55.st S75).st S86
      replace h61 := (h61.st S75).st S86
      obtain ⟨O124, S125, hz127, ha128, h126⟩ := Sch.shut (x := (⟨(⟨s17.2.t.vars, s17.2.t.init, s17.2.t.goal, s17.2.t.ops⟩ : Tsk), s17.2.states, q82.2.2.2.2, s17.2.costs, s17.2.fin, s17.2.exp⟩ : Sch)) (l0 := 2) (l1 := 5) (l2 := 6) (l3 := 7) (l4 := 8) (by decide) h36 h39 h43 h47 h51 h55 h89 h61 h66 r70
      obtain rfl := sm hy103
      replace hB := (((hB.st S35).st S75).st S86).st S125
      replace h7 := (((h7.st S35).st S75).st S86).st S125
      replace h12 := (((h12.st S35).st S75).st S86).st S125
      exact ⟨(), _, ⟨rfl, rfl, rfl, rfl, rfl, rfl, rfl, trivial⟩, hB, h126, h7, h12⟩
     ·
      try rw [c123]
      replace hy103 := im' hy103 c123
      refine owp_yes rfl rfl (o_mv rfl rfl (owp_yes rfl rfl (o_mv rfl rfl (owp_yes rfl rfl (o_nc rfl rfl (owp_yes rfl rfl (o_fa rfl rfl (owp_yes rfl rfl (o_ld (hc := Blk.cell (i := 6) (h36.1) rfl) rfl rfl ?_)))))))))
      refine owp_yes rfl rfl (o_mv rfl rfl (owp_yes rfl rfl ?_))
      obtain ⟨a129, e130, hy103⟩ := bs hy103
      obtain ⟨p132, x131⟩ := atI_some' e130
      replace h61 := (h61.st S75).st S86
      obtain ⟨b133, o134, ce135, hA136, hl137, hd138, rfl, r140⟩ := h61.elem x131
      refine o_iaE (hA := hA136) (hj := (Int.toNat_of_nonneg p132).symm) (hlt := hl137) rfl rfl rfl ?_
      refine owp_yes rfl rfl (o_ld (hc := cat0 hd138) rfl rfl ?_)
      refine owp_yes rfl rfl (o_neS rfl rfl rfl (fun c141 => ?_) fun c141 => ?_)
      ·
       replace hy103 := ip hy103 c141
       refine o_pf rfl rfl rfl (o_z ?_)
       replace h39 := (h39.st S75).st S86
       replace h43 := (h43.st S75).st S86
       replace h47 := (h47.st S75).st S86
       replace h51 := (h51.st S75).st S86
       replace h55 := (h55.st S75).st S86
       obtain ⟨O142, S143, hz145, ha146, h144⟩ := Sch.shut (x := (⟨(⟨s17.2.t.vars, s17.2.t.init, s17.2.t.goal, s17.2.t.ops⟩ : Tsk), s17.2.states, q82.2.2.2.2, s17.2.costs, s17.2.fin, s17.2.exp⟩ : Sch)) (l0 := 2) (l1 := 5) (l2 := 6) (l3 := 7) (l4 := 8) (by decide) h36 h39 h43 h47 h51 h55 h89 h61 h66 r70
       obtain rfl := sm hy103
       replace hB := (((hB.st S35).st S75).st S86).st S143
       replace h7 := (((h7.st S35).st S75).st S86).st S143
       replace h12 := (((h12.st S35).st S75).st S86).st S143
       exact ⟨(), _, ⟨rfl, rfl, rfl, rfl, rfl, rfl, rfl, trivial⟩, hB, h144, h7, h12⟩
      ·
       replace hy103 := im hy103 c141
       refine o_pf rfl rfl rfl (o_z ?_)
       replace h39 := (h39.st S75).st S86
       replace h43 := (h43.st S75).st S86
       replace h47 := (h47.st S75).st S86
       replace h51 := (h51.st S75).st S86
       replace h55 := (h55.st S75).st S86
       obtain ⟨O147, S148, hz150, ha151, h149⟩ := Sch.shut (x := (⟨(⟨s17.2.t.vars, s17.2.t.init, s17.2.t.goal, s17.2.t.ops⟩ : Tsk), s17.2.states, q82.2.2.2.2, s17.2.costs, s17.2.fin, s17.2.exp⟩ : Sch)) (l0 := 2) (l1 := 5) (l2 := 6) (l3 := 7) (l4 := 8) (by decide) h36 h39 h43 h47 h51 h55 h89 h61 h66 r70
       obtain rfl := sm hy103
       replace hB := (((hB.st S35).st S75).st S86).st S148
       replace h7 := (((h7.st S35).st S75).st S86).st S148
       replace h12 := (((h12.st S35).st S75).st S86).st S148
       exact ⟨(), _, ⟨rfl, rfl, rfl, rfl, rfl, rfl, rfl, trivial⟩, hB, h149, h7, h12⟩
   replace hB := ((hB.st S35).st S75).st S86
   replace h7 := ((h7.st S35).st S75).st S86
   replace h12 := ((h12.st S35).st S75).st S86
   rintro l152 w153 ⟨x105, O154, hs155, hB, h105, h7, h12⟩
   refine ewp_sub _ hs155 ?_
   refine ewp_cond rfl (fun c156 => ?_) (fun c156 => ?_)
   ·
    replace hf25 := ip hf25 c156
    refine ewp_exit ?_
    obtain rfl := sm hf25
    refine (?_ : Exists _)
    exact ⟨_, (), rfl, ⟨rfl, rfl, rfl, rfl, trivial⟩, _, hB, h105, h7, h12, r32⟩
   ·
    replace hf25 := im' hf25 c156
    refine ewp_skip (ewp_seq (ewp_region (o_mv rfl rfl (o_nc rfl rfl ?_))))
    obtain ⟨O157, v161, v165, v169, v173, v177, v180, v183, v188, S158, ha160, h159, h162, h166, h170, h174, h178, h181, h184, h189, r193⟩ := Sch.opn h105 2 5 6 7 8 (by decide)
    obtain ⟨A163, c164, rfl⟩ := h162.form
    obtain ⟨A167, c168, rfl⟩ := h166.form
    obtain ⟨A171, c172, rfl⟩ := h170.form
    obtain ⟨A175, c176, rfl⟩ := h174.form
    obtain ⟨p179, rfl⟩ := h178.ptr
    obtain ⟨p182, rfl⟩ := h181.ptr
    obtain ⟨A185, c186, rfl⟩ := h184.form
    obtain ⟨A190, c191, rfl⟩ := h189.form
    refine o_fa rfl rfl (o_ld (hc := Blk.cell (i := 4) (h159.1) rfl) rfl rfl ?_)
    refine o_mv rfl rfl ?_
    obtain ⟨q194, e195, hf25⟩ := bs hf25
    refine l_callM (O := O157) (c_registry_Registry_State h178 r100 e195) rfl rfl fun v200 w196 O197 S198 h199 => ?_
    obtain ⟨v202, v203, h201, rfl, h204, h205⟩ := h199
    obtain ⟨A206, c207, rfl⟩ := h204.form
    obtain ⟨rfl, r208⟩ := h205.err
    refine o_mv rfl rfl (o_ex rfl rfl rfl (o_ex rfl rfl rfl (o_as rfl rfl (o_as rfl rfl (o_z ?_)))))
    refine ewp_seq (ewp_seq (ewp_region (o_mv rfl rfl (o_rnS rfl rfl (fun c209 => ?_) fun c209 => ?_))))
    ·
     replace hf25 := ip hf25 c209
     refine o_z ?_
     refine ewp_true rfl (ewp_exit ?_)
     replace h159 := h159.st S198
     replace h162 := h162.st S198
     replace h166 := h166.st S198
     replace h170 := h170.st S198
     replace h174 := h174.st S198
     replace h181 := h181.st S198
     replace h184 := h184.st S198
     replace h189 := h189.st S198
     obtain ⟨O210, S211, hz213, ha214, h212⟩ := Sch.shut (x := (⟨(⟨s17.2.t.vars, s17.2.t.init, s17.2.t.goal, s17.2.t.ops⟩ : Tsk), s17.2.states, q82.2.2.2.2, s17.2.costs, s17.2.fin, s17.2.exp⟩ : Sch)) (l0 := 2) (l1 := 5) (l2 := 6) (l3 := 7) (l4 := 8) (by decide) h159 h162 h166 h170 h174 h201 h181 h184 h189 r193
     obtain rfl := sm hf25
     refine (?_ : Exists _)
     replace hB := ((hB.st S158).st S198).st S211
     replace h7 := ((h7.st S158).st S198).st S211
     exact ⟨_, (), hbrk27 _ rfl, ⟨rfl, rfl, trivial⟩, _, hB, h212, h7, r32⟩
    ·
     replace hf25 := im hf25 c209
     refine o_z ?_
     refine ewp_false rfl (ewp_skip (ewp_seq (ewp_seq (ewp_region (o_mv rfl rfl (o_nc rfl rfl (o_fa rfl rfl (o_fa rfl rfl ?_))))))))
     replace h159 := h159.st S198
     refine o_ld (hc := Blk.cell (i := 2) (h159.1) rfl) rfl rfl ?_
     refine o_mv rfl rfl ?_
     obtain ⟨q215, e216, hf25⟩ := bs hf25
     replace h170 := h170.st S198
     refine l_callA (O := O197) (A := All w196) (R := fun w' F v => Vb w' F v q215) (c_task_Holds (fun _ h => h) (Vb.mono (F := Fr 0 w196 O197) h170 Fr.lt) (Vb.mono (F := Fr 0 w196 O197) h204 Fr.lt) e216) rfl rfl fun v221 w217 O218 S219 h220 => ?_
     obtain rfl := h220.bool
     cases q215
     case false =>
      replace hf25 := iF hf25
      refine o_z ?_
      refine ewp_false rfl (ewp_skip (ewp_seq (ewp_region (o_mv rfl rfl (o_nc rfl rfl (o_fa rfl rfl ?_))))))
      replace h159 := h159.st S219
      refine o_ld (hc := Blk.cell (i := 8) (h159.1) rfl) rfl rfl ?_
      refine o_fa rfl rfl ?_
      replace h12 := ((h12.st S158).st S198).st S219
      refine l_store h12 rfl rfl rfl (Nat.le_of_ble_eq_true rfl) (by first | exact allOne rfl | simp [Value.cells, Value.oneCell', errV_one]) fun w222 S223 h12 => ?_
      replace h12 : Lc 4 w222 O218 g8 50 [(.int .i64 3), (.slice none 0 0), (.int .i64 0), (.int .i64 ((⟨(⟨s17.2.t.vars, s17.2.t.init, s17.2.t.goal, s17.2.t.ops⟩ : Tsk), s17.2.states, q82.2.2.2.2, s17.2.costs, s17.2.fin, s17.2.exp⟩ : Sch).exp))] := h12
      refine o_z ?_
      refine ewp_seq (ewp_seq (ewp_region (o_mv rfl rfl (o_nc rfl rfl (o_fa rfl rfl ?_)))))
      replace h159 := h159.st S223
      refine o_ld (hc := Blk.cell (i := 8) (h159.1) rfl) rfl rfl ?_
      refine o_mv rfl rfl (o_geS rfl rfl rfl (fun c224 => ?_) fun c224 => ?_)
      ·
       replace hf25 := ip hf25 c224
       refine o_z ?_
       refine ewp_true rfl (ewp_seq (ewp_region (o_la (hl := rfl) (hc := (h12.1).cellsAt) rfl rfl ?_)))
       replace h7 := (((h7.st S158).st S198).st S219).st S223
       refine l_store h7 rfl rfl rfl (Nat.le_of_ble_eq_true rfl) (by first | exact allOne rfl | simp [Value.cells, Value.oneCell', errV_one]) fun w225 S226 h7 => ?_
       replace h7 : Lc 3 w225 O218 g3 50 [(.int .i64 3), (.slice none 0 0), (.int .i64 0), (.int .i64 ((⟨(⟨s17.2.t.vars, s17.2.t.init, s17.2.t.goal, s17.2.t.ops⟩ : Tsk), s17.2.states, q82.2.2.2.2, s17.2.costs, s17.2.fin, s17.2.exp⟩ : Sch).exp))] := h7
       refine o_z ?_
       refine ewp_ret ?_
       replace h159 := h159.st S226
       replace h162 := (((h162.st S198).st S219).st S223).st S226
       replace h166 := (((h166.st S198).st S219).st S223).st S226
       replace h170 := ((h170.st S219).st S223).st S226
       replace h174 := (((h174.st S198).st S219).st S223).st S226
       replace h181 := (((h181.st S198).st S219).st S223).st S226
       replace h184 := (((h184.st S198).st S219).st S223).st S226
       replace h189 := (((h189.st S198).st S219).st S223).st S226
       replace h201 := ((h201.st S219).st S223).st S226
       obtain ⟨O227, S228, hz230, ha231, h229⟩ := Sch.shut (x := (⟨(⟨s17.2.t.vars, s17.2.t.init, s17.2.t.goal, s17.2.t.ops⟩ : Tsk), s17.2.states, q82.2.2.2.2, s17.2.costs, s17.2.fin, s17.2.exp⟩ : Sch)) (l0 := 2) (l1 := 5) (l2 := 6) (l3 := 7) (l4 := 8) (by decide) h159 h162 h166 h170 h174 h201 h181 h184 h189 r193
       obtain rfl := sm hf25
       obtain rfl := hret26 _ rfl
       obtain rfl := sm (fin_ret hm)
       replace hB := (((((hB.st S158).st S198).st S219).st S223).st S226).st S228
       obtain ⟨O', hS', hz, hl⟩ := hE.leave (fun q => if q = 2 then i0 else 0) rfl hB
       replace h7 := h7.st S228
       exact ret1v rfl (res_cell (cs := [(.int .i64 3), (.slice none 0 0), (.int .i64 0), (.int .i64 ((⟨(⟨s17.2.t.vars, s17.2.t.init, s17.2.t.goal, s17.2.t.ops⟩ : Tsk), s17.2.states, q82.2.2.2.2, s17.2.costs, s17.2.fin, s17.2.exp⟩ : Sch).exp))]) rfl rfl h7.1.cellsAt) ⟨O', hS', (Ob.leave h229 hz (hl 2 (by decide) (by decide)) hx0.2), (Vb.mono (Vb.ofAgg (cs := [(.int .i64 3), (.slice none 0 0), (.int .i64 0), (.int .i64 ((⟨(⟨s17.2.t.vars, s17.2.t.init, s17.2.t.goal, s17.2.t.ops⟩ : Tsk), s17.2.states, q82.2.2.2.2, s17.2.costs, s17.2.fin, s17.2.exp⟩ : Sch).exp))]) (x := (⟨3, ([] : List Int), 0, (⟨(⟨s17.2.t.vars, s17.2.t.init, s17.2.t.goal, s17.2.t.ops⟩ : Tsk), s17.2.states, q82.2.2.2.2, s17.2.costs, s17.2.fin, s17.2.exp⟩ : Sch).exp⟩ : Rsl)) rfl ⟨_, rfl, (Vb.nil _ _), (show inI64 (3) from by decide), (show inI64 0 from by decide), r193⟩) hz)⟩
      ·
       replace hf25 := im hf25 c224
       refine o_z ?_
       refine ewp_false rfl (ewp_skip (ewp_seq (ewp_region (o_mv rfl rfl (o_mv rfl rfl (o_mv rfl rfl ?_))))))
       replace h162 := ((h162.st S198).st S219).st S223
       replace h166 := ((h166.st S198).st S219).st S223
       replace h170 := (h170.st S219).st S223
       replace h174 := ((h174.st S198).st S219).st S223
       replace h181 := ((h181.st S198).st S219).st S223
       replace h184 := ((h184.st S198).st S219).st S223
       replace h189 := ((h189.st S198).st S219).st S223
       replace h201 := (h201.st S219).st S223
       obtain ⟨O232, S233, hz235, ha236, h234⟩ := Sch.shut (x := (⟨(⟨s17.2.t.vars, s17.2.t.init, s17.2.t.goal, s17.2.t.ops⟩ : Tsk), s17.2.states, q82.2.2.2.2, s17.2.costs, s17.2.fin, s17.2.exp⟩ : Sch)) (l0 := 2) (l1 := 5) (l2 := 6) (l3 := 7) (l4 := 8) (by decide) h159 h162 h166 h170 h174 h201 h181 h184 h189 r193
       obtain ⟨q237, e238, hf25⟩ := bs hf25
       replace h204 := ((h204.st S219).st S223).st S233
       refine l_callM (O := O232) (c_stubborn_search_expand h234 r100 h204 e238) rfl rfl fun v243 w239 O240 S241 h242 => ?_
       obtain ⟨h244, h245⟩ := h242
       obtain ⟨rfl, r246⟩ := h245.err
       refine o_rnS rfl rfl (fun c247 => ?_) fun c247 => ?_
       ·
        replace hf25 := ip hf25 c247
        refine o_z ?_
        refine ewp_true rfl (ewp_seq (ewp_region (o_mv rfl rfl (o_nc rfl rfl ?_))))
        obtain ⟨O248, v252, v256, v260, v264, v268, v271, v274, v279, S249, ha251, h250, h253, h257, h261, h265, h269, h272, h275, h280, r284⟩ := Sch.opn h244 2 5 6 7 8 (by decide)
        obtain ⟨A254, c255, rfl⟩ := h253.form
        obtain ⟨A258, c259, rfl⟩ := h257.form
        obtain ⟨A262, c263, rfl⟩ := h261.form
        obtain ⟨A266, c267, rfl⟩ := h265.form
        obtain ⟨p270, rfl⟩ := h269.ptr
        obtain ⟨p273, rfl⟩ := h272.ptr
        obtain ⟨A276, c277, rfl⟩ := h275.form
        obtain ⟨A281, c282, rfl⟩ := h280.form
        refine o_fa rfl rfl (o_ld (hc := Blk.cell (i := 8) (h250.1) rfl) rfl rfl ?_)
        refine o_fa rfl rfl ?_
        replace h12 := ((h12.st S233).st S241).st S249
        refine l_store h12 rfl rfl rfl (Nat.le_of_ble_eq_true rfl) (by first | exact allOne rfl | simp [Value.cells, Value.oneCell', errV_one]) fun w285 S286 h12 => ?_
        replace h12 : Lc 4 w285 O248 g8 50 [(.int .i64 3), (.slice none 0 0), (.int .i64 0), (.int .i64 q237.2.exp)] := h12
        refine o_z ?_
        refine ewp_seq (ewp_region (o_la (hl := rfl) (hc := (h12.1).cellsAt) rfl rfl ?_))
        replace h7 := (((((((h7.st S158).st S198).st S219).st S223).st S233).st S241).st S249).st S286
        refine l_store h7 rfl rfl rfl (Nat.le_of_ble_eq_true rfl) (by first | exact allOne rfl | simp [Value.cells, Value.oneCell', errV_one]) fun w287 S288 h7 => ?_
        replace h7 : Lc 3 w287 O248 g3 50 [(.int .i64 3), (.slice none 0 0), (.int .i64 0), (.int .i64 q237.2.exp)] := h7
        refine o_z ?_
        refine ewp_ret ?_
        replace h250 := (h250.st S286).st S288
        replace h253 := (h253.st S286).st S288
        replace h257 := (h257.st S286).st S288
        replace h261 := (h261.st S286).st S288
        replace h265 := (h265.st S286).st S288
        replace h269 := (h269.st S286).st S288
        replace h272 := (h272.st S286).st S288
        replace h275 := (h275.st S286).st S288
        replace h280 := (h280.st S286).st S288
        obtain ⟨O289, S290, hz292, ha293, h291⟩ := Sch.shut (x := q237.2) (l0 := 2) (l1 := 5) (l2 := 6) (l3 := 7) (l4 := 8) (by decide) h250 h253 h257 h261 h265 h269 h272 h275 h280 r284
        obtain rfl := sm hf25
        obtain rfl := hret26 _ rfl
        obtain rfl := sm (fin_ret hm)
        replace hB := (((((((((hB.st S158).st S198).st S219).st S223).st S233).st S241).st S249).st S286).st S288).st S290
        obtain ⟨O', hS', hz, hl⟩ := hE.leave (fun q => if q = 2 then i0 else 0) rfl hB
        replace h7 := h7.st S290
        exact ret1v rfl (res_cell (cs := [(.int .i64 3), (.slice none 0 0), (.int .i64 0), (.int .i64 q237.2.exp)]) rfl rfl h7.1.cellsAt) ⟨O', hS', (Ob.leave h291 hz (hl 2 (by decide) (by decide)) hx0.2), (Vb.mono (Vb.ofAgg (cs := [(.int .i64 3), (.slice none 0 0), (.int .i64 0), (.int .i64 q237.2.exp)]) (x := (⟨3, ([] : List Int), 0, q237.2.exp⟩ : Rsl)) rfl ⟨_, rfl, (Vb.nil _ _), (show inI64 (3) from by decide), (show inI64 0 from by decide), r284⟩) hz)⟩
       ·
        replace hf25 := im hf25 c247
        refine o_z ?_
        refine ewp_false rfl (ewp_skip ?_)
        obtain rfl := sm hf25
        refine (?_ : Exists _)
        replace hB := (((((hB.st S158).st S198).st S219).st S223).st S233).st S241
        replace h7 := (((((h7.st S158).st S198).st S219).st S223).st S233).st S241
        replace h12 := (h12.st S233).st S241
        exact ⟨_, (), rfl, ⟨rfl, rfl, rfl, rfl, trivial⟩, _, hB, h244, h7, h12, r193⟩
     replace hf25 := iT hf25
     refine o_z ?_
     refine ewp_true rfl (ewp_seq (ewp_region (o_mv rfl rfl (o_nc rfl rfl (o_fa rfl rfl ?_)))))
     replace h159 := h159.st S219
     refine o_ld (hc := Blk.cell (i := 4) (h159.1) rfl) rfl rfl ?_
     refine o_mv rfl rfl ?_
     obtain ⟨q294, e295, hf25⟩ := bs hf25
     replace h201 := h201.st S219
     refine l_callM (O := O218) (c_registry_Registry_Path h201 r100 e295) rfl rfl fun v300 w296 O297 S298 h299 => ?_
     obtain ⟨v302, v303, h301, rfl, h304, h305⟩ := h299
     obtain ⟨A306, c307, rfl⟩ := h304.form
     obtain ⟨rfl, r308⟩ := h305.err
     refine o_mv rfl rfl (o_ex rfl rfl rfl (o_ex rfl rfl rfl (o_as rfl rfl (o_as rfl rfl (o_z ?_)))))
     refine ewp_seq (ewp_seq (ewp_region (o_mv rfl rfl (o_rnS rfl rfl (fun c309 => ?_) fun c309 => ?_))))
     ·
      replace hf25 := ip hf25 c309
      refine o_z ?_
      refine ewp_true rfl (ewp_exit ?_)
      replace h159 := h159.st S298
      replace h162 := ((h162.st S198).st S219).st S298
      replace h166 := ((h166.st S198).st S219).st S298
      replace h170 := (h170.st S219).st S298
      replace h174 := ((h174.st S198).st S219).st S298
      replace h181 := ((h181.st S198).st S219).st S298
      replace h184 := ((h184.st S198).st S219).st S298
      replace h189 := ((h189.st S198).st S219).st S298
      obtain ⟨O310, S311, hz313, ha314, h312⟩ := Sch.shut (x := (⟨(⟨s17.2.t.vars, s17.2.t.init, s17.2.t.goal, s17.2.t.ops⟩ : Tsk), s17.2.states, q82.2.2.2.2, s17.2.costs, s17.2.fin, s17.2.exp⟩ : Sch)) (l0 := 2) (l1 := 5) (l2 := 6) (l3 := 7) (l4 := 8) (by decide) h159 h162 h166 h170 h174 h301 h181 h184 h189 r193
      obtain rfl := sm hf25
      refine (?_ : Exists _)
      replace hB := ((((hB.st S158).st S198).st S219).st S298).st S311
      replace h7 := ((((h7.st S158).st S198).st S219).st S298).st S311
      exact ⟨_, (), hbrk27 _ rfl, ⟨rfl, rfl, trivial⟩, _, hB, h312, h7, r32⟩
     ·
      replace hf25 := im hf25 c309
      refine o_z ?_
      refine ewp_false rfl (ewp_skip (ewp_seq (ewp_region (o_mv rfl rfl (o_mv rfl rfl (o_mv rfl rfl (o_nc rfl rfl (o_fa rfl rfl ?_))))))))
      replace h159 := h159.st S298
      refine o_ld (hc := Blk.cell (i := 8) (h159.1) rfl) rfl rfl ?_
      refine o_bd rfl rfl rfl ?_
      replace h7 := (((h7.st S158).st S198).st S219).st S298
      refine l_store h7 rfl rfl rfl (Nat.le_of_ble_eq_true rfl) (by first | exact allOne rfl | simp [Value.cells, Value.oneCell', errV_one]) fun w315 S316 h7 => ?_
      replace h7 : Lc 3 w315 O297 g3 50 [(.int .i64 1), (.slice A306 q294.1.length c307), (.int .i64 q82.1), (.int .i64 ((⟨(⟨s17.2.t.vars, s17.2.t.init, s17.2.t.goal, s17.2.t.ops⟩ : Tsk), s17.2.states, q82.2.2.2.2, s17.2.costs, s17.2.fin, s17.2.exp⟩ : Sch).exp))] := h7
      refine o_z ?_
      refine ewp_ret ?_
      replace h159 := h159.st S316
      replace h162 := (((h162.st S198).st S219).st S298).st S316
      replace h166 := (((h166.st S198).st S219).st S298).st S316
      replace h170 := ((h170.st S219).st S298).st S316
      replace h174 := (((h174.st S198).st S219).st S298).st S316
      replace h181 := (((h181.st S198).st S219).st S298).st S316
      replace h184 := (((h184.st S198).st S219).st S298).st S316
      replace h189 := (((h189.st S198).st S219).st S298).st S316
      replace h301 := h301.st S316
      obtain ⟨O317, S318, hz320, ha321, h319⟩ := Sch.shut (x := (⟨(⟨s17.2.t.vars, s17.2.t.init, s17.2.t.goal, s17.2.t.ops⟩ : Tsk), s17.2.states, q82.2.2.2.2, s17.2.costs, s17.2.fin, s17.2.exp⟩ : Sch)) (l0 := 2) (l1 := 5) (l2 := 6) (l3 := 7) (l4 := 8) (by decide) h159 h162 h166 h170 h174 h301 h181 h184 h189 r193
      obtain rfl := sm hf25
      obtain rfl := hret26 _ rfl
      obtain rfl := sm (fin_ret hm)
      replace hB := (((((hB.st S158).st S198).st S219).st S298).st S316).st S318
      obtain ⟨O', hS', hz, hl⟩ := hE.leave (fun q => if q = 2 then i0 else 0) rfl hB
      replace h7 := h7.st S318
      replace h304 := (h304.st S316).st S318
      exact ret1v rfl (res_cell (cs := [(.int .i64 1), (.slice A306 q294.1.length c307), (.int .i64 q82.1), (.int .i64 ((⟨(⟨s17.2.t.vars, s17.2.t.init, s17.2.t.goal, s17.2.t.ops⟩ : Tsk), s17.2.states, q82.2.2.2.2, s17.2.costs, s17.2.fin, s17.2.exp⟩ : Sch).exp))]) rfl rfl h7.1.cellsAt) ⟨O', hS', (Ob.leave h319 hz (hl 2 (by decide) (by decide)) hx0.2), (Vb.mono (Vb.ofAgg (cs := [(.int .i64 1), (.slice A306 q294.1.length c307), (.int .i64 q82.1), (.int .i64 ((⟨(⟨s17.2.t.vars, s17.2.t.init, s17.2.t.goal, s17.2.t.ops⟩ : Tsk), s17.2.states, q82.2.2.2.2, s17.2.costs, s17.2.fin, s17.2.exp⟩ : Sch).exp))]) (x := (⟨1, q294.1, q82.1, (⟨(⟨s17.2.t.vars, s17.2.t.init, s17.2.t.goal, s17.2.t.ops⟩ : Tsk), s17.2.states, q82.2.2.2.2, s17.2.costs, s17.2.fin, s17.2.exp⟩ : Sch).exp⟩ : Rsl)) rfl ⟨_, rfl, h304, (show inI64 (1) from by decide), r98, r193⟩) hz)⟩
  ·
   replace hf25 := im hf25 c81
   refine o_z ?_
   refine ewp_false rfl (ewp_exit ?_)
   replace h36 := h36.st S75
   replace h39 := h39.st S75
   replace h43 := h43.st S75
   replace h47 := h47.st S75
   replace h51 := h51.st S75
   replace h55 := h55.st S75
   replace h61 := h61.st S75
   replace h66 := h66.st S75
   obtain ⟨O322, S323, hz325, ha326, h324⟩ := Sch.shut (x := s17.2) (l0 := 2) (l1 := 5) (l2 := 6) (l3 := 7) (l4 := 8) (by decide) h36 h39 h43 h47 h51 h55 h78 h61 h66 r70
   obtain rfl := sm hf25
   refine (?_ : Exists _)
   replace hB := ((hB.st S35).st S75).st S323
   replace h7 := ((h7.st S35).st S75).st S323
   exact ⟨_, (), hbrk27 _ rfl, ⟨rfl, rfl, trivial⟩, _, hB, h324, h7, r32⟩
 replace hB := ((hB.st S6).st S11).st S14
 replace h7 := (h7.st S11).st S14
 rintro l327 w328 ⟨s331, x332, rfl, hs330, O329, hB, h33, h7, r32⟩
 replace hm := fin_done hm
 refine ewp_sub _ hs330 ?_
 refine ewp_seq (ewp_region (o_mv rfl rfl (o_nc rfl rfl ?_)))
 obtain ⟨O333, v337, v341, v345, v349, v353, v356, v359, v364, S334, ha336, h335, h338, h342, h346, h350, h354, h357, h360, h365, r369⟩ := Sch.opn h33 2 5 6 7 8 (by decide)
 obtain ⟨A339, c340, rfl⟩ := h338.form
 obtain ⟨A343, c344, rfl⟩ := h342.form
 obtain ⟨A347, c348, rfl⟩ := h346.form
 obtain ⟨A351, c352, rfl⟩ := h350.form
 obtain ⟨p355, rfl⟩ := h354.ptr
 obtain ⟨p358, rfl⟩ := h357.ptr
 obtain ⟨A361, c362, rfl⟩ := h360.form
 obtain ⟨A366, c367, rfl⟩ := h365.form
 refine o_fa rfl rfl (o_ld (hc := Blk.cell (i := 8) (h335.1) rfl) rfl rfl ?_)
 refine o_bd rfl rfl rfl ?_
 replace h7 := h7.st S334
 refine l_store h7 rfl rfl rfl (Nat.le_of_ble_eq_true rfl) (by first | exact allOne rfl | simp [Value.cells, Value.oneCell', errV_one]) fun w370 S371 h7 => ?_
 replace h7 : Lc 3 w370 O333 g3 50 [(.int .i64 2), (.slice none 0 0), (.int .i64 0), (.int .i64 s331.2.exp)] := h7
 refine o_z ?_
 refine ewp_ret ?_
 replace h335 := h335.st S371
 replace h338 := h338.st S371
 replace h342 := h342.st S371
 replace h346 := h346.st S371
 replace h350 := h350.st S371
 replace h354 := h354.st S371
 replace h357 := h357.st S371
 replace h360 := h360.st S371
 replace h365 := h365.st S371
 obtain ⟨O372, S373, hz375, ha376, h374⟩ := Sch.shut (x := s331.2) (l0 := 2) (l1 := 5) (l2 := 6) (l3 := 7) (l4 := 8) (by decide) h335 h338 h342 h346 h350 h354 h357 h360 h365 r369
 obtain rfl := sm hm
 replace hB := ((hB.st S334).st S371).st S373
 obtain ⟨O', hS', hz, hl⟩ := hE.leave (fun q => if q = 2 then i0 else 0) rfl hB
 replace h7 := h7.st S373
 exact ret1v rfl (res_cell (cs := [(.int .i64 2), (.slice none 0 0), (.int .i64 0), (.int .i64 s331.2.exp)]) rfl rfl h7.1.cellsAt) ⟨O', hS', (Ob.leave h374 hz (hl 2 (by decide) (by decide)) hx0.2), (Vb.mono (Vb.ofAgg (cs := [(.int .i64 2), (.slice none 0 0), (.int .i64 0), (.int .i64 s331.2.exp)]) (x := (⟨2, ([] : List Int), 0, s331.2.exp⟩ : Rsl)) rfl ⟨_, rfl, (Vb.nil _ _), (show inI64 (2) from by decide), (show inI64 0 from by decide), r369⟩) hz)⟩
noncomputable def m_stubborn_Search (x0 : Tsk) (x1 : Int) : Option (Rsl × Err) :=
  bnd (m_task_Check x0) fun q30 => if q30.n ≠ 0 then (some ((⟨0, ([] : List Int), 0, 0⟩ : Rsl), (⟨q30.n⟩ : Err))) else (bnd (m_registry_New x0.vars) fun q41 => if q41.2.n ≠ 0 then (some ((⟨0, ([] : List Int), 0, 0⟩ : Rsl), (⟨q41.2.n⟩ : Err))) else (bnd (m_pqueue_New) fun q56 => bnd q41.1 fun o64 => bnd q56 fun o67 => bnd (m_stubborn_search_reach (⟨(⟨x0.vars, x0.init, x0.goal, x0.ops⟩ : Tsk), o64, o67, ([] : List Int), ([] : List Bool), 0⟩ : Sch) x0.init (-1) (-1) 0) fun q84 => if q84.1.n ≠ 0 then (some ((⟨0, ([] : List Int), 0, 0⟩ : Rsl), (⟨q84.1.n⟩ : Err))) else (bnd (m_stubborn_search_run q84.2 (max x1 0)) fun q97 => some (q97.1, (⟨0⟩ : Err)))))
theorem c_stubborn_Search {w : World} {A : Nat → Prop} (hA : ∀ k, A k → k < w.heap.size) {vx0 : Value} {x0 : Tsk} (hx0 : Vb w A vx0 x0) {x1 : Int} (rx1 : inI64 x1) {r : Rsl × Err} (hm : m_stubborn_Search x0 x1 = some r) :
    Fn Try.prog 22 [vx0, (.int .i64 x1)] w fun v w' => Ext w w' ∧ T2 w' (upA A w w') v r := by
 obtain ⟨O, hB, hA0⟩ := enter hA
 replace hx0 := hx0.mono hA0
 obtain ⟨cs3, rfl, v4, v5, v6, v7, rfl, h8, h11, h14, h17⟩ := hx0
 obtain ⟨A9, c10, rfl⟩ := h8.form
 obtain ⟨A12, c13, rfl⟩ := h11.form
 obtain ⟨A15, c16, rfl⟩ := h14.form
 obtain ⟨A18, c19, rfl⟩ := h17.form
 refine fn_enter Try.func22 rfl Try.ntmps22 rfl ?_
 unfold m_stubborn_Search at hm
 refine ewp_seq (ewp_region (l_box 2 O rfl rfl fun g20 w21 O22 S23 h24 => ?_))
 replace h24 : Lc 2 w21 O22 g20 26 [(.slice A9 x0.vars.length c10), (.slice A12 x0.init.length c13), (.slice A15 x0.goal.length c16), (.slice A18 x0.ops.length c19)] := h24
 refine l_alloc 3 O22 rfl fun g25 w26 O27 S28 h29 => ?_
 refine o_as rfl rfl (o_z ?_)
 refine ewp_seq (ewp_seq (ewp_region ?_))
 replace h24 := h24.st S28
 refine o_la (hl := rfl) (hc := (h24.1).cellsAt) rfl rfl ?_
 obtain ⟨q30, e31, hm⟩ := bs hm
 replace h8 := (h8.st S23).st S28
 replace h11 := (h11.st S23).st S28
 replace h14 := (h14.st S23).st S28
 replace h17 := (h17.st S23).st S28
 refine l_callA (O := O27) (A := All w26) (R := fun w' F v => Vb w' F v q30) (c_task_Check (fun _ h => h) (Vb.mono (F := Fr 0 w26 O27) (Vb.ofAgg (cs := [(.slice A9 x0.vars.length c10), (.slice A12 x0.init.length c13), (.slice A15 x0.goal.length c16), (.slice A18 x0.ops.length c19)]) (x := x0) rfl ⟨_, _, _, _, rfl, h8, h11, h14, h17⟩) Fr.lt) e31) rfl rfl fun v36 w32 O33 S34 h35 => ?_
 obtain ⟨rfl, r37⟩ := h35.err
 refine o_as rfl rfl (o_z ?_)
 refine ewp_seq (ewp_region (o_mv rfl rfl (o_rnS rfl rfl (fun c38 => ?_) fun c38 => ?_)))
 ·
  replace hm := ip hm c38
  refine o_z ?_
  refine ewp_true rfl (ewp_seq (ewp_region (o_bd rfl rfl rfl ?_)))
  refine o_mv rfl rfl ?_
  replace h29 := h29.st S34
  refine l_store h29 rfl rfl rfl (Nat.le_of_ble_eq_true rfl) (by first | exact allOne rfl | simp [Value.cells, Value.oneCell', errV_one]) fun w39 S40 h29 => ?_
  replace h29 : Lc 3 w39 O33 g25 50 [(.int .i64 0), (.slice none 0 0), (.int .i64 0), (.int .i64 0)] := h29
  refine o_as rfl rfl (o_z ?_)
  refine ewp_ret ?_
  obtain rfl := sm hm
  replace hB := (((hB.st S23).st S28).st S34).st S40
  exact ret2 rfl (res_cell (cs := [(.int .i64 0), (.slice none 0 0), (.int .i64 0), (.int .i64 0)]) rfl rfl h29.1.cellsAt) (res_tmp rfl) ⟨hB.ext, _, _, rfl, (Vb.mono (F := Fr 0 w39 O33) (Vb.ofAgg (cs := [(.int .i64 0), (.slice none 0 0), (.int .i64 0), (.int .i64 0)]) (x := (⟨0, ([] : List Int), 0, 0⟩ : Rsl)) rfl ⟨_, rfl, (Vb.nil _ _), (show inI64 0 from by decide), (show inI64 0 from by decide), (show inI64 0 from by decide)⟩) hB.out), (vErr r37)⟩
 ·
  replace hm := im hm c38
  refine o_z ?_
  refine ewp_false rfl (ewp_skip (ewp_seq (ewp_region (o_fa rfl rfl ?_))))
  replace h24 := h24.st S34
  refine o_ld (hc := Blk.cell (i := 0) (h24.1) rfl) rfl rfl ?_
  obtain ⟨q41, e42, hm⟩ := bs hm
  replace h8 := h8.st S34
  refine l_callM (O := O33) (c_registry_New h8 4 (by decide) e42) rfl rfl fun v47 w43 O44 S45 h46 => ?_
  obtain ⟨v48, v49, rfl, h50, h51⟩ := h46
  obtain ⟨rfl, r52⟩ := h51.err
  refine o_mv rfl rfl (o_ex rfl rfl rfl (o_ex rfl rfl rfl (o_as rfl rfl (o_as rfl rfl (o_z ?_)))))
  refine ewp_seq (ewp_seq (ewp_region (o_mv rfl rfl (o_rnS rfl rfl (fun c53 => ?_) fun c53 => ?_))))
  ·
   replace hm := ip hm c53
   refine o_z ?_
   refine ewp_true rfl (ewp_seq (ewp_region (o_bd rfl rfl rfl ?_)))
   refine o_mv rfl rfl ?_
   replace h29 := (h29.st S34).st S45
   refine l_store h29 rfl rfl rfl (Nat.le_of_ble_eq_true rfl) (by first | exact allOne rfl | simp [Value.cells, Value.oneCell', errV_one]) fun w54 S55 h29 => ?_
   replace h29 : Lc 3 w54 O44 g25 50 [(.int .i64 0), (.slice none 0 0), (.int .i64 0), (.int .i64 0)] := h29
   refine o_as rfl rfl (o_z ?_)
   refine ewp_ret ?_
   obtain rfl := sm hm
   replace hB := ((((hB.st S23).st S28).st S34).st S45).st S55
   exact ret2 rfl (res_cell (cs := [(.int .i64 0), (.slice none 0 0), (.int .i64 0), (.int .i64 0)]) rfl rfl h29.1.cellsAt) (res_tmp rfl) ⟨hB.ext, _, _, rfl, (Vb.mono (F := Fr 0 w54 O44) (Vb.ofAgg (cs := [(.int .i64 0), (.slice none 0 0), (.int .i64 0), (.int .i64 0)]) (x := (⟨0, ([] : List Int), 0, 0⟩ : Rsl)) rfl ⟨_, rfl, (Vb.nil _ _), (show inI64 0 from by decide), (show inI64 0 from by decide), (show inI64 0 from by decide)⟩) hB.out), (vErr r52)⟩
  ·
   replace hm := im hm c53
   refine o_z ?_
   refine ewp_false rfl (ewp_skip (ewp_seq (ewp_drawX [(2, []), (4, [])] O44 ?_)))
   refine x_pre (fuel := 4) [] [(0, true), (1, true)] (by kernel_rfl) rfl ?_
   replace h24 := h24.st S45
   refine h_laB (hl := rfl) (hb := fun w' ⟨O', hq⟩ => ((h24.st hq (by decide)).1).cellsAt) rfl rfl rfl ?_
   refine h_mv rfl rfl rfl (hwp_nilT ?_)
   refine x_one (i := 2) (by kernel_rfl) rfl ?_
   obtain ⟨q56, e57, hm⟩ := bs hm
   refine l_callM (O := O44) (c_pqueue_New 5 (by decide) e57) rfl rfl fun v62 w58 O59 S60 h63 => ?_
   have hZ := S60.lst [] (fun _ h => h.elim)
   refine x_go [(4, [])] hZ (by kernel_rfl) ?_
   refine x_pre (fuel := 2) [] [(3, true)] (by kernel_rfl) rfl ?_
   obtain ⟨o64, e65, hm⟩ := bs hm
   replace h50 := h50.st S60
   rw [e65] at h50
   obtain ⟨p66, rfl⟩ := Ob.ptr h50
   obtain ⟨o67, e68, hm⟩ := bs hm
   rw [e68] at h63
   obtain ⟨p69, rfl⟩ := Ob.ptr h63
   refine h_bd rfl rfl rfl rfl ?_
   refine hwp_nilT ?_
   refine x_one (i := 4) (by kernel_rfl) rfl ?_
   refine l_box 6 O59 rfl rfl fun g70 w71 O72 S73 h74 => ?_
   replace h74 : Lc 6 w71 O72 g70 85 [(.slice A9 x0.vars.length c10), (.slice A12 x0.init.length c13), (.slice A15 x0.goal.length c16), (.slice A18 x0.ops.length c19), (.pointer (some ⟨p66, 0, none⟩)), (.pointer (some ⟨p69, 0, none⟩)), (.slice none 0 0), (.slice none 0 0), (.int .i64 0)] := h74
   have hZ := S73.lst [] (fun _ h => h.elim)
   refine x_go [] hZ (by kernel_rfl) ?_
   refine x_pre (fuel := 0) [] [(5, true)] (by kernel_rfl) rfl ?_
   refine h_as rfl rfl rfl (hwp_nilT ?_)
   refine x_nil (by kernel_rfl) ?_
   refine ewp_seq (ewp_seq (ewp_region (o_mv rfl rfl (o_fa rfl rfl ?_))))
   replace h24 := (h24.st S60).st S73
   refine o_ld (hc := Blk.cell (i := 1) (h24.1) rfl) rfl rfl ?_
   have h75 : Rw 7 w71 O72 3 (.slice none 0 0) ([] : List Int) := Rw.nil 7 (by decide)
   have h77 : Rw 8 w71 O72 4 (.slice none 0 0) ([] : List Bool) := Rw.nil 8 (by decide)
   replace h8 := ((h8.st S45).st S60).st S73
   replace h11 := (((h11.st S34).st S45).st S60).st S73
   replace h14 := (((h14.st S34).st S45).st S60).st S73
   replace h17 := (((h17.st S34).st S45).st S60).st S73
   replace h50 := h50.st S73
   replace h63 := h63.st S73
   obtain ⟨O79, S80, hz82, ha83, h81⟩ := Sch.shut (x := (⟨(⟨x0.vars, x0.init, x0.goal, x0.ops⟩ : Tsk), o64, o67, ([] : List Int), ([] : List Bool), 0⟩ : Sch)) (l0 := 6) (l1 := 4) (l2 := 5) (l3 := 7) (l4 := 8) (by decide) h74 h8 h11 h14 h17 h50 h63 h75 h77 (show inI64 0 from by decide)
   obtain ⟨q84, e85, hm⟩ := bs hm
   replace h11 := h11.st S80
   refine l_callM (O := O79) (c_stubborn_search_reach h81 h11 (show inI64 (-1) from by decide) (show inI64 (-1) from by decide) (show inI64 (0) from by decide) e85) rfl rfl fun v90 w86 O87 S88 h89 => ?_
   obtain ⟨h91, h92⟩ := h89
   obtain ⟨rfl, r93⟩ := h92.err
   refine o_as rfl rfl (o_z ?_)
   refine ewp_seq (ewp_region (o_mv rfl rfl (o_rnS rfl rfl (fun c94 => ?_) fun c94 => ?_)))
   ·
    replace hm := ip hm c94
    refine o_z ?_
    refine ewp_true rfl (ewp_seq (ewp_region (o_bd rfl rfl rfl ?_)))
    refine o_mv rfl rfl ?_
    replace h29 := (((((h29.st S34).st S45).st S60).st S73).st S80).st S88
    refine l_store h29 rfl rfl rfl (Nat.le_of_ble_eq_true rfl) (by first | exact allOne rfl | simp [Value.cells, Value.oneCell', errV_one]) fun w95 S96 h29 => ?_
    replace h29 : Lc 3 w95 O87 g25 50 [(.int .i64 0), (.slice none 0 0), (.int .i64 0), (.int .i64 0)] := h29
    refine o_as rfl rfl (o_z ?_)
    refine ewp_ret ?_
    obtain rfl := sm hm
    replace hB := ((((((((hB.st S23).st S28).st S34).st S45).st S60).st S73).st S80).st S88).st S96
    exact ret2 rfl (res_cell (cs := [(.int .i64 0), (.slice none 0 0), (.int .i64 0), (.int .i64 0)]) rfl rfl h29.1.cellsAt) (res_tmp rfl) ⟨hB.ext, _, _, rfl, (Vb.mono (F := Fr 0 w95 O87) (Vb.ofAgg (cs := [(.int .i64 0), (.slice none 0 0), (.int .i64 0), (.int .i64 0)]) (x := (⟨0, ([] : List Int), 0, 0⟩ : Rsl)) rfl ⟨_, rfl, (Vb.nil _ _), (show inI64 0 from by decide), (show inI64 0 from by decide), (show inI64 0 from by decide)⟩) hB.out), (vErr r93)⟩
   ·
    replace hm := im hm c94
    refine o_z ?_
    refine ewp_false rfl (ewp_skip (ewp_seq (ewp_region (o_mv rfl rfl (o_mv rfl rfl (o_max rfl rfl rfl ?_))))))
    obtain ⟨q97, e98, hm⟩ := bs hm
    refine l_callM (O := O87) (c_stubborn_search_run h91 (rngMax rx1 (show inI64 (0) from by decide)) e98) rfl rfl fun v103 w99 O100 S101 h102 => ?_
    obtain ⟨h104, h105⟩ := h102
    obtain ⟨cs106, rfl, v107, rfl, h108, r111, r112, r113⟩ := h105
    obtain ⟨A109, c110, rfl⟩ := h108.form
    replace h29 := ((((((h29.st S34).st S45).st S60).st S73).st S80).st S88).st S101
    refine l_store h29 rfl rfl rfl (Nat.le_of_ble_eq_true rfl) (by first | exact allOne rfl | simp [Value.cells, Value.oneCell', errV_one]) fun w114 S115 h29 => ?_
    replace h29 : Lc 3 w114 O100 g25 50 [(.int .i64 q97.1.verdict), (.slice A109 q97.1.plan.length c110), (.int .i64 q97.1.cost), (.int .i64 q97.1.expanded)] := h29
    refine o_as rfl rfl (o_z ?_)
    refine ewp_ret ?_
    obtain rfl := sm hm
    replace hB := (((((((((hB.st S23).st S28).st S34).st S45).st S60).st S73).st S80).st S88).st S101).st S115
    replace h108 := h108.st S115
    exact ret2 rfl (res_cell (cs := [(.int .i64 q97.1.verdict), (.slice A109 q97.1.plan.length c110), (.int .i64 q97.1.cost), (.int .i64 q97.1.expanded)]) rfl rfl h29.1.cellsAt) (res_tmp rfl) ⟨hB.ext, _, _, rfl, (Vb.mono (F := Fr 0 w114 O100) (Vb.ofAgg (cs := [(.int .i64 q97.1.verdict), (.slice A109 q97.1.plan.length c110), (.int .i64 q97.1.cost), (.int .i64 q97.1.expanded)]) (x := q97.1) rfl ⟨_, rfl, h108, r111, r112, r113⟩) hB.out), (vErr (show inI64 0 from by decide))⟩
end
end Go.Proofs.Ytgnmjmcjadpmhaa

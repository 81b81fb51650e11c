/- Own text: what the proof of stubbornLimits_holds uses, part 4: rules, models and their proofs, plain laws. -/
import Derived.Test.YtgnmjmcjadpmhaaPLimC
namespace Go.Proofs.Ytgnmjmcjadpmhaa
open Go Go.RowKit
section
open Go Go.RowKit
attribute [local irreducible] ewp owp hwp hwq Ev Evg Fn retPost Res1
attribute [local irreducible] hwx loudX
structure QEn where
  key : Int
  tie : Int
  item : Int
  number : Int
instance : Rp QEn where
  isAgg := true
  size := 4
  R w F cs x := cs = [.int .i64 x.key, .int .i64 x.tie, .int .i64 x.item, .int .i64 x.number] ∧ inI64 x.key ∧ inI64 x.tie ∧ inI64 x.item ∧ inI64 x.number
  len := by rintro w F cs x ⟨rfl, h0, h1, h2, h3⟩; rfl
  one := by rintro w F cs x ⟨rfl, h0, h1, h2, h3⟩ u hu; simp at hu; rcases hu with rfl | rfl | rfl | rfl <;> first | rfl | exact Vb.one rfl (by assumption)
  agree := by rintro w w' F cs x ⟨rfl, h0, h1, h2, h3⟩ ha; exact ⟨rfl, h0, h1, h2, h3⟩
  mono := by rintro w F G cs x ⟨rfl, h0, h1, h2, h3⟩ ha; exact ⟨rfl, h0, h1, h2, h3⟩
structure Que where
  heap : List QEn
  next : Int
instance : Ow Que where
  R w F M v x := ∃ (g : Nat) (L : Lab) (c0 : Value), v = .pointer (some ⟨g, 0, none⟩) ∧ Blk w g 109 [c0, .int .i64 x.next] ∧ M g ∧ L g = 0 ∧ RwM w F (fun k => M k ∧ L k = 1) 140 c0 x.heap ∧ inI64 x.next
  agree := by rintro w w' F M v x ⟨g, L, c0, rfl, hb, hM, hL, h0, h1⟩ a1 a2; exact ⟨g, L, c0, rfl, hb.keep (a2 g hM), hM, hL, h0.agree a1 fun k hk => a2 k hk.1, h1⟩
  mono := by rintro w F M F' M' v x ⟨g, L, c0, rfl, hb, hM, hL, h0, h1⟩ a1 a2 a3; exact ⟨g, L, c0, rfl, hb, a2 g hM, hL, h0.mono a1 (fun k hk => ⟨a2 k hk.1, hk.2⟩) fun k hf hm => a3 k hf hm.1, h1⟩
instance : OwP Que := ⟨by rintro w F M v x ⟨g, L, c0, rfl, _⟩; exact ⟨g, rfl⟩⟩
theorem Que.opn {i : Nat} {w : World} {O : Lab} {p : Nat} {x : Que} (h : Ob i w O (.pointer (some ⟨p, 0, none⟩)) x) (l0 l1 : Nat) (hl : l0 ≠ 0 ∧ l1 ≠ 0) : ∃ (O' : Lab) (c0 : Value), St (eT i) w O w O' ∧ (∀ k, Fr i w O k → ∃ q, q ∈ [l0, l1] ∧ Fr q w O' k) ∧ Lc l0 w O' p 109 [c0, .int .i64 x.next] ∧ Rw l1 w O' 140 c0 x.heap ∧ inI64 x.next := by
  obtain ⟨⟨g, L, c0, hv, hb, hM, hL, h0, h1⟩, hi⟩ := h
  obtain rfl : p = g := by injection hv with hv; injection hv with hv; injection hv
  exact ⟨part O i L [l0, l1], c0, part_st hi, part_all (by simp), ⟨hb, (part_fr (j := 0) rfl p ⟨hM, hL⟩).2⟩, h0.rw (part_fr0 hi) (part_fr (j := 1) rfl) hl.2, h1⟩
theorem Que.shut {w : World} {O : Lab} {p : Nat} {x : Que} {l0 l1 : Nat} {c0 : Value} (hd : ¬ 0 ∈ [l0, l1] ∧ [l0, l1].idxOf l0 = 0 ∧ [l0, l1].idxOf l1 = 1) (hb : Lc l0 w O p 109 [c0, .int .i64 x.next]) (h0 : Rw l1 w O 140 c0 x.heap) (h1 : inI64 x.next) : ∃ O', St (· ∈ [l0, l1]) w O w O' ∧ (∀ k, Fr 0 w O k → Fr 0 w O' k) ∧ (∀ q, q ∈ [l0, l1] → ∀ k, Fr q w O k → Fr l0 w O' k) ∧ Ob l0 w O' (.pointer (some ⟨p, 0, none⟩)) x := by
  have hb1 : l0 ≠ 0 := fun e => hd.1 (by simp [e])
  have hg := whole_fr (i := l0) hd.2.1 (by simp) p ⟨hb.1.lt, hb.2⟩
  exact ⟨whole O l0 [l0, l1], whole_st, whole_fr0 hd.1, whole_all, ⟨p, fun k => [l0, l1].idxOf (O k), c0, rfl, hb.1, hg.1, hg.2, h0.m (whole_fr0 hd.1) (whole_fr hd.2.2 (by simp)) (fun k a b => frNe0 hb1 k a b.1), h1⟩, hb1⟩
noncomputable def m_pqueue_New  : Option (Option Que) :=
  some (some (⟨([] : List QEn), 0⟩ : Que))
theorem c_pqueue_New {w : World} {O : Lab} (j0 : Nat) (hj0 : j0 ≠ 0) {r : (Option Que)} (hm : m_pqueue_New  = some r) :
    Fn Try.prog 40 [] w fun v w' => ∃ O', St nT w O w' O' ∧ Obo j0 w' O' v r := by
 obtain ⟨O0, hE, hz0⟩ := ent0 (w := w) (O := O)
 have hB : Bm w O0 w O0 := Bm.refl
 refine fn_enter Try.func40 rfl Try.ntmps40 rfl ?_
 unfold m_pqueue_New at hm
 refine ewp_seq (ewp_region (o_as rfl rfl (o_z ?_)))
 refine ewp_seq (ewp_region (o_bd rfl rfl rfl ?_))
 refine l_box 2 O0 rfl rfl fun g1 w2 O3 S4 h5 => ?_
 replace h5 : Lc 2 w2 O3 g1 109 [(.slice none 0 0), (.int .i64 0)] := h5
 refine o_as rfl rfl (o_z ?_)
 refine ewp_ret ?_
 have h6 : Rw 3 w2 O3 140 (.slice none 0 0) ([] : List QEn) := Rw.nil 3 (by decide)
 obtain ⟨O8, S9, hz11, ha12, h10⟩ := Que.shut (x := (⟨([] : List QEn), 0⟩ : Que)) (l0 := 2) (l1 := 3) (by decide) h5 h6 (show inI64 0 from by decide)
 obtain rfl := sm hm
 replace hB := (hB.st S4).st S9
 obtain ⟨O', hS', hz, hl⟩ := hE.leave (fun q => if q = 2 then j0 else 0) rfl hB
 exact ret1v rfl (res_tmp rfl) ⟨O', hS', (Ob.leave h10 hz (hl 2 (by decide) (by decide)) hj0)⟩
noncomputable def m_pqueue_before (x0 : QEn) (x1 : QEn) : Option Bool :=
  if x0.key ≠ x1.key then (bnd (if x0.key < x1.key then (some true) else (some false) : Option Bool) fun y24 => some y24) else (if x0.tie ≠ x1.tie then (bnd (if x0.tie < x1.tie then (some true) else (some false) : Option Bool) fun y34 => some y34) else (bnd (if x0.number < x1.number then (some true) else (some false) : Option Bool) fun y43 => some y43))
theorem c_pqueue_before {w : World} {A : Nat → Prop} (hA : ∀ k, A k → k < w.heap.size) {vx0 : Value} {x0 : QEn} (hx0 : Vb w A vx0 x0) {vx1 : Value} {x1 : QEn} (hx1 : Vb w A vx1 x1) {r : Bool} (hm : m_pqueue_before x0 x1 = some r) :
    Fn Try.prog 99 [vx0, vx1] w fun v w' => Ext w w' ∧ Vb w' (upA A w w') v r := by
 obtain ⟨O, hB, hA0⟩ := enter hA
 replace hx0 := hx0.mono hA0
 obtain ⟨cs3, rfl, rfl, r4, r5, r6, r7⟩ := hx0
 replace hx1 := hx1.mono hA0
 obtain ⟨cs8, rfl, rfl, r9, r10, r11, r12⟩ := hx1
 refine fn_enter Try.func99 rfl Try.ntmps99 rfl ?_
 unfold m_pqueue_before at hm
 refine ewp_seq (ewp_region (l_box 2 O rfl rfl fun g13 w14 O15 S16 h17 => ?_))
 replace h17 : Lc 2 w14 O15 g13 140 [(.int .i64 x0.key), (.int .i64 x0.tie), (.int .i64 x0.item), (.int .i64 x0.number)] := h17
 refine l_box 3 O15 rfl rfl fun g18 w19 O20 S21 h22 => ?_
 replace h22 : Lc 3 w19 O20 g18 140 [(.int .i64 x1.key), (.int .i64 x1.tie), (.int .i64 x1.item), (.int .i64 x1.number)] := h22
 refine o_as rfl rfl (o_z ?_)
 refine ewp_seq (ewp_seq (ewp_region (o_fa rfl rfl ?_)))
 replace h17 := h17.st S21
 refine o_ld (hc := Blk.cell (i := 0) (h17.1) rfl) rfl rfl ?_
 refine o_fa rfl rfl (o_ld (hc := Blk.cell (i := 0) (h22.1) rfl) rfl rfl ?_)
 refine o_neS rfl rfl rfl (fun c23 => ?_) fun c23 => ?_
 ·
  replace hm := ip hm c23
  refine o_z ?_
  refine ewp_true rfl (ewp_seq ?_)
  obtain ⟨y24, hy25, hm⟩ := bs hm
  refine ewp_join (fun l' w' => ∃ (x27 : Unit) (O' : Lab), subs l' [(4, (.bool y24))] ∧ Bs w A w' O') ?_ ?_
  ·
   refine ewp_region (o_fa rfl rfl (o_ld (hc := Blk.cell (i := 0) (h17.1) rfl) rfl rfl ?_))
   refine o_fa rfl rfl (o_ld (hc := Blk.cell (i := 0) (h22.1) rfl) rfl rfl ?_)
   refine o_ltS rfl rfl rfl (fun c28 => ?_) fun c28 => ?_
   ·
    replace hy25 := ip hy25 c28
    refine o_as rfl rfl (o_z ?_)
    obtain rfl := sm hy25
    replace hB := (hB.st S16).st S21
    exact ⟨(), _, ⟨rfl, trivial⟩, hB⟩
   ·
    replace hy25 := im hy25 c28
    refine o_as rfl rfl (o_z ?_)
    obtain rfl := sm hy25
    replace hB := (hB.st S16).st S21
    exact ⟨(), _, ⟨rfl, trivial⟩, hB⟩
  replace hB := (hB.st S16).st S21
  rintro l29 w30 ⟨x27, O31, hs32, hB⟩
  refine ewp_sub _ hs32 ?_
  refine ewp_ret ?_
  obtain rfl := sm hm
  exact ret1v rfl (res_tmp rfl) ⟨hB.ext, vBool⟩
 ·
  replace hm := im hm c23
  refine o_z ?_
  refine ewp_false rfl (ewp_skip (ewp_seq (ewp_seq (ewp_region (o_fa rfl rfl (o_ld (hc := Blk.cell (i := 1) (h17.1) rfl) rfl rfl ?_))))))
  refine o_fa rfl rfl (o_ld (hc := Blk.cell (i := 1) (h22.1) rfl) rfl rfl ?_)
  refine o_neS rfl rfl rfl (fun c33 => ?_) fun c33 => ?_
  ·
   replace hm := ip hm c33
   refine o_z ?_
   refine ewp_true rfl (ewp_seq ?_)
   obtain ⟨y34, hy35, hm⟩ := bs hm
   refine ewp_join (fun l' w' => ∃ (x37 : Unit) (O' : Lab), subs l' [(4, (.bool y34))] ∧ Bs w A w' O') ?_ ?_
   ·
    refine ewp_region (o_fa rfl rfl (o_ld (hc := Blk.cell (i := 1) (h17.1) rfl) rfl rfl ?_))
    refine o_fa rfl rfl (o_ld (hc := Blk.cell (i := 1) (h22.1) rfl) rfl rfl ?_)
    refine o_ltS rfl rfl rfl (fun c38 => ?_) fun c38 => ?_
    ·
     replace hy35 := ip hy35 c38
     refine o_as rfl rfl (o_z ?_)
     obtain rfl := sm hy35
     replace hB := (hB.st S16).st S21
     exact ⟨(), _, ⟨rfl, trivial⟩, hB⟩
    ·
     replace hy35 := im hy35 c38
     refine o_as rfl rfl (o_z ?_)
     obtain rfl := sm hy35
     replace hB := (hB.st S16).st S21
     exact ⟨(), _, ⟨rfl, trivial⟩, hB⟩
   replace hB := (hB.st S16).st S21
   rintro l39 w40 ⟨x37, O41, hs42, hB⟩
   refine ewp_sub _ hs42 ?_
   refine ewp_ret ?_
   obtain rfl := sm hm
   exact ret1v rfl (res_tmp rfl) ⟨hB.ext, vBool⟩
  ·
   replace hm := im hm c33
   refine o_z ?_
   refine ewp_false rfl (ewp_skip (ewp_seq ?_))
   obtain ⟨y43, hy44, hm⟩ := bs hm
   refine ewp_join (fun l' w' => ∃ (x46 : Unit) (O' : Lab), subs l' [(4, (.bool y43))] ∧ Bs w A w' O') ?_ ?_
   ·
    refine ewp_region (o_fa rfl rfl (o_ld (hc := Blk.cell (i := 3) (h17.1) rfl) rfl rfl ?_))
    refine o_fa rfl rfl (o_ld (hc := Blk.cell (i := 3) (h22.1) rfl) rfl rfl ?_)
    refine o_ltS rfl rfl rfl (fun c47 => ?_) fun c47 => ?_
    ·
     replace hy44 := ip hy44 c47
     refine o_as rfl rfl (o_z ?_)
     obtain rfl := sm hy44
     replace hB := (hB.st S16).st S21
     exact ⟨(), _, ⟨rfl, trivial⟩, hB⟩
    ·
     replace hy44 := im hy44 c47
     refine o_as rfl rfl (o_z ?_)
     obtain rfl := sm hy44
     replace hB := (hB.st S16).st S21
     exact ⟨(), _, ⟨rfl, trivial⟩, hB⟩
   replace hB := (hB.st S16).st S21
   rintro l48 w49 ⟨x46, O50, hs51, hB⟩
   refine ewp_sub _ hs51 ?_
   refine ewp_ret ?_
   obtain rfl := sm hm
   exact ret1v rfl (res_tmp rfl) ⟨hB.ext, vBool⟩
noncomputable def m_pqueue_Queue_Len (x0 : Que) : Option Int :=
  some (x0.heap.length : Int)
theorem c_pqueue_Queue_Len {w : World} {O : Lab} {p0 i0 : Nat} {x0 : Que} (hx0 : Ob i0 w O (.pointer (some ⟨p0, 0, none⟩)) x0) {r : Int} (hm : m_pqueue_Queue_Len x0 = some r) :
    Fn Try.prog 61 [(.pointer (some ⟨p0, 0, none⟩))] w fun v w' => ∃ O', St (eT i0) w O w' O' ∧ Ob i0 w' O' (.pointer (some ⟨p0, 0, none⟩)) x0 ∧ Vb w' (Fr 0 w' O') v r := by
 obtain ⟨O0, hE, hz0, hl2⟩ := ent1 (w := w) (O := O) hx0.2
 have hx0' := Ob.leave hx0 hz0 hl2 (j := 2) (by decide)
 have hB : Bm w O0 w O0 := Bm.refl
 refine fn_enter Try.func61 rfl Try.ntmps61 rfl ?_
 unfold m_pqueue_Queue_Len at hm
 refine ewp_seq (ewp_region (o_as rfl rfl (o_z ?_)))
 refine ewp_seq (ewp_seq (ewp_region (o_mv rfl rfl (o_pn rfl rfl ?_))))
 refine o_z ?_
 refine ewp_false rfl (ewp_skip (ewp_seq (ewp_region (o_mv rfl rfl (o_nc rfl rfl ?_)))))
 obtain ⟨O2, v6, S3, ha5, h4, h7, r11⟩ := Que.opn hx0' 2 3 (by decide)
 obtain ⟨A8, c9, rfl⟩ := h7.form
 refine o_fa rfl rfl (o_ld (hc := Blk.cell (i := 0) (h4.1) rfl) rfl rfl ?_)
 refine o_ln rfl rfl ?_
 have l13 : x0.heap.length ≤ 9223372036854775807 := Nat.le_trans h7.len.2.1 h7.len.2.2
 have r12 : inI64 (x0.heap.length : Int) := rngNat l13
 refine o_as rfl rfl (o_z ?_)
 refine ewp_ret ?_
 obtain ⟨O14, S15, hz17, ha18, h16⟩ := Que.shut (x := x0) (l0 := 2) (l1 := 3) (by decide) h4 h7 r11
 obtain rfl := sm hm
 replace hB := (hB.st S3).st S15
 obtain ⟨O', hS', hz, hl⟩ := hE.leave (fun q => if q = 2 then i0 else 0) rfl hB
 exact ret1v rfl (res_tmp rfl) ⟨O', hS', (Ob.leave h16 hz (hl 2 (by decide) (by decide)) hx0.2), (vInt r12)⟩
noncomputable def m_pqueue_Queue_Peek (x0 : Que) : Option (Int × Int × Int × Err) :=
  if (x0.heap.length : Int) = 0 then (some (0, 0, 0, (⟨3⟩ : Err))) else (bnd (atI x0.heap 0) fun a20 => some (a20.key, a20.tie, a20.item, (⟨0⟩ : Err)))
theorem c_pqueue_Queue_Peek {w : World} {O : Lab} {p0 i0 : Nat} {x0 : Que} (hx0 : Ob i0 w O (.pointer (some ⟨p0, 0, none⟩)) x0) {r : Int × Int × Int × Err} (hm : m_pqueue_Queue_Peek x0 = some r) :
    Fn Try.prog 77 [(.pointer (some ⟨p0, 0, none⟩))] w fun v w' => ∃ O', St (eT i0) w O w' O' ∧ ∃ v0 v1 v2 v3 : Value, Ob i0 w' O' (.pointer (some ⟨p0, 0, none⟩)) x0 ∧ v = .tuple #[v0, v1, v2, v3] ∧ Vb w' (Fr 0 w' O') v0 r.1 ∧ Vb w' (Fr 0 w' O') v1 r.2.1 ∧ Vb w' (Fr 0 w' O') v2 r.2.2.1 ∧ Vb w' (Fr 0 w' O') v3 r.2.2.2 := by
 obtain ⟨O0, hE, hz0, hl2⟩ := ent1 (w := w) (O := O) hx0.2
 have hx0' := Ob.leave hx0 hz0 hl2 (j := 2) (by decide)
 have hB : Bm w O0 w O0 := Bm.refl
 refine fn_enter Try.func77 rfl Try.ntmps77 rfl ?_
 unfold m_pqueue_Queue_Peek at hm
 refine ewp_seq (ewp_region (o_as rfl rfl (o_as rfl rfl (o_as rfl rfl (o_as rfl rfl (o_z ?_))))))
 refine ewp_seq (ewp_seq (ewp_region (o_mv rfl rfl (o_pn rfl rfl ?_))))
 refine o_mv rfl rfl (owp_yes rfl rfl (o_mv rfl rfl (owp_yes rfl rfl (o_nc rfl rfl (owp_yes rfl rfl ?_)))))
 obtain ⟨O2, v6, S3, ha5, h4, h7, r11⟩ := Que.opn hx0' 2 3 (by decide)
 obtain ⟨A8, c9, rfl⟩ := h7.form
 refine o_fa rfl rfl (owp_yes rfl rfl (o_ld (hc := Blk.cell (i := 0) (h4.1) rfl) rfl rfl ?_))
 refine owp_yes rfl rfl (o_ln rfl rfl ?_)
 have l13 : x0.heap.length ≤ 9223372036854775807 := Nat.le_trans h7.len.2.1 h7.len.2.2
 have r12 : inI64 (x0.heap.length : Int) := rngNat l13
 refine owp_yes rfl rfl (o_eeS rfl rfl rfl (fun c14 => ?_) fun c14 => ?_)
 ·
  replace hm := ip hm c14
  refine o_pf rfl rfl rfl (o_z ?_)
  refine ewp_true rfl (ewp_seq (ewp_region (o_miE rfl rfl ?_)))
  refine o_as rfl rfl (o_as rfl rfl (o_as rfl rfl (o_as rfl rfl (o_z ?_))))
  refine ewp_ret ?_
  obtain ⟨O15, S16, hz18, ha19, h17⟩ := Que.shut (x := x0) (l0 := 2) (l1 := 3) (by decide) h4 h7 r11
  obtain rfl := sm hm
  replace hB := (hB.st S3).st S16
  obtain ⟨O', hS', hz, hl⟩ := hE.leave (fun q => if q = 2 then i0 else 0) rfl hB
  exact ret4 rfl (res_tmp rfl) (res_tmp rfl) (res_tmp rfl) (res_tmp rfl) ⟨O', hS', _, _, _, _, (Ob.leave h17 hz (hl 2 (by decide) (by decide)) hx0.2), rfl, (vInt (show inI64 (0) from by decide)), (vInt (show inI64 (0) from by decide)), (vInt (show inI64 (0) from by decide)), (vErr (by decide))⟩
 ·
  replace hm := im hm c14
  refine o_pf rfl rfl rfl (o_z ?_)
  refine ewp_false rfl (ewp_skip (ewp_seq (ewp_region (o_mv rfl rfl (o_nc rfl rfl (o_fa rfl rfl (o_ld (hc := Blk.cell (i := 0) (h4.1) rfl) rfl rfl ?_)))))))
  obtain ⟨a20, e21, hm⟩ := bs hm
  obtain ⟨p23, x22⟩ := atI_some' e21
  obtain ⟨b24, o25, ce26, hA27, hl28, hd29, rfl, r31, r32, r33, r34⟩ := h7.elem x22
  refine o_iaE (hA := hA27) (hj := (Int.toNat_of_nonneg p23).symm) (hlt := hl28) rfl rfl rfl ?_
  refine o_la (hl := rfl) (hc := hd29) rfl rfl ?_
  refine l_alloc 4 O2 rfl fun g35 w36 O37 S38 h39 => ?_
  refine l_store h39 rfl rfl rfl (Nat.le_of_ble_eq_true rfl) (by first | exact allOne rfl | simp [Value.cells, Value.oneCell', errV_one]) fun w40 S41 h39 => ?_
  replace h39 : Lc 4 w40 O37 g35 140 [(.int .i64 a20.key), (.int .i64 a20.tie), (.int .i64 a20.item), (.int .i64 a20.number)] := h39
  refine o_z ?_
  refine ewp_seq (ewp_draw (· = w40) [(0, true), (1, true), (2, true), (3, true), (4, true), (5, true), (6, true), (7, true), (8, true), (9, true)] (by kernel_rfl) rfl (by kernel_rfl) rfl ?_)
  refine h_fa rfl rfl rfl (h_ldA (hc := Blk.cell (i := 0) (h39.1) rfl) rfl rfl rfl ?_)
  refine h_fa rfl rfl rfl (h_ldA (hc := Blk.cell (i := 1) (h39.1) rfl) rfl rfl rfl ?_)
  refine h_fa rfl rfl rfl (h_ldA (hc := Blk.cell (i := 2) (h39.1) rfl) rfl rfl rfl ?_)
  refine h_as rfl rfl rfl (h_as rfl rfl rfl (h_as rfl rfl rfl (h_as rfl rfl rfl (h_z ?_))))
  refine ewp_ret ?_
  replace h4 := (h4.st S38).st S41
  replace h7 := (h7.st S38).st S41
  obtain ⟨O42, S43, hz45, ha46, h44⟩ := Que.shut (x := x0) (l0 := 2) (l1 := 3) (by decide) h4 h7 r11
  obtain rfl := sm hm
  replace hB := (((hB.st S3).st S38).st S41).st S43
  obtain ⟨O', hS', hz, hl⟩ := hE.leave (fun q => if q = 2 then i0 else 0) rfl hB
  exact ret4 rfl (res_tmp rfl) (res_tmp rfl) (res_tmp rfl) (res_tmp rfl) ⟨O', hS', _, _, _, _, (Ob.leave h44 hz (hl 2 (by decide) (by decide)) hx0.2), rfl, (vInt r31), (vInt r32), (vInt r33), (vErr (show inI64 0 from by decide))⟩
noncomputable def m_pqueue_Queue_up (x0 : Que) (x1 : Int) : Option Que :=
  bnd (lop (ρ := Que) (fun (s5 : Int × Que) => if 0 < s5.1 then (bnd (chkI (s5.1 - 1)) fun n23 => bnd (quoI n23 2) fun n26 => bnd (atI s5.2.heap s5.1) fun a39 => bnd (atI s5.2.heap n26) fun a54 => bnd (m_pqueue_before a39 a54) fun q69 => if q69 = true then bnd (atI s5.2.heap n26) fun a81 => bnd (atI s5.2.heap s5.1) fun a96 => bnd (atI s5.2.heap s5.1) fun a111 => bnd (atI (s5.2.heap.set (s5.1 : Int).toNat a81) n26) fun a128 => some (.next (n26, (⟨((s5.2.heap.set (s5.1 : Int).toNat a81).set (n26 : Int).toNat a96), s5.2.next⟩ : Que))) else some (.ret s5.2)) else (some (.brk (s5.1, s5.2)))) (x1, x0)) fun res3 => fin res3 fun (s154 : Int × Que) => some s154.2
theorem c_pqueue_Queue_up {w : World} {O : Lab} {p0 i0 : Nat} {x0 : Que} (hx0 : Ob i0 w O (.pointer (some ⟨p0, 0, none⟩)) x0) {x1 : Int} (rx1 : inI64 x1) {r : Que} (hm : m_pqueue_Queue_up x0 x1 = some r) :
    Fn Try.prog 76 [(.pointer (some ⟨p0, 0, none⟩)), (.int .i64 x1)] w fun v w' => ∃ O', St (eT i0) w O w' O' ∧ Ob i0 w' O' (.pointer (some ⟨p0, 0, none⟩)) r := by
 obtain ⟨O0, hE, hz0, hl2⟩ := ent1 (w := w) (O := O) hx0.2
 have hx0' := Ob.leave hx0 hz0 hl2 (j := 2) (by decide)
 have hB : Bm w O0 w O0 := Bm.refl
 refine fn_enter Try.func76 rfl Try.ntmps76 rfl ?_
 unfold m_pqueue_Queue_up at hm
 obtain ⟨res3, hL4, hm⟩ := bs hm
 refine ewp_join (aft res3 (fun (s5 : Int × Que) (x6 : Unit) => []) (fun s5 x6 w' => ∃ O' : Lab, Bm w O0 w' O' ∧ Ob 2 w' O' (.pointer (some ⟨p0, 0, none⟩)) s5.2 ∧ inI64 s5.1)) ?_ ?_
 ·
  refine ewp_block (ewp_lop (σ := Int × Que) (X := Unit) hL4 (fun (s5 : Int × Que) (x6 : Unit) => [(0, (.pointer (some ⟨p0, 0, none⟩))), (1, (.int .i64 s5.1))]) _ (fun s5 x6 w' => ∃ O' : Lab, Bm w O0 w' O' ∧ Ob 2 w' O' (.pointer (some ⟨p0, 0, none⟩)) s5.2 ∧ inI64 s5.1) _ () ⟨O0, hB, hx0', rx1⟩ ⟨rfl, rfl, trivial⟩ ?_)
  rintro s5 x6 w9 cc11 ⟨O10, hB, h21, r20⟩ hf13 hret14 hbrk15
  refine ewp_seq (ewp_seq (ewp_region (o_mv rfl rfl (o_gtS rfl rfl rfl (fun c22 => ?_) fun c22 => ?_))))
  ·
   replace hf13 := ip hf13 c22
   refine o_z ?_
   refine ewp_true rfl (ewp_skip (ewp_block (ewp_seq (ewp_region (o_mv rfl rfl ?_)))))
   obtain ⟨n23, e24, hf13⟩ := bs hf13
   have r25 := (chkI_rng e24)
   refine o_sbE (he := e24) rfl rfl rfl ?_
   obtain ⟨n26, e27, hf13⟩ := bs hf13
   have r28 := quoI_in e27 r25
   refine o_quE (he := e27) (hr := r25) rfl rfl rfl ?_
   refine o_as rfl rfl (o_z ?_)
   refine ewp_seq (ewp_seq ?_)
   obtain ⟨O29, v33, S30, ha32, h31, h34, r38⟩ := Que.opn h21 2 3 (by decide)
   obtain ⟨A35, c36, rfl⟩ := h34.form
   refine ewp_drawX [(14, [])] O29 ?_
   refine x_pre (fuel := 2) [] [(0, true), (1, true), (2, true), (3, true), (4, true), (5, true), (6, true), (7, true), (8, true), (9, true), (10, true), (11, true), (12, true), (13, true)] (by kernel_rfl) rfl ?_
   refine h_mv rfl rfl rfl (h_nc rfl rfl rfl (h_fa rfl rfl rfl (h_ldC (hc := fun w' ⟨O', hq⟩ => Blk.cell (i := 0) ((h31.st hq (by decide)).1) rfl) rfl rfl rfl ?_)))
   refine h_mv rfl rfl rfl ?_
   obtain ⟨a39, e40, hf13⟩ := bs hf13
   obtain ⟨p42, x41⟩ := atI_some' e40
   obtain ⟨b43, o44, ce45, hA46, hF49, hl47, hd48, rfl, r50, r51, r52, r53⟩ := h34.elemF x41
   refine h_iaE (hA := hA46) (hj := (Int.toNat_of_nonneg p42).symm) (hlt := hl47) rfl rfl rfl rfl ?_
   refine h_laB (hl := rfl) (hb := fun w' ⟨O', hq⟩ => (cellsAt_agree (hq.agree (i := 3) (by decide)) hF49 hd48)) rfl rfl rfl ?_
   refine h_mv rfl rfl rfl (h_nc rfl rfl rfl (h_fa rfl rfl rfl (h_ldC (hc := fun w' ⟨O', hq⟩ => Blk.cell (i := 0) ((h31.st hq (by decide)).1) rfl) rfl rfl rfl ?_)))
   refine h_mv rfl rfl rfl ?_
   obtain ⟨a54, e55, hf13⟩ := bs hf13
   obtain ⟨p57, x56⟩ := atI_some' e55
   obtain ⟨b58, o59, ce60, hA61, hF64, hl62, hd63, rfl, r65, r66, r67, r68⟩ := h34.elemF x56
   refine h_iaE (hA := hA61) (hj := (Int.toNat_of_nonneg p57).symm) (hlt := hl62) rfl rfl rfl rfl ?_
   refine h_laB (hl := rfl) (hb := fun w' ⟨O', hq⟩ => (cellsAt_agree (hq.agree (i := 3) (by decide)) hF64 hd63)) rfl rfl rfl ?_
   refine hwp_nilT ?_
   refine x_one (i := 14) (by kernel_rfl) rfl ?_
   obtain ⟨q69, e70, hf13⟩ := bs hf13
   refine l_callA (O := O29) (A := All w9) (R := fun w' F v => Vb w' F v q69) (c_pqueue_before (fun _ h => h) (Vb.mono (F := Fr 0 w9 O29) (Vb.ofAgg (cs := [(.int .i64 a39.key), (.int .i64 a39.tie), (.int .i64 a39.item), (.int .i64 a39.number)]) (x := a39) rfl ⟨rfl, r50, r51, r52, r53⟩) Fr.lt) (Vb.mono (F := Fr 0 w9 O29) (Vb.ofAgg (cs := [(.int .i64 a54.key), (.int .i64 a54.tie), (.int .i64 a54.item), (.int .i64 a54.number)]) (x := a54) rfl ⟨rfl, r65, r66, r67, r68⟩) Fr.lt) e70) rfl rfl fun v75 w71 O72 S73 h74 => ?_
   obtain rfl := h74.bool
   have hZ := S73.lst [] (fun _ h => h.elim)
   cases q69
   case false =>
    replace hf13 := iF hf13
    refine x_go [] hZ (by kernel_rfl) ?_
    refine x_pre (fuel := 0) [] [(15, true)] (by kernel_rfl) rfl ?_
    refine h_nf rfl rfl rfl (hwp_nilT ?_)
    refine x_nil (by kernel_rfl) ?_
    refine ewp_true rfl (ewp_ret ?_)
    replace h31 := h31.st S73
    replace h34 := h34.st S73
    obtain ⟨O76, S77, hz79, ha80, h78⟩ := Que.shut (x := s5.2) (l0 := 2) (l1 := 3) (by decide) h31 h34 r38
    obtain rfl := sm hf13
    obtain rfl := hret14 _ rfl
    obtain rfl := sm (fin_ret hm)
    replace hB := ((hB.st S30).st S73).st S77
    obtain ⟨O', hS', hz, hl⟩ := hE.leave (fun q => if q = 2 then i0 else 0) rfl hB
    exact ret0 rfl  ⟨O', hS', (Ob.leave h78 hz (hl 2 (by decide) (by decide)) hx0.2)⟩
   replace hf13 := iT hf13
   refine x_go [] hZ (by kernel_rfl) ?_
   refine x_pre (fuel := 0) [] [(15, true)] (by kernel_rfl) rfl ?_
   refine h_nt rfl rfl rfl (hwp_nilT ?_)
   refine x_nil (by kernel_rfl) ?_
   refine ewp_false rfl (ewp_skip (ewp_seq (ewp_drawX [(25, [3])] O72 ?_)))
   refine x_pre (fuel := 4) [] [(0, true), (1, true), (2, true), (3, true), (4, true), (5, true), (6, true), (7, true), (8, true), (10, true), (11, true), (12, true), (13, true), (14, true), (15, true), (16, true), (17, true), (18, true), (19, true), (20, true), (21, true), (22, true), (23, true), (24, true)] (by kernel_rfl) rfl ?_
   refine h_mv rfl rfl rfl (h_nc rfl rfl rfl (h_fa rfl rfl rfl ?_))
   replace h31 := h31.st S73
   refine h_ldC (hc := fun w' ⟨O', hq⟩ => Blk.cell (i := 0) ((h31.st hq (by decide)).1) rfl) rfl rfl rfl ?_
   refine h_mv rfl rfl rfl (h_mv rfl rfl rfl (h_nc rfl rfl rfl (h_fa rfl rfl rfl (h_ldC (hc := fun w' ⟨O', hq⟩ => Blk.cell (i := 0) ((h31.st hq (by decide)).1) rfl) rfl rfl rfl ?_))))
   refine h_mv rfl rfl rfl (h_nc rfl rfl rfl (h_fa rfl rfl rfl (h_ldC (hc := fun w' ⟨O', hq⟩ => Blk.cell (i := 0) ((h31.st hq (by decide)).1) rfl) rfl rfl rfl ?_)))
   refine h_mv rfl rfl rfl ?_
   obtain ⟨a81, e82, hf13⟩ := bs hf13
   obtain ⟨p84, x83⟩ := atI_some' e82
   replace h34 := h34.st S73
   obtain ⟨b85, o86, ce87, hA88, hF91, hl89, hd90, rfl, r92, r93, r94, r95⟩ := h34.elemF x83
   refine h_iaE (hA := hA88) (hj := (Int.toNat_of_nonneg p84).symm) (hlt := hl89) rfl rfl rfl rfl ?_
   refine h_laB (hl := rfl) (hb := fun w' ⟨O', hq⟩ => (cellsAt_agree (hq.agree (i := 3) (by decide)) hF91 hd90)) rfl rfl rfl ?_
   refine h_mv rfl rfl rfl (h_nc rfl rfl rfl (h_fa rfl rfl rfl (h_ldC (hc := fun w' ⟨O', hq⟩ => Blk.cell (i := 0) ((h31.st hq (by decide)).1) rfl) rfl rfl rfl ?_)))
   refine h_mv rfl rfl rfl ?_
   obtain ⟨a96, e97, hf13⟩ := bs hf13
   obtain ⟨p99, x98⟩ := atI_some' e97
   obtain ⟨b100, o101, ce102, hA103, hF106, hl104, hd105, rfl, r107, r108, r109, r110⟩ := h34.elemF x98
   refine h_iaE (hA := hA103) (hj := (Int.toNat_of_nonneg p99).symm) (hlt := hl104) rfl rfl rfl rfl ?_
   refine h_laB (hl := rfl) (hb := fun w' ⟨O', hq⟩ => (cellsAt_agree (hq.agree (i := 3) (by decide)) hF106 hd105)) rfl rfl rfl ?_
   obtain ⟨a111, e112, hf13⟩ := bs hf13
   obtain ⟨p114, x113⟩ := atI_some' e112
   obtain ⟨b115, o116, ce117, hA118, hF121, hl119, hd120, rfl, r122, r123, r124, r125⟩ := h34.elemF x113
   refine h_iaE (hA := hA118) (hj := (Int.toNat_of_nonneg p114).symm) (hlt := hl119) rfl rfl rfl rfl ?_
   refine hwp_nilT ?_
   refine x_pre (fuel := 3) [3] [(9, true)] (by kernel_rfl) rfl ?_
   refine h_mv rfl rfl rfl (hwp_nilT ?_)
   refine x_one (i := 25) (by kernel_rfl) rfl ?_
   refine l_setE rfl h34 (a := a81) (Vb.ofAgg (cs := [(.int .i64 a81.key), (.int .i64 a81.tie), (.int .i64 a81.item), (.int .i64 a81.number)]) (x := a81) rfl ⟨rfl, r92, r93, r94, r95⟩) hA118 rfl rfl (lt_of_get x113) fun w126 S127 h34 => ?_
   have hZ := S127.lst [3] (fun _ h => by cases h; decide)
   refine x_go [] hZ (by kernel_rfl) ?_
   refine x_pre (fuel := 1) [] [(26, true)] (by kernel_rfl) rfl ?_
   obtain ⟨a128, e129, hf13⟩ := bs hf13
   obtain ⟨p131, x130⟩ := atI_some' e129
   obtain ⟨b132, o133, ce134, hA135, hF138, hl136, hd137, rfl, r139, r140, r141, r142⟩ := h34.elemF x130
   refine h_iaE (hA := hA135) (hj := (Int.toNat_of_nonneg p131).symm) (hlt := hl136) rfl rfl rfl rfl ?_
   refine hwp_nilT ?_
   refine x_one (i := 27) (by kernel_rfl) rfl ?_
   refine l_setE rfl h34 (a := a96) (Vb.ofAgg (cs := [(.int .i64 a96.key), (.int .i64 a96.tie), (.int .i64 a96.item), (.int .i64 a96.number)]) (x := a96) rfl ⟨rfl, r107, r108, r109, r110⟩) hA135 rfl rfl (lt_of_get x130) fun w143 S144 h34 => ?_
   refine x_end (by kernel_rfl) ?_
   refine x_nil (by kernel_rfl) ?_
   refine ewp_region (o_mv rfl rfl (o_as rfl rfl (o_z ?_)))
   replace h31 := (h31.st S127).st S144
   obtain ⟨O145, S146, hz148, ha149, h147⟩ := Que.shut (x := (⟨((s5.2.heap.set (s5.1 : Int).toNat a81).set (n26 : Int).toNat a96), s5.2.next⟩ : Que)) (l0 := 2) (l1 := 3) (by decide) (by have q := h31; rw [← ((by simp : ((s5.2.heap.set (s5.1 : Int).toNat a81).set (n26 : Int).toNat a96).length = (s5.2.heap.set (s5.1 : Int).toNat a81).length).trans ((by simp : (s5.2.heap.set (s5.1 : Int).toNat a81).length = s5.2.heap.length).trans rfl))] at q; exact q) h34.relen r38
   obtain rfl := sm hf13
   refine (?_ : Exists _)
   replace hB := ((((hB.st S30).st S73).st S127).st S144).st S146
   exact ⟨_, (), rfl, ⟨rfl, rfl, trivial⟩, _, hB, h147, r28⟩
  ·
   replace hf13 := im hf13 c22
   refine o_z ?_
   refine ewp_false rfl (ewp_exit ?_)
   obtain rfl := sm hf13
   refine (?_ : Exists _)
   exact ⟨_, (), hbrk15 _ rfl, trivial, _, hB, h21, r20⟩
 rintro l150 w151 ⟨s154, x155, rfl, hs153, O152, hB, h21, r20⟩
 replace hm := fin_done hm
 obtain rfl := sm hm
 obtain ⟨O', hS', hz, hl⟩ := hE.leave (fun q => if q = 2 then i0 else 0) rfl hB
 exact ret0n rfl  ⟨O', hS', (Ob.leave h21 hz (hl 2 (by decide) (by decide)) hx0.2)⟩
noncomputable def m_pqueue_Queue_down (x0 : Que) (x1 : Int) : Option Que :=
  bnd (lop (ρ := Que) (fun (s5 : Int × Que) => bnd (chkI (2 * s5.1)) fun n22 => bnd (chkI (n22 + 1)) fun n25 => if (s5.2.heap.length : Int) ≤ n25 then (some (.ret s5.2)) else (bnd (bnd (bnd (chkI (n25 + 1)) fun n55 => if n55 < (s5.2.heap.length : Int) then (bnd (chkI (n25 + 1)) fun n61 => bnd (atI s5.2.heap n61) fun a64 => bnd (atI s5.2.heap n25) fun a79 => bnd (m_pqueue_before a64 a79) fun q94 => if q94 = true then some true else some false) else (some false) : Option Bool) fun y51 => if y51 = true then (bnd (chkI (n25 + 1)) fun n121 => some n121) else (some n25) : Option Int) fun y46 => bnd (atI s5.2.heap y46) fun a138 => bnd (atI s5.2.heap s5.1) fun a153 => bnd (m_pqueue_before a138 a153) fun q168 => if q168 = true then bnd (atI s5.2.heap y46) fun a180 => bnd (atI s5.2.heap s5.1) fun a195 => bnd (atI s5.2.heap s5.1) fun a210 => bnd (atI (s5.2.heap.set (s5.1 : Int).toNat a180) y46) fun a227 => some (.next (y46, (⟨((s5.2.heap.set (s5.1 : Int).toNat a180).set (y46 : Int).toNat a195), s5.2.next⟩ : Que))) else some (.ret s5.2))) (x1, x0)) fun res3 => fin res3 fun (_ : Int × Que) => none
theorem c_pqueue_Queue_down {w : World} {O : Lab} {p0 i0 : Nat} {x0 : Que} (hx0 : Ob i0 w O (.pointer (some ⟨p0, 0, none⟩)) x0) {x1 : Int} (rx1 : inI64 x1) {r : Que} (hm : m_pqueue_Queue_down x0 x1 = some r) :
    Fn Try.prog 78 [(.pointer (some ⟨p0, 0, none⟩)), (.int .i64 x1)] w fun v w' => ∃ O', St (eT i0) w O w' O' ∧ Ob i0 w' O' (.pointer (some ⟨p0, 0, none⟩)) r := by
 obtain ⟨O0, hE, hz0, hl2⟩ := ent1 (w := w) (O := O) hx0.2
 have hx0' := Ob.leave hx0 hz0 hl2 (j := 2) (by decide)
 have hB : Bm w O0 w O0 := Bm.refl
 refine fn_enter Try.func78 rfl Try.ntmps78 rfl ?_
 unfold m_pqueue_Queue_down at hm
 obtain ⟨res3, hL4, hm⟩ := bs hm
 refine ewp_join (aft res3 (fun (s5 : Int × Que) (x6 : Unit) => []) (fun s5 x6 w' => False)) ?_ ?_
 ·
  refine ewp_block (ewp_lop (σ := Int × Que) (X := Unit) hL4 (fun (s5 : Int × Que) (x6 : Unit) => [(0, (.pointer (some ⟨p0, 0, none⟩))), (1, (.int .i64 s5.1))]) _ (fun s5 x6 w' => ∃ O' : Lab, Bm w O0 w' O' ∧ Ob 2 w' O' (.pointer (some ⟨p0, 0, none⟩)) s5.2 ∧ inI64 s5.1) _ () ⟨O0, hB, hx0', rx1⟩ ⟨rfl, rfl, trivial⟩ ?_)
  rintro s5 x6 w9 cc11 ⟨O10, hB, h21, r20⟩ hf13 hret14 hbrk15
  refine ewp_block (ewp_seq (ewp_region (o_mv rfl rfl ?_)))
  obtain ⟨n22, e23, hf13⟩ := bs hf13
  have r24 := (chkI_rng e23)
  refine o_mlE (he := e23) rfl rfl rfl ?_
  obtain ⟨n25, e26, hf13⟩ := bs hf13
  have r27 := (chkI_rng e26)
  refine o_adE (he := e26) rfl rfl rfl ?_
  refine o_as rfl rfl (o_z ?_)
  refine ewp_seq (ewp_seq (ewp_region (o_mv rfl rfl (o_mv rfl rfl (o_nc rfl rfl ?_)))))
  obtain ⟨O28, v32, S29, ha31, h30, h33, r37⟩ := Que.opn h21 2 3 (by decide)
  obtain ⟨A34, c35, rfl⟩ := h33.form
  refine o_fa rfl rfl (o_ld (hc := Blk.cell (i := 0) (h30.1) rfl) rfl rfl ?_)
  refine o_ln rfl rfl ?_
  have l39 : s5.2.heap.length ≤ 9223372036854775807 := Nat.le_trans h33.len.2.1 h33.len.2.2
  have r38 : inI64 (s5.2.heap.length : Int) := rngNat l39
  refine o_geS rfl rfl rfl (fun c40 => ?_) fun c40 => ?_
  ·
   replace hf13 := ip hf13 c40
   refine o_z ?_
   refine ewp_true rfl (ewp_ret ?_)
   obtain ⟨O41, S42, hz44, ha45, h43⟩ := Que.shut (x := s5.2) (l0 := 2) (l1 := 3) (by decide) h30 h33 r37
   obtain rfl := sm hf13
   obtain rfl := hret14 _ rfl
   obtain rfl := sm (fin_ret hm)
   replace hB := (hB.st S29).st S42
   obtain ⟨O', hS', hz, hl⟩ := hE.leave (fun q => if q = 2 then i0 else 0) rfl hB
   exact ret0 rfl  ⟨O', hS', (Ob.leave h43 hz (hl 2 (by decide) (by decide)) hx0.2)⟩
  ·
   replace hf13 := im hf13 c40
   refine o_z ?_
   refine ewp_false rfl (ewp_skip (ewp_seq ?_))
   obtain ⟨y46, hy47, hf13⟩ := bs hf13
   refine ewp_join (fun l' w' => ∃ (x49 : Unit) (O' : Lab), subs l' [(0, (.pointer (some ⟨p0, 0, none⟩))), (1, (.int .i64 s5.1)), (4, (.int .i64 y46))] ∧ Bm w O0 w' O' ∧ Ob 2 w' O' (.pointer (some ⟨p0, 0, none⟩)) s5.2 ∧ inI64 y46) ?_ ?_
   ·
    refine ewp_seq ?_
    obtain ⟨y51, hy52, hy47⟩ := bs hy47
    refine ewp_join (fun l' w' => ∃ (x54 : Unit) (O' : Lab), subs l' [(0, (.pointer (some ⟨p0, 0, none⟩))), (1, (.int .i64 s5.1)), (4, (.int .i64 n25)), (40, (.bool y51))] ∧ Bm w O0 w' O' ∧ Ob 2 w' O' (.pointer (some ⟨p0, 0, none⟩)) s5.2) ?_ ?_
    ·
     refine ewp_drawX [(24, [])] O28 ?_
     refine x_pre (fuel := 2) [] [(0, true), (1, true), (2, true), (3, true), (4, true), (5, true), (6, true), (7, true), (8, true), (9, true), (10, true), (11, true), (12, true), (13, true), (14, true), (15, true), (16, true), (17, true), (18, true), (19, true), (20, true), (21, true), (22, true), (23, true)] (by kernel_rfl) rfl ?_
     refine h_mv rfl rfl rfl ?_
     obtain ⟨n55, e56, hy52⟩ := bs hy52
     have r57 := (chkI_rng e56)
     refine h_adE (he := e56) rfl rfl rfl rfl ?_
     refine h_mv rfl rfl rfl (h_nc rfl rfl rfl (h_fa rfl rfl rfl (h_ldC (hc := fun w' ⟨O', hq⟩ => Blk.cell (i := 0) ((h30.st hq (by decide)).1) rfl) rfl rfl rfl ?_)))
     refine h_ln rfl rfl rfl ?_
     have l59 : s5.2.heap.length ≤ 9223372036854775807 := Nat.le_trans h33.len.2.1 h33.len.2.2
     have r58 : inI64 (s5.2.heap.length : Int) := rngNat l59
     refine h_ltS rfl rfl rfl rfl (fun c60 => ?_) fun c60 => ?_
     ·
      replace hy52 := ip hy52 c60
      refine h_mv rfl rfl rfl (hwp_o rfl (hwq_yes rfl rfl (g_mv rfl rfl (hwp_o rfl (hwq_yes rfl rfl (g_nc rfl rfl (hwp_o rfl (hwq_yes rfl rfl (g_fa rfl rfl (hwp_o rfl (hwq_yes rfl rfl (g_ldC (hc := fun w' ⟨O', hq⟩ => Blk.cell (i := 0) ((h30.st hq (by decide)).1) rfl) rfl rfl ?_))))))))))))
      refine hwp_o rfl (hwq_yes rfl rfl (g_mv rfl rfl (hwp_o rfl (hwq_yes rfl rfl ?_))))
      obtain ⟨n61, e62, hy52⟩ := bs hy52
      have r63 := (chkI_rng e62)
      refine g_adE (he := e62) rfl rfl rfl ?_
      refine hwp_o rfl (hwq_yes rfl rfl ?_)
      obtain ⟨a64, e65, hy52⟩ := bs hy52
      obtain ⟨p67, x66⟩ := atI_some' e65
      obtain ⟨b68, o69, ce70, hA71, hF74, hl72, hd73, rfl, r75, r76, r77, r78⟩ := h33.elemF x66
      refine g_iaE (hA := hA71) (hj := (Int.toNat_of_nonneg p67).symm) (hlt := hl72) rfl rfl rfl ?_
      refine hwp_o rfl (hwq_yes rfl rfl (g_laB (hl := rfl) (hb := fun w' ⟨O', hq⟩ => (cellsAt_agree (hq.agree (i := 3) (by decide)) hF74 hd73)) rfl rfl ?_))
      refine hwp_o rfl (hwq_yes rfl rfl (g_mv rfl rfl (hwp_o rfl (hwq_yes rfl rfl (g_nc rfl rfl (hwp_o rfl (hwq_yes rfl rfl (g_fa rfl rfl (hwp_o rfl (hwq_yes rfl rfl (g_ldC (hc := fun w' ⟨O', hq⟩ => Blk.cell (i := 0) ((h30.st hq (by decide)).1) rfl) rfl rfl ?_)))))))))))
      refine hwp_o rfl (hwq_yes rfl rfl (g_mv rfl rfl (hwp_o rfl (hwq_yes rfl rfl ?_))))
      obtain ⟨a79, e80, hy52⟩ := bs hy52
      obtain ⟨p82, x81⟩ := atI_some' e80
      obtain ⟨b83, o84, ce85, hA86, hF89, hl87, hd88, rfl, r90, r91, r92, r93⟩ := h33.elemF x81
      refine g_iaE (hA := hA86) (hj := (Int.toNat_of_nonneg p82).symm) (hlt := hl87) rfl rfl rfl ?_
      refine hwp_o rfl (hwq_yes rfl rfl (g_laB (hl := rfl) (hb := fun w' ⟨O', hq⟩ => (cellsAt_agree (hq.agree (i := 3) (by decide)) hF89 hd88)) rfl rfl ?_))
      refine hwp_nilT ?_
      refine x_one (i := 24) (by kernel_rfl) rfl ?_
      refine owp_yes rfl rfl ?_
      obtain ⟨q94, e95, hy52⟩ := bs hy52
      refine l_callA (O := O28) (A := All w9) (R := fun w' F v => Vb w' F v q94) (c_pqueue_before (fun _ h => h) (Vb.mono (F := Fr 0 w9 O28) (Vb.ofAgg (cs := [(.int .i64 a64.key), (.int .i64 a64.tie), (.int .i64 a64.item), (.int .i64 a64.number)]) (x := a64) rfl ⟨rfl, r75, r76, r77, r78⟩) Fr.lt) (Vb.mono (F := Fr 0 w9 O28) (Vb.ofAgg (cs := [(.int .i64 a79.key), (.int .i64 a79.tie), (.int .i64 a79.item), (.int .i64 a79.number)]) (x := a79) rfl ⟨rfl, r90, r91, r92, r93⟩) Fr.lt) e95) rfl rfl fun v100 w96 O97 S98 h99 => ?_
      obtain rfl := h99.bool
      have hZ := S98.lst [] (fun _ h => h.elim)
      cases q94
      case false =>
       replace hy52 := iF hy52
       refine x_go [] hZ (by kernel_rfl) ?_
       refine x_pre (fuel := 0) [] [(25, true)] (by kernel_rfl) rfl ?_
       refine h_pt rfl rfl rfl rfl (hwp_nilT ?_)
       refine x_nil (by kernel_rfl) ?_
       replace h30 := h30.st S98
       replace h33 := h33.st S98
       obtain ⟨O101, S102, hz104, ha105, h103⟩ := Que.shut (x := s5.2) (l0 := 2) (l1 := 3) (by decide) h30 h33 r37
       obtain rfl := sm hy52
       replace hB := ((hB.st S29).st S98).st S102
       exact ⟨(), _, ⟨rfl, rfl, rfl, rfl, trivial⟩, hB, h103⟩
      replace hy52 := iT hy52
      refine x_go [] hZ (by kernel_rfl) ?_
      refine x_pre (fuel := 0) [] [(25, true)] (by kernel_rfl) rfl ?_
      refine h_pt rfl rfl rfl rfl (hwp_nilT ?_)
      refine x_nil (by kernel_rfl) ?_
      replace h30 := h30.st S98
      replace h33 := h33.st S98
      obtain ⟨O106, S107, hz109, ha110, h108⟩ := Que.shut (x := s5.2) (l0 := 2) (l1 := 3) (by decide) h30 h33 r37
      obtain rfl := sm hy52
      replace hB := ((hB.st S29).st S98).st S107
      exact ⟨(), _, ⟨rfl, rfl, rfl, rfl, trivial⟩, hB, h108⟩
     ·
      replace hy52 := im hy52 c60
      refine h_mv rfl rfl rfl (h_no rfl rfl rfl rfl rfl (h_no rfl rfl rfl rfl rfl (h_no rfl rfl rfl rfl rfl (h_no rfl rfl rfl rfl rfl (h_no rfl rfl rfl rfl rfl (h_no rfl rfl rfl rfl rfl (h_no rfl rfl rfl rfl rfl (h_no rfl rfl rfl rfl rfl (h_no rfl rfl rfl rfl rfl (h_no rfl rfl rfl rfl rfl (h_no rfl rfl rfl rfl rfl (h_no rfl rfl rfl rfl rfl (h_no rfl rfl rfl rfl rfl (h_no rfl rfl rfl rfl rfl ?_))))))))))))))
      refine h_no rfl rfl rfl rfl rfl (hwp_nilT ?_)
      refine x_one (i := 24) (by kernel_rfl) rfl ?_
      refine owp_no rfl rfl rfl rfl (x_go [] ((St.refl nT _ _).lst [] (fun _ h => h.elim)) (by kernel_rfl) ?_)
      refine x_pre (fuel := 0) [] [(25, true)] (by kernel_rfl) rfl ?_
      refine h_pf rfl rfl rfl rfl (hwp_nilT ?_)
      refine x_nil (by kernel_rfl) ?_
      obtain ⟨O111, S112, hz114, ha115, h113⟩ := Que.shut (x := s5.2) (l0 := 2) (l1 := 3) (by decide) h30 h33 r37
      obtain rfl := sm hy52
      replace hB := (hB.st S29).st S112
      exact ⟨(), _, ⟨rfl, rfl, rfl, rfl, trivial⟩, hB, h113⟩
    replace hB := hB.st S29
    rintro l116 w117 ⟨x54, O118, hs119, hB, h99⟩
    refine ewp_sub _ hs119 ?_
    refine ewp_cond rfl (fun c120 => ?_) (fun c120 => ?_)
    ·
     replace hy47 := ip hy47 c120
     refine ewp_region (o_mv rfl rfl ?_)
     obtain ⟨n121, e122, hy47⟩ := bs hy47
     have r123 := (chkI_rng e122)
     refine o_adE (he := e122) rfl rfl rfl ?_
     refine o_as rfl rfl (o_z ?_)
     obtain rfl := sm hy47
     exact ⟨(), _, ⟨rfl, rfl, rfl, trivial⟩, hB, h99, r123⟩
    ·
     replace hy47 := im' hy47 c120
     refine ewp_skip ?_
     obtain rfl := sm hy47
     exact ⟨(), _, ⟨rfl, rfl, rfl, trivial⟩, hB, h99, r27⟩
   replace hB := hB.st S29
   rintro l124 w125 ⟨x49, O126, hs127, hB, h94, r50⟩
   refine ewp_sub _ hs127 ?_
   refine ewp_seq (ewp_seq ?_)
   obtain ⟨O128, v132, S129, ha131, h130, h133, r137⟩ := Que.opn h94 2 3 (by decide)
   obtain ⟨A134, c135, rfl⟩ := h133.form
   refine ewp_drawX [(14, [])] O128 ?_
   refine x_pre (fuel := 2) [] [(0, true), (1, true), (2, true), (3, true), (4, true), (5, true), (6, true), (7, true), (8, true), (9, true), (10, true), (11, true), (12, true), (13, true)] (by kernel_rfl) rfl ?_
   refine h_mv rfl rfl rfl (h_nc rfl rfl rfl (h_fa rfl rfl rfl (h_ldC (hc := fun w' ⟨O', hq⟩ => Blk.cell (i := 0) ((h130.st hq (by decide)).1) rfl) rfl rfl rfl ?_)))
   refine h_mv rfl rfl rfl ?_
   obtain ⟨a138, e139, hf13⟩ := bs hf13
   obtain ⟨p141, x140⟩ := atI_some' e139
   obtain ⟨b142, o143, ce144, hA145, hF148, hl146, hd147, rfl, r149, r150, r151, r152⟩ := h133.elemF x140
   refine h_iaE (hA := hA145) (hj := (Int.toNat_of_nonneg p141).symm) (hlt := hl146) rfl rfl rfl rfl ?_
   refine h_laB (hl := rfl) (hb := fun w' ⟨O', hq⟩ => (cellsAt_agree (hq.agree (i := 3) (by decide)) hF148 hd147)) rfl rfl rfl ?_
   refine h_mv rfl rfl rfl (h_nc rfl rfl rfl (h_fa rfl rfl rfl (h_ldC (hc := fun w' ⟨O', hq⟩ => Blk.cell (i := 0) ((h130.st hq (by decide)).1) rfl) rfl rfl rfl ?_)))
   refine h_mv rfl rfl rfl ?_
   obtain ⟨a153, e154, hf13⟩ := bs hf13
   obtain ⟨p156, x155⟩ := atI_some' e154
   obtain ⟨b157, o158, ce159, hA160, hF163, hl161, hd162, rfl, r164, r165, r166, r167⟩ := h133.elemF x155
   refine h_iaE (hA := hA160) (hj := (Int.toNat_of_nonneg p156).symm) (hlt := hl161) rfl rfl rfl rfl ?_
   refine h_laB (hl := rfl) (hb := fun w' ⟨O', hq⟩ => (cellsAt_agree (hq.agree (i := 3) (by decide)) hF163 hd162)) rfl rfl rfl ?_
   refine hwp_nilT ?_
   refine x_one (i := 14) (by kernel_rfl) rfl ?_
   obtain ⟨q168, e169, hf13⟩ := bs hf13
   refine l_callA (O := O128) (A := All w125) (R := fun w' F v => Vb w' F v q168) (c_pqueue_before (fun _ h => h) (Vb.mono (F := Fr 0 w125 O128) (Vb.ofAgg (cs := [(.int .i64 a138.key), (.int .i64 a138.tie), (.int .i64 a138.item), (.int .i64 a138.number)]) (x := a138) rfl ⟨rfl, r149, r150, r151, r152⟩) Fr.lt) (Vb.mono (F := Fr 0 w125 O128) (Vb.ofAgg (cs := [(.int .i64 a153.key), (.int .i64 a153.tie), (.int .i64 a153.item), (.int .i64 a153.number)]) (x := a153) rfl ⟨rfl, r164, r165, r166, r167⟩) Fr.lt) e169) rfl rfl fun v174 w170 O171 S172 h173 => ?_
   obtain rfl := h173.bool
   have hZ := S172.lst [] (fun _ h => h.elim)
   cases q168
   case false =>
    replace hf13 := iF hf13
    refine x_go [] hZ (by kernel_rfl) ?_
    refine x_pre (fuel := 0) [] [(15, true)] (by kernel_rfl) rfl ?_
    refine h_nf rfl rfl rfl (hwp_nilT ?_)
    refine x_nil (by kernel_rfl) ?_
    refine ewp_true rfl (ewp_ret ?_)
    replace h130 := h130.st S172
    replace h133 := h133.st S172
    obtain ⟨O175, S176, hz178, ha179, h177⟩ := Que.shut (x := s5.2) (l0 := 2) (l1 := 3) (by decide) h130 h133 r137
    obtain rfl := sm hf13
    obtain rfl := hret14 _ rfl
    obtain rfl := sm (fin_ret hm)
    replace hB := ((hB.st S129).st S172).st S176
    obtain ⟨O', hS', hz, hl⟩ := hE.leave (fun q => if q = 2 then i0 else 0) rfl hB
    exact ret0 rfl  ⟨O', hS', (Ob.leave h177 hz (hl 2 (by decide) (by decide)) hx0.2)⟩
   replace hf13 := iT hf13
   refine x_go [] hZ (by kernel_rfl) ?_
   refine x_pre (fuel := 0) [] [(15, true)] (by kernel_rfl) rfl ?_
   refine h_nt rfl rfl rfl (hwp_nilT ?_)
   refine x_nil (by kernel_rfl) ?_
   refine ewp_false rfl (ewp_skip (ewp_seq (ewp_drawX [(25, [3])] O171 ?_)))
   refine x_pre (fuel := 4) [] [(0, true), (1, true), (2, true), (3, true), (4, true), (5, true), (6, true), (7, true), (8, true), (10, true), (11, true), (12, true), (13, true), (14, true), (15, true), (16, true), (17, true), (18, true), (19, true), (20, true), (21, true), (22, true), (23, true), (24, true)] (by kernel_rfl) rfl ?_
   refine h_mv rfl rfl rfl (h_nc rfl rfl rfl (h_fa rfl rfl rfl ?_))
   replace h130 := h130.st S172
   refine h_ldC (hc := fun w' ⟨O', hq⟩ => Blk.cell (i := 0) ((h130.st hq (by decide)).1) rfl) rfl rfl rfl ?_
   refine h_mv rfl rfl rfl (h_mv rfl rfl rfl (h_nc rfl rfl rfl (h_fa rfl rfl rfl (h_ldC (hc := fun w' ⟨O', hq⟩ => Blk.cell (i := 0) ((h130.st hq (by decide)).1) rfl) rfl rfl rfl ?_))))
   refine h_mv rfl rfl rfl (h_nc rfl rfl rfl (h_fa rfl rfl rfl (h_ldC (hc := fun w' ⟨O', hq⟩ => Blk.cell (i := 0) ((h130.st hq (by decide)).1) rfl) rfl rfl rfl ?_)))
   refine h_mv rfl rfl rfl ?_
   obtain ⟨a180, e181, hf13⟩ := bs hf13
   obtain ⟨p183, x182⟩ := atI_some' e181
   replace h133 := h133.st S172
   obtain ⟨b184, o185, ce186, hA187, hF190, hl188, hd189, rfl, r191, r192, r193, r194⟩ := h133.elemF x182
   refine h_iaE (hA := hA187) (hj := (Int.toNat_of_nonneg p183).symm) (hlt := hl188) rfl rfl rfl rfl ?_
   refine h_laB (hl := rfl) (hb := fun w' ⟨O', hq⟩ => (cellsAt_agree (hq.agree (i := 3) (by decide)) hF190 hd189)) rfl rfl rfl ?_
   refine h_mv rfl rfl rfl (h_nc rfl rfl rfl (h_fa rfl rfl rfl (h_ldC (hc := fun w' ⟨O', hq⟩ => Blk.cell (i := 0) ((h130.st hq (by decide)).1) rfl) rfl rfl rfl ?_)))
   refine h_mv rfl rfl rfl ?_
   obtain ⟨a195, e196, hf13⟩ := bs hf13
   obtain ⟨p198, x197⟩ := atI_some' e196
   obtain ⟨b199, o200, ce201, hA202, hF205, hl203, hd204, rfl, r206, r207, r208, r209⟩ := h133.elemF x197
   refine h_iaE (hA := hA202) (hj := (Int.toNat_of_nonneg p198).symm) (hlt := hl203) rfl rfl rfl rfl ?_
   refine h_laB (hl := rfl) (hb := fun w' ⟨O', hq⟩ => (cellsAt_agree (hq.agree (i := 3) (by decide)) hF205 hd204)) rfl rfl rfl ?_
   obtain ⟨a210, e211, hf13⟩ := bs hf13
   obtain ⟨p213, x212⟩ := atI_some' e211
   obtain ⟨b214, o215, ce216, hA217, hF220, hl218, hd219, rfl, r221, r222, r223, r224⟩ := h133.elemF x212
   refine h_iaE (hA := hA217) (hj := (Int.toNat_of_nonneg p213).symm) (hlt := hl218) rfl rfl rfl rfl ?_
   refine hwp_nilT ?_
   refine x_pre (fuel := 3) [3] [(9, true)] (by kernel_rfl) rfl ?_
   refine h_mv rfl rfl rfl (hwp_nilT ?_)
   refine x_one (i := 25) (by kernel_rfl) rfl ?_
   refine l_setE rfl h133 (a := a180) (Vb.ofAgg (cs := [(.int .i64 a180.key), (.int .i64 a180.tie), (.int .i64 a180.item), (.int .i64 a180.number)]) (x := a180) rfl ⟨rfl, r191, r192, r193, r194⟩) hA217 rfl rfl (lt_of_get x212) fun w225 S226 h133 => ?_
   have hZ := S226.lst [3] (fun _ h => by cases h; decide)
   refine x_go [] hZ (by kernel_rfl) ?_
   refine x_pre (fuel := 1) [] [(26, true)] (by kernel_rfl) rfl ?_
   obtain ⟨a227, e228, hf13⟩ := bs hf13
   obtain ⟨p230, x229⟩ := atI_some' e228
   obtain ⟨b231, o232, ce233, hA234, hF237, hl235, hd236, rfl, r238, r239, r240, r241⟩ := h133.elemF x229
   refine h_iaE (hA := hA234) (hj := (Int.toNat_of_nonneg p230).symm) (hlt := hl235) rfl rfl rfl rfl ?_
   refine hwp_nilT ?_
   refine x_one (i := 27) (by kernel_rfl) rfl ?_
   refine l_setE rfl h133 (a := a195) (Vb.ofAgg (cs := [(.int .i64 a195.key), (.int .i64 a195.tie), (.int .i64 a195.item), (.int .i64 a195.number)]) (x := a195) rfl ⟨rfl, r206, r207, r208, r209⟩) hA234 rfl rfl (lt_of_get x229) fun w242 S243 h133 => ?_
   refine x_end (by kernel_rfl) ?_
   refine x_nil (by kernel_rfl) ?_
   refine ewp_region (o_mv rfl rfl (o_as rfl rfl (o_z ?_)))
   replace h130 := (h130.st S226).st S243
   obtain ⟨O244, S245, hz247, ha248, h246⟩ := Que.shut (x := (⟨((s5.2.heap.set (s5.1 : Int).toNat a180).set (y46 : Int).toNat a195), s5.2.next⟩ : Que)) (l0 := 2) (l1 := 3) (by decide) (by have q := h130; rw [← ((by simp : ((s5.2.heap.set (s5.1 : Int).toNat a180).set (y46 : Int).toNat a195).length = (s5.2.heap.set (s5.1 : Int).toNat a180).length).trans ((by simp : (s5.2.heap.set (s5.1 : Int).toNat a180).length = s5.2.heap.length).trans rfl))] at q; exact q) h133.relen r137
   obtain rfl := sm hf13
   refine (?_ : Exists _)
   replace hB := ((((hB.st S129).st S172).st S226).st S243).st S245
   exact ⟨_, (), rfl, ⟨rfl, rfl, trivial⟩, _, hB, h246, r50⟩
 rintro l249 w250 ⟨s253, x254, _, _, hE⟩
 exact hE.elim
noncomputable def m_pqueue_Queue_Push (x0 : Que) (x1 : Int) (x2 : Int) (x3 : Int) : Option (Err × Que) :=
  if 65536 ≤ (x0.heap.length : Int) then (some ((⟨10⟩ : Err), x0)) else (bnd (appI 32 x0.heap [(⟨x1, x2, x3, x0.next⟩ : QEn)]) fun u29 => bnd (chkI (x0.next + 1)) fun n42 => bnd (chkI ((u29.length : Int) - 1)) fun n49 => bnd (m_pqueue_Queue_up (⟨u29, n42⟩ : Que) n49) fun q57 => some ((⟨0⟩ : Err), q57))
theorem c_pqueue_Queue_Push {w : World} {O : Lab} {p0 i0 : Nat} {x0 : Que} (hx0 : Ob i0 w O (.pointer (some ⟨p0, 0, none⟩)) x0) {x1 : Int} (rx1 : inI64 x1) {x2 : Int} (rx2 : inI64 x2) {x3 : Int} (rx3 : inI64 x3) {r : Err × Que} (hm : m_pqueue_Queue_Push x0 x1 x2 x3 = some r) :
    Fn Try.prog 60 [(.pointer (some ⟨p0, 0, none⟩)), (.int .i64 x1), (.int .i64 x2), (.int .i64 x3)] w fun v w' => ∃ O', St (eT i0) w O w' O' ∧ Ob i0 w' O' (.pointer (some ⟨p0, 0, none⟩)) r.2 ∧ Vb w' (Fr 0 w' O') v r.1 := by
 obtain ⟨O0, hE, hz0, hl2⟩ := ent1 (w := w) (O := O) hx0.2
 have hx0' := Ob.leave hx0 hz0 hl2 (j := 2) (by decide)
 have hB : Bm w O0 w O0 := Bm.refl
 refine fn_enter Try.func60 rfl Try.ntmps60 rfl ?_
 unfold m_pqueue_Queue_Push at hm
 refine ewp_seq (ewp_region (o_as rfl rfl (o_z ?_)))
 refine ewp_seq (ewp_seq (ewp_region (o_mv rfl rfl (o_pn rfl rfl ?_))))
 refine o_z ?_
 refine ewp_false rfl (ewp_skip (ewp_seq (ewp_seq (ewp_region (o_mv rfl rfl (o_nc rfl rfl ?_))))))
 obtain ⟨O5, v9, S6, ha8, h7, h10, r14⟩ := Que.opn hx0' 2 3 (by decide)
 obtain ⟨A11, c12, rfl⟩ := h10.form
 refine o_fa rfl rfl (o_ld (hc := Blk.cell (i := 0) (h7.1) rfl) rfl rfl ?_)
 refine o_ln rfl rfl ?_
 have l16 : x0.heap.length ≤ 9223372036854775807 := Nat.le_trans h10.len.2.1 h10.len.2.2
 have r15 : inI64 (x0.heap.length : Int) := rngNat l16
 refine o_geS rfl rfl rfl (fun c17 => ?_) fun c17 => ?_
 ·
  replace hm := ip hm c17
  refine o_z ?_
  refine ewp_true rfl (ewp_seq (ewp_region (o_miE rfl rfl ?_)))
  refine o_as rfl rfl (o_z ?_)
  refine ewp_ret ?_
  obtain ⟨O18, S19, hz21, ha22, h20⟩ := Que.shut (x := x0) (l0 := 2) (l1 := 3) (by decide) h7 h10 r14
  obtain rfl := sm hm
  replace hB := (hB.st S6).st S19
  obtain ⟨O', hS', hz, hl⟩ := hE.leave (fun q => if q = 2 then i0 else 0) rfl hB
  exact ret1v rfl (res_tmp rfl) ⟨O', hS', (Ob.leave h20 hz (hl 2 (by decide) (by decide)) hx0.2), (vErr (by decide))⟩
 ·
  replace hm := im hm c17
  refine o_z ?_
  refine ewp_false rfl (ewp_skip (ewp_seq (ewp_drawX [(13, []), (14, [3])] O5 ?_)))
  refine x_pre (fuel := 6) [] [(1, true), (2, true), (3, true), (4, true), (5, true), (6, true), (7, true), (8, true), (9, true), (10, true), (11, true), (12, true)] (by kernel_rfl) rfl ?_
  refine h_mv rfl rfl rfl (h_nc rfl rfl rfl (h_fa rfl rfl rfl (h_ldC (hc := fun w' ⟨O', hq⟩ => Blk.cell (i := 0) ((h7.st hq (by decide)).1) rfl) rfl rfl rfl ?_)))
  refine h_mv rfl rfl rfl (h_mv rfl rfl rfl (h_mv rfl rfl rfl (h_mv rfl rfl rfl (h_nc rfl rfl rfl (h_fa rfl rfl rfl (h_ldC (hc := fun w' ⟨O', hq⟩ => Blk.cell (i := 1) ((h7.st hq (by decide)).1) rfl) rfl rfl rfl ?_))))))
  refine h_bd rfl rfl rfl rfl ?_
  refine hwp_nilT ?_
  refine x_pre (fuel := 5) [3] [(0, true)] (by kernel_rfl) rfl ?_
  refine h_mv rfl rfl rfl (hwp_nilT ?_)
  refine x_one (i := 13) (by kernel_rfl) rfl ?_
  refine l_bslice 4 (by decide) O5 (xs := ([(⟨x1, x2, x3, x0.next⟩ : QEn)] : List QEn)) rfl rfl rfl rfl ⟨(Vb.ofAgg (cs := [(.int .i64 x1), (.int .i64 x2), (.int .i64 x3), (.int .i64 x0.next)]) (x := (⟨x1, x2, x3, x0.next⟩ : QEn)) rfl ⟨rfl, rx1, rx2, rx3, r14⟩), trivial⟩ (by decide) (by decide) rfl fun g23 w24 O25 S26 h27 => ?_
  have hZ := S26.lst [] (fun _ h => h.elim)
  refine x_go [(14, [3])] hZ (by kernel_rfl) ?_
  refine x_one (i := 14) (by kernel_rfl) rfl ?_
  obtain ⟨u29, e30, hm⟩ := bs hm
  obtain ⟨e30, e31, e32⟩ := appI_some e30
  replace h10 := h10.st S26
  refine l_append rfl h10 (h27.rd) rfl rfl (by decide) e31 e32 rfl fun A33 c34 w35 O36 S37 h38 => ?_
  rw [← e30] at h38 ⊢
  have hZ := S37.lst [3] (fun _ h => by cases h; decide)
  refine x_go [] hZ (by kernel_rfl) ?_
  refine x_pre (fuel := 1) [] [(15, true), (16, true)] (by kernel_rfl) rfl ?_
  refine h_nc rfl rfl rfl (h_fa rfl rfl rfl (hwp_nilT ?_))
  refine x_one (i := 17) (by kernel_rfl) rfl ?_
  replace h7 := (h7.st S26).st S37
  refine l_store h7 rfl rfl rfl (Nat.le_of_ble_eq_true rfl) (by first | exact allOne rfl | simp [Value.cells, Value.oneCell', errV_one]) fun w40 S41 h7 => ?_
  replace h7 : Lc 2 w40 O36 p0 109 [(.slice A33 u29.length c34), (.int .i64 x0.next)] := h7
  refine x_end (by kernel_rfl) ?_
  refine x_nil (by kernel_rfl) ?_
  refine ewp_seq (ewp_region (o_mv rfl rfl (o_nc rfl rfl (o_fa rfl rfl (o_ld (hc := Blk.cell (i := 1) (h7.1) rfl) rfl rfl ?_)))))
  obtain ⟨n42, e43, hm⟩ := bs hm
  have r44 := (chkI_rng e43)
  refine o_adE (he := e43) rfl rfl rfl ?_
  refine o_nc rfl rfl (o_fa rfl rfl (l_store h7 rfl rfl rfl (Nat.le_of_ble_eq_true rfl) (by first | exact allOne rfl | simp [Value.cells, Value.oneCell', errV_one]) fun w45 S46 h7 => ?_))
  replace h7 : Lc 2 w45 O36 p0 109 [(.slice A33 u29.length c34), (.int .i64 n42)] := h7
  refine o_z ?_
  refine ewp_seq (ewp_region (o_mv rfl rfl (o_mv rfl rfl (o_nc rfl rfl (o_fa rfl rfl (o_ld (hc := Blk.cell (i := 0) (h7.1) rfl) rfl rfl ?_))))))
  refine o_ln rfl rfl ?_
  replace h38 := (h38.st S41).st S46
  have l48 : u29.length ≤ 9223372036854775807 := Nat.le_trans h38.len.2.1 h38.len.2.2
  have r47 : inI64 (u29.length : Int) := rngNat l48
  obtain ⟨n49, e50, hm⟩ := bs hm
  have r51 := (chkI_rng e50)
  refine o_sbE (he := e50) rfl rfl rfl ?_
  obtain ⟨O52, S53, hz55, ha56, h54⟩ := Que.shut (x := (⟨u29, n42⟩ : Que)) (l0 := 2) (l1 := 3) (by decide) h7 h38 r44
  obtain ⟨q57, e58, hm⟩ := bs hm
  refine l_callM (O := O52) (c_pqueue_Queue_up h54 r51 e58) rfl rfl fun v63 w59 O60 S61 h64 => ?_
  refine o_z ?_
  refine ewp_seq (ewp_region (o_as rfl rfl (o_z ?_)))
  refine ewp_ret ?_
  obtain rfl := sm hm
  replace hB := ((((((hB.st S6).st S26).st S37).st S41).st S46).st S53).st S61
  obtain ⟨O', hS', hz, hl⟩ := hE.leave (fun q => if q = 2 then i0 else 0) rfl hB
  exact ret1v rfl (res_tmp rfl) ⟨O', hS', (Ob.leave h64 hz (hl 2 (by decide) (by decide)) hx0.2), (vErr (show inI64 0 from by decide))⟩
noncomputable def m_pqueue_Queue_Pop (x0 : Que) : Option (Int × Int × Int × Err × Que) :=
  bnd (m_pqueue_Queue_Peek x0) fun q2 => if q2.2.2.2.n ≠ 0 then (some (0, 0, 0, (⟨q2.2.2.2.n⟩ : Err), x0)) else (bnd (chkI ((x0.heap.length : Int) - 1)) fun n35 => bnd (atI x0.heap n35) fun a38 => bnd (atI x0.heap 0) fun a53 => bnd (cutI (x0.heap.set (0 : Int).toNat a38) 0 n35) fun u70 => bnd (m_pqueue_Queue_down (⟨u70, x0.next⟩ : Que) 0) fun q82 => some (q2.1, q2.2.1, q2.2.2.1, (⟨0⟩ : Err), q82))
theorem c_pqueue_Queue_Pop {w : World} {O : Lab} {p0 i0 : Nat} {x0 : Que} (hx0 : Ob i0 w O (.pointer (some ⟨p0, 0, none⟩)) x0) {r : Int × Int × Int × Err × Que} (hm : m_pqueue_Queue_Pop x0 = some r) :
    Fn Try.prog 62 [(.pointer (some ⟨p0, 0, none⟩))] w fun v w' => ∃ O', St (eT i0) w O w' O' ∧ ∃ v0 v1 v2 v3 : Value, Ob i0 w' O' (.pointer (some ⟨p0, 0, none⟩)) r.2.2.2.2 ∧ v = .tuple #[v0, v1, v2, v3] ∧ Vb w' (Fr 0 w' O') v0 r.1 ∧ Vb w' (Fr 0 w' O') v1 r.2.1 ∧ Vb w' (Fr 0 w' O') v2 r.2.2.1 ∧ Vb w' (Fr 0 w' O') v3 r.2.2.2.1 := by
 obtain ⟨O0, hE, hz0, hl2⟩ := ent1 (w := w) (O := O) hx0.2
 have hx0' := Ob.leave hx0 hz0 hl2 (j := 2) (by decide)
 have hB : Bm w O0 w O0 := Bm.refl
 refine fn_enter Try.func62 rfl Try.ntmps62 rfl ?_
 unfold m_pqueue_Queue_Pop at hm
 refine ewp_seq (ewp_region (o_as rfl rfl (o_as rfl rfl (o_as rfl rfl (o_as rfl rfl (o_z ?_))))))
 refine ewp_seq (ewp_region (o_mv rfl rfl ?_))
 obtain ⟨q2, e3, hm⟩ := bs hm
 refine l_callM (O := O0) (c_pqueue_Queue_Peek hx0' e3) rfl rfl fun v8 w4 O5 S6 h7 => ?_
 obtain ⟨v10, v11, v12, v13, h9, rfl, h14, h15, h16, h17⟩ := h7
 obtain ⟨rfl, r18⟩ := h14.int
 obtain ⟨rfl, r19⟩ := h15.int
 obtain ⟨rfl, r20⟩ := h16.int
 obtain ⟨rfl, r21⟩ := h17.err
 refine o_mv rfl rfl (o_ex rfl rfl rfl (o_ex rfl rfl rfl (o_ex rfl rfl rfl (o_ex rfl rfl rfl (o_as rfl rfl (o_as rfl rfl (o_as rfl rfl (o_as rfl rfl (o_z ?_)))))))))
 refine ewp_seq (ewp_seq (ewp_region (o_mv rfl rfl (o_rnS rfl rfl (fun c22 => ?_) fun c22 => ?_))))
 ·
  replace hm := ip hm c22
  refine o_z ?_
  refine ewp_true rfl (ewp_seq (ewp_region (o_mv rfl rfl (o_as rfl rfl (o_as rfl rfl (o_as rfl rfl (o_as rfl rfl (o_z ?_))))))))
  refine ewp_ret ?_
  obtain rfl := sm hm
  replace hB := hB.st S6
  obtain ⟨O', hS', hz, hl⟩ := hE.leave (fun q => if q = 2 then i0 else 0) rfl hB
  exact ret4 rfl (res_tmp rfl) (res_tmp rfl) (res_tmp rfl) (res_tmp rfl) ⟨O', hS', _, _, _, _, (Ob.leave h9 hz (hl 2 (by decide) (by decide)) hx0.2), rfl, (vInt (show inI64 (0) from by decide)), (vInt (show inI64 (0) from by decide)), (vInt (show inI64 (0) from by decide)), (vErr r21)⟩
 ·
  replace hm := im hm c22
  refine o_z ?_
  refine ewp_false rfl (ewp_skip (ewp_seq (ewp_region (o_mv rfl rfl (o_nc rfl rfl ?_)))))
  obtain ⟨O23, v27, S24, ha26, h25, h28, r32⟩ := Que.opn h9 2 3 (by decide)
  obtain ⟨A29, c30, rfl⟩ := h28.form
  refine o_fa rfl rfl (o_ld (hc := Blk.cell (i := 0) (h25.1) rfl) rfl rfl ?_)
  refine o_ln rfl rfl ?_
  have l34 : x0.heap.length ≤ 9223372036854775807 := Nat.le_trans h28.len.2.1 h28.len.2.2
  have r33 : inI64 (x0.heap.length : Int) := rngNat l34
  obtain ⟨n35, e36, hm⟩ := bs hm
  have r37 := (chkI_rng e36)
  refine o_sbE (he := e36) rfl rfl rfl ?_
  refine o_as rfl rfl (o_z ?_)
  refine ewp_seq (ewp_drawX [] O23 ?_)
  refine x_pre (fuel := 1) [] [(0, true), (1, true), (2, true), (3, true), (4, true), (5, true), (6, true), (7, true), (8, true), (9, true), (10, true), (11, true)] (by kernel_rfl) rfl ?_
  refine h_mv rfl rfl rfl (h_nc rfl rfl rfl (h_fa rfl rfl rfl (h_ldC (hc := fun w' ⟨O', hq⟩ => Blk.cell (i := 0) ((h25.st hq (by decide)).1) rfl) rfl rfl rfl ?_)))
  refine h_mv rfl rfl rfl (h_nc rfl rfl rfl (h_fa rfl rfl rfl (h_ldC (hc := fun w' ⟨O', hq⟩ => Blk.cell (i := 0) ((h25.st hq (by decide)).1) rfl) rfl rfl rfl ?_)))
  refine h_mv rfl rfl rfl ?_
  obtain ⟨a38, e39, hm⟩ := bs hm
  obtain ⟨p41, x40⟩ := atI_some' e39
  obtain ⟨b42, o43, ce44, hA45, hF48, hl46, hd47, rfl, r49, r50, r51, r52⟩ := h28.elemF x40
  refine h_iaE (hA := hA45) (hj := (Int.toNat_of_nonneg p41).symm) (hlt := hl46) rfl rfl rfl rfl ?_
  refine h_laB (hl := rfl) (hb := fun w' ⟨O', hq⟩ => (cellsAt_agree (hq.agree (i := 3) (by decide)) hF48 hd47)) rfl rfl rfl ?_
  obtain ⟨a53, e54, hm⟩ := bs hm
  obtain ⟨p56, x55⟩ := atI_some' e54
  obtain ⟨b57, o58, ce59, hA60, hF63, hl61, hd62, rfl, r64, r65, r66, r67⟩ := h28.elemF x55
  refine h_iaE (hA := hA60) (hj := (Int.toNat_of_nonneg p56).symm) (hlt := hl61) rfl rfl rfl rfl ?_
  refine hwp_nilT ?_
  refine x_one (i := 12) (by kernel_rfl) rfl ?_
  refine l_setE rfl h28 (a := a38) (Vb.ofAgg (cs := [(.int .i64 a38.key), (.int .i64 a38.tie), (.int .i64 a38.item), (.int .i64 a38.number)]) (x := a38) rfl ⟨rfl, r49, r50, r51, r52⟩) hA60 rfl rfl (lt_of_get x55) fun w68 S69 h28 => ?_
  refine x_end (by kernel_rfl) ?_
  refine x_nil (by kernel_rfl) ?_
  refine ewp_seq (ewp_region (o_mv rfl rfl (o_mv rfl rfl (o_nc rfl rfl (o_fa rfl rfl ?_)))))
  replace h25 := h25.st S69
  refine o_ld (hc := Blk.cell (i := 0) (h25.1) rfl) rfl rfl ?_
  refine o_mv rfl rfl ?_
  obtain ⟨u70, e71, hm⟩ := bs hm
  obtain ⟨h72, e73⟩ := cutRw h28 e71
  refine o_cutH (hc := e73) rfl rfl rfl ?_
  refine o_nc rfl rfl (o_fa rfl rfl (l_store h25 rfl rfl rfl (Nat.le_of_ble_eq_true rfl) (by first | exact allOne rfl | simp [Value.cells, Value.oneCell', errV_one]) fun w75 S76 h25 => ?_))
  replace h25 : Lc 2 w75 O23 p0 109 [(.slice A29 u70.length c30), (.int .i64 x0.next)] := h25
  refine o_z ?_
  refine ewp_seq (ewp_region (o_mv rfl rfl ?_))
  replace h72 := h72.st S76
  obtain ⟨O77, S78, hz80, ha81, h79⟩ := Que.shut (x := (⟨u70, x0.next⟩ : Que)) (l0 := 2) (l1 := 3) (by decide) h25 h72 r32
  obtain ⟨q82, e83, hm⟩ := bs hm
  refine l_callM (O := O77) (c_pqueue_Queue_down h79 (show inI64 (0) from by decide) e83) rfl rfl fun v88 w84 O85 S86 h89 => ?_
  refine o_z ?_
  refine ewp_seq (ewp_region (o_mv rfl rfl (o_mv rfl rfl (o_mv rfl rfl (o_as rfl rfl (o_as rfl rfl (o_as rfl rfl (o_as rfl rfl (o_z ?_)))))))))
  refine ewp_ret ?_
  obtain rfl := sm hm
  replace hB := (((((hB.st S6).st S24).st S69).st S76).st S78).st S86
  obtain ⟨O', hS', hz, hl⟩ := hE.leave (fun q => if q = 2 then i0 else 0) rfl hB
  exact ret4 rfl (res_tmp rfl) (res_tmp rfl) (res_tmp rfl) (res_tmp rfl) ⟨O', hS', _, _, _, _, (Ob.leave h89 hz (hl 2 (by decide) (by decide)) hx0.2), rfl, (vInt r18), (vInt r19), (vInt r20), (vErr (show inI64 0 from by decide))⟩
end
section
open Go Go.RowKit
attribute [local irreducible] ewp owp hwp hwq Ev Evg Fn retPost Res1
attribute [local irreducible] hwx loudX
noncomputable def m_task_apply (x0 : Tsk) (x1 : List Int) (x2 : Int) : Option ((List Int) × Err) :=
  bnd (if x2 < 0 then (some true) else (if (x0.ops.length : Int) ≤ x2 then (some true) else (some false)) : Option Bool) fun y28 => if y28 = true then (some (([] : List Int), (⟨1⟩ : Err))) else (bnd (m_task_Proper x0.vars x1) fun q41 => if q41 = true then bnd (atI x0.ops x2) fun a48 => bnd (m_task_Holds a48.pre x1) fun q69 => if q69 = true then bnd (m_slices_Clone_Lint_int x1) fun q76 => bnd (atI x0.ops x2) fun a86 => bnd (rng (ρ := (List Int) × Err) (fun (k113 : Nat) (a114 : Eff) (s111 : (List Int)) => bnd (m_task_Holds a114.cond x1) fun q148 => if q148 = true then bnd (atI s111 a114.var) fun a155 => some (.next (s111.set (a114.var : Int).toNat a114.val)) else some (.next s111)) a86.effs 0 q76) fun res109 => fin res109 fun (s173 : (List Int)) => some (s173, (⟨0⟩ : Err)) else some (([] : List Int), (⟨12⟩ : Err)) else some (([] : List Int), (⟨2⟩ : Err)))
theorem c_task_apply {w : World} {A : Nat → Prop} (hA : ∀ k, A k → k < w.heap.size) {vx0 : Value} {x0 : Tsk} (hx0 : Vb w A vx0 x0) {vx1 : Value} {x1 : List Int} (hx1 : Vb w A vx1 x1) {x2 : Int} (rx2 : inI64 x2) {r : (List Int) × Err} (hm : m_task_apply x0 x1 x2 = some r) :
    Fn Try.prog 103 [vx0, vx1, (.int .i64 x2)] w fun v w' => Ext w w' ∧ T2 w' (upA A w w') v r := by
 obtain ⟨O, hB, hA0⟩ := enter hA
 replace hx0 := hx0.mono hA0
 obtain ⟨cs4, rfl, v5, v6, v7, v8, rfl, h9, h12, h15, h18⟩ := hx0
 obtain ⟨A10, c11, rfl⟩ := h9.form
 obtain ⟨A13, c14, rfl⟩ := h12.form
 obtain ⟨A16, c17, rfl⟩ := h15.form
 obtain ⟨A19, c20, rfl⟩ := h18.form
 replace hx1 := hx1.mono hA0
 obtain ⟨A21, c22, rfl⟩ := hx1.form
 refine fn_enter Try.func103 rfl Try.ntmps103 rfl ?_
 unfold m_task_apply at hm
 refine ewp_seq (ewp_region (l_box 2 O rfl rfl fun g23 w24 O25 S26 h27 => ?_))
 replace h27 : Lc 2 w24 O25 g23 26 [(.slice A10 x0.vars.length c11), (.slice A13 x0.init.length c14), (.slice A16 x0.goal.length c17), (.slice A19 x0.ops.length c20)] := h27
 refine o_as rfl rfl (o_as rfl rfl (o_z ?_))
 refine ewp_seq (ewp_block (ewp_seq ?_))
 obtain ⟨y28, hy29, hm⟩ := bs hm
 refine ewp_join (fun l' w' => ∃ (x31 : Unit) (O' : Lab), subs l' [(1, (.slice A21 x1.length c22)), (2, (.int .i64 x2)), (3, (.pointer (some ⟨g23, 0, none⟩))), (11, (.bool y28))] ∧ Bs w A w' O' ∧ Vb w' (Fr 0 w' O') (.slice A21 x1.length c22) x1 ∧ Lc 2 w' O' g23 26 [(.slice A10 x0.vars.length c11), (.slice A13 x0.init.length c14), (.slice A16 x0.goal.length c17), (.slice A19 x0.ops.length c20)] ∧ Vb w' (Fr 0 w' O') (.slice A10 x0.vars.length c11) x0.vars ∧ Vb w' (Fr 0 w' O') (.slice A13 x0.init.length c14) x0.init ∧ Vb w' (Fr 0 w' O') (.slice A16 x0.goal.length c17) x0.goal ∧ Vb w' (Fr 0 w' O') (.slice A19 x0.ops.length c20) x0.ops) ?_ ?_
 ·
  refine ewp_region (o_mv rfl rfl (o_ltS rfl rfl rfl (fun c32 => ?_) fun c32 => ?_))
  ·
   replace hy29 := ip hy29 c32
   refine o_mv rfl rfl (owp_no rfl rfl rfl rfl (owp_no rfl rfl rfl rfl (owp_no rfl rfl rfl rfl (owp_no rfl rfl rfl rfl (owp_no rfl rfl rfl rfl (o_pt rfl rfl rfl (o_as rfl rfl (o_z ?_))))))))
   obtain rfl := sm hy29
   replace hB := hB.st S26
   replace hx1 := hx1.st S26
   replace h9 := h9.st S26
   replace h12 := h12.st S26
   replace h15 := h15.st S26
   replace h18 := h18.st S26
   exact ⟨(), _, ⟨rfl, rfl, rfl, rfl, trivial⟩, hB, hx1, h27, h9, h12, h15, h18⟩
  ·
   replace hy29 := im hy29 c32
   refine o_mv rfl rfl (owp_yes rfl rfl (o_mv rfl rfl (owp_yes rfl rfl (o_fa rfl rfl (owp_yes rfl rfl (o_ld (hc := Blk.cell (i := 3) (h27.1) rfl) rfl rfl ?_))))))
   refine owp_yes rfl rfl (o_ln rfl rfl ?_)
   replace h18 := h18.st S26
   have l34 : x0.ops.length ≤ 9223372036854775807 := Nat.le_trans h18.len.2.1 h18.len.2.2
   have r33 : inI64 (x0.ops.length : Int) := rngNat l34
   refine owp_yes rfl rfl (o_geS rfl rfl rfl (fun c35 => ?_) fun c35 => ?_)
   ·
    replace hy29 := ip hy29 c35
    refine o_pf rfl rfl rfl (o_as rfl rfl (o_z ?_))
    obtain rfl := sm hy29
    replace hB := hB.st S26
    replace hx1 := hx1.st S26
    replace h9 := h9.st S26
    replace h12 := h12.st S26
    replace h15 := h15.st S26
    exact ⟨(), _, ⟨rfl, rfl, rfl, rfl, trivial⟩, hB, hx1, h27, h9, h12, h15, h18⟩
   ·
    replace hy29 := im hy29 c35
    refine o_pf rfl rfl rfl (o_as rfl rfl (o_z ?_))
    obtain rfl := sm hy29
    replace hB := hB.st S26
    replace hx1 := hx1.st S26
    replace h9 := h9.st S26
    replace h12 := h12.st S26
    replace h15 := h15.st S26
    exact ⟨(), _, ⟨rfl, rfl, rfl, rfl, trivial⟩, hB, hx1, h27, h9, h12, h15, h18⟩
 replace hB := hB.st S26
 replace hx1 := hx1.st S26
 replace h9 := h9.st S26
 replace h12 := h12.st S26
 replace h15 := h15.st S26
 replace h18 := h18.st S26
 rintro l36 w37 ⟨x31, O38, hs39, hB, hx1, h27, h9, h12, h15, h18⟩
 refine ewp_sub _ hs39 ?_
 refine ewp_cond rfl (fun c40 => ?_) (fun c40 => ?_)
 ·
  replace hm := ip hm c40
  refine ewp_seq (ewp_region (o_miE rfl rfl ?_))
  refine o_as rfl rfl (o_as rfl rfl (o_z ?_))
  refine ewp_ret ?_
  obtain rfl := sm hm
  exact ret2 rfl (res_tmp rfl) (res_tmp rfl) ⟨hB.ext, _, _, rfl, (Vb.mono (F := Fr 0 w37 O38) (Vb.nil _ _) hB.out), (vErr (by decide))⟩
 ·
  replace hm := im' hm c40
  refine ewp_seq (ewp_region (o_fa rfl rfl (o_ld (hc := Blk.cell (i := 0) (h27.1) rfl) rfl rfl ?_)))
  refine o_mv rfl rfl ?_
  obtain ⟨q41, e42, hm⟩ := bs hm
  refine l_callA (O := O38) (A := All w37) (R := fun w' F v => Vb w' F v q41) (c_task_Proper (fun _ h => h) (Vb.mono (F := Fr 0 w37 O38) h9 Fr.lt) (Vb.mono (F := Fr 0 w37 O38) hx1 Fr.lt) e42) rfl rfl fun v47 w43 O44 S45 h46 => ?_
  obtain rfl := h46.bool
  cases q41
  case false =>
   replace hm := iF hm
   refine o_nf rfl rfl (o_as rfl rfl (o_z ?_))
   refine ewp_true rfl (ewp_seq (ewp_region (o_miE rfl rfl ?_)))
   refine o_as rfl rfl (o_as rfl rfl (o_z ?_))
   refine ewp_ret ?_
   obtain rfl := sm hm
   replace hB := hB.st S45
   exact ret2 rfl (res_tmp rfl) (res_tmp rfl) ⟨hB.ext, _, _, rfl, (Vb.mono (F := Fr 0 w43 O44) (Vb.nil _ _) hB.out), (vErr (by decide))⟩
  replace hm := iT hm
  refine o_nt rfl rfl (o_as rfl rfl (o_z ?_))
  refine ewp_false rfl (ewp_seq (ewp_region (o_fa rfl rfl ?_)))
  replace h27 := h27.st S45
  refine o_ld (hc := Blk.cell (i := 3) (h27.1) rfl) rfl rfl ?_
  refine o_mv rfl rfl ?_
  obtain ⟨a48, e49, hm⟩ := bs hm
  obtain ⟨p51, x50⟩ := atI_some' e49
  replace h18 := h18.st S45
  obtain ⟨b52, o53, ce54, hA55, hl56, hd57, v59, v60, rfl, h61, h64, r67, z68⟩ := h18.elem' x50
  obtain ⟨A62, c63, rfl⟩ := h61.form
  obtain ⟨A65, c66, rfl⟩ := h64.form
  refine o_iaE (hA := hA55) (hj := (Int.toNat_of_nonneg p51).symm) (hlt := hl56) rfl rfl rfl ?_
  refine o_fa rfl rfl (o_ld (hc := cat2 hd57) rfl rfl ?_)
  refine o_mv rfl rfl ?_
  obtain ⟨q69, e70, hm⟩ := bs hm
  replace hx1 := hx1.st S45
  refine l_callA (O := O44) (A := All w43) (R := fun w' F v => Vb w' F v q69) (c_task_Holds (fun _ h => h) (Vb.mono (F := Fr 0 w43 O44) h61 Fr.lt) (Vb.mono (F := Fr 0 w43 O44) hx1 Fr.lt) e70) rfl rfl fun v75 w71 O72 S73 h74 => ?_
  obtain rfl := h74.bool
  cases q69
  case false =>
   replace hm := iF hm
   refine o_nf rfl rfl (o_as rfl rfl (o_z ?_))
   refine ewp_true rfl (ewp_seq (ewp_region (o_miE rfl rfl ?_)))
   refine o_as rfl rfl (o_as rfl rfl (o_z ?_))
   refine ewp_ret ?_
   obtain rfl := sm hm
   replace hB := (hB.st S45).st S73
   exact ret2 rfl (res_tmp rfl) (res_tmp rfl) ⟨hB.ext, _, _, rfl, (Vb.mono (F := Fr 0 w71 O72) (Vb.nil _ _) hB.out), (vErr (by decide))⟩
  replace hm := iT hm
  refine o_nt rfl rfl (o_as rfl rfl (o_z ?_))
  refine ewp_false rfl (ewp_skip (ewp_seq (ewp_region (o_mv rfl rfl ?_))))
  obtain ⟨q76, e77, hm⟩ := bs hm
  replace hx1 := hx1.st S73
  refine l_callRow 3 (by decide) (O := O72) (c_slices_Clone_Lint_int Fr.lt hx1 e77) rfl rfl fun A83 c84 w78 O79 S80 h81 => ?_
  refine o_as rfl rfl (o_z ?_)
  refine ewp_seq (ewp_seq (ewp_region (o_fa rfl rfl ?_)))
  replace h27 := (h27.st S73).st S80
  refine o_ld (hc := Blk.cell (i := 3) (h27.1) rfl) rfl rfl ?_
  refine o_mv rfl rfl ?_
  obtain ⟨a86, e87, hm⟩ := bs hm
  obtain ⟨p89, x88⟩ := atI_some' e87
  replace h18 := (h18.st S73).st S80
  obtain ⟨b90, o91, ce92, hA93, hl94, hd95, v97, v98, rfl, h99, h102, r105, z106⟩ := h18.elem' x88
  obtain ⟨A100, c101, rfl⟩ := h99.form
  obtain ⟨A103, c104, rfl⟩ := h102.form
  refine o_iaE (hA := hA93) (hj := (Int.toNat_of_nonneg p89).symm) (hlt := hl94) rfl rfl rfl ?_
  refine o_fa rfl rfl (o_ld (hc := cat3 hd95) rfl rfl ?_)
  refine o_ln rfl rfl ?_
  have l108 : a86.effs.length ≤ 9223372036854775807 := Nat.le_trans h102.len.2.1 h102.len.2.2
  have r107 : inI64 (a86.effs.length : Int) := rngNat l108
  refine o_mv rfl rfl (o_z ?_)
  obtain ⟨res109, hL110, hm⟩ := bs hm
  refine ewp_join (aft res109 (fun (s111 : (List Int)) (x112 : Unit) => [(8, (.slice A83 q76.length c84))]) (fun s111 x112 w' => ∃ O' : Lab, Bs w A w' O' ∧ Rw 3 w' O' 3 (.slice A83 q76.length c84) s111)) ?_ ?_
  ·
   refine ewp_block ?_
   replace hB := ((hB.st S45).st S73).st S80
   replace hx1 := hx1.st S80
   refine ewp_rng (σ := (List Int)) (X := Unit) (a86.effs.length) hL110 rfl l108 (fun (s111 : (List Int)) (x112 : Unit) => [(1, (.slice A21 x1.length c22)), (8, (.slice A83 q76.length c84)), (47, (.slice A103 a86.effs.length c104))]) _ (fun s111 x112 w' => ∃ O' : Lab, Bs w A w' O' ∧ Vb w' (Fr 0 w' O') (.slice A21 x1.length c22) x1 ∧ Rw 3 w' O' 3 (.slice A83 q76.length c84) s111 ∧ Vb w' (Fr 0 w' O') (.slice A103 a86.effs.length c104) a86.effs) _ () ⟨O79, hB, hx1, h81, h102⟩ ⟨rfl, rfl, rfl, rfl, rfl, trivial⟩ (fun _ _ => ⟨rfl, rfl⟩) (fun _ _ => ⟨rfl, trivial⟩) (fun _ _ _ ⟨O', hB, hx1, h126, h102⟩ => ⟨O', hB, h126⟩) ⟨rfl, rfl, rfl⟩ ⟨rfl, rfl⟩ ?_
   rintro k113 a114 s111 x112 w115 cc117 hx118 ⟨O116, hB, hx1, h126, h102⟩ hf119 hret120 hbrk121
   have rk113 : inI64 (k113 : Int) := rngK hx118 l108
   refine ewp_seq (ewp_region ?_)
   obtain ⟨b128, o129, ce130, hA131, hl132, hd133, v135, rfl, h136, r139, r140⟩ := h102.elem' hx118
   obtain ⟨A137, c138, rfl⟩ := h136.form
   refine o_iaE (hA := hA131) (hj := rfl) (hlt := hl132) rfl rfl rfl ?_
   refine o_la (hl := rfl) (hc := hd133) rfl rfl ?_
   refine l_alloc 4 O116 rfl fun g141 w142 O143 S144 h145 => ?_
   refine l_store h145 rfl rfl rfl (Nat.le_of_ble_eq_true rfl) (by first | exact allOne rfl | simp [Value.cells, Value.oneCell', errV_one]) fun w146 S147 h145 => ?_
   replace h145 : Lc 4 w146 O143 g141 77 [(.slice A137 a114.cond.length c138), (.int .i64 a114.var), (.int .i64 a114.val)] := h145
   refine o_z ?_
   refine ewp_seq (ewp_region (o_fa rfl rfl (o_ld (hc := Blk.cell (i := 0) (h145.1) rfl) rfl rfl ?_)))
   refine o_mv rfl rfl ?_
   obtain ⟨q148, e149, hf119⟩ := bs hf119
   replace hx1 := (hx1.st S144).st S147
   replace h136 := (h136.st S144).st S147
   refine l_callA (O := O143) (A := All w146) (R := fun w' F v => Vb w' F v q148) (c_task_Holds (fun _ h => h) (Vb.mono (F := Fr 0 w146 O143) h136 Fr.lt) (Vb.mono (F := Fr 0 w146 O143) hx1 Fr.lt) e149) rfl rfl fun v154 w150 O151 S152 h153 => ?_
   obtain rfl := h153.bool
   cases q148
   case false =>
    replace hf119 := iF hf119
    refine o_z ?_
    refine ewp_false rfl (ewp_skip ?_)
    obtain rfl := sm hf119
    refine (?_ : Exists _)
    replace hB := ((hB.st S144).st S147).st S152
    replace hx1 := hx1.st S152
    replace h102 := ((h102.st S144).st S147).st S152
    replace h126 := ((h126.st S144).st S147).st S152
    exact ⟨_, (), rfl, ⟨rfl, rfl, rfl, rfl, rfl, trivial⟩, _, hB, hx1, h126, h102⟩
   replace hf119 := iT hf119
   refine o_z ?_
   refine ewp_true rfl (ewp_region (o_mv rfl rfl (o_fa rfl rfl ?_)))
   replace h145 := h145.st S152
   refine o_ld (hc := Blk.cell (i := 1) (h145.1) rfl) rfl rfl ?_
   refine o_fa rfl rfl (o_ld (hc := Blk.cell (i := 2) (h145.1) rfl) rfl rfl ?_)
   obtain ⟨a155, e156, hf119⟩ := bs hf119
   obtain ⟨p158, x157⟩ := atI_some' e156
   replace h126 := ((h126.st S144).st S147).st S152
   obtain ⟨b159, o160, ce161, hA162, hl163, hd164, rfl, r166⟩ := h126.elem x157
   refine o_iaE (hA := hA162) (hj := (Int.toNat_of_nonneg p158).symm) (hlt := hl163) rfl rfl rfl ?_
   refine l_setE rfl h126 (a := a114.val) (vInt r140) hA162 rfl rfl (lt_of_get x157) fun w167 S168 h126 => ?_
   refine o_z ?_
   obtain rfl := sm hf119
   refine (?_ : Exists _)
   replace hB := (((hB.st S144).st S147).st S152).st S168
   replace hx1 := (hx1.st S152).st S168
   replace h102 := (((h102.st S144).st S147).st S152).st S168
   exact ⟨_, (), rfl, ⟨rfl, rfl, rfl, rfl, rfl, trivial⟩, _, hB, hx1, h126, h102⟩
  replace hB := ((hB.st S45).st S73).st S80
  rintro l169 w170 ⟨s173, x174, rfl, hs172, O171, hB, h126⟩
  replace hm := fin_done hm
  refine ewp_sub _ hs172 ?_
  refine ewp_seq (ewp_region (o_mv rfl rfl (o_as rfl rfl (o_as rfl rfl (o_z ?_)))))
  refine ewp_ret ?_
  obtain ⟨O175, S176, h126⟩ := h126.freeze
  obtain rfl := sm hm
  replace hB := hB.st S176
  exact ret2 rfl (res_tmp rfl) (res_tmp rfl) ⟨hB.ext, _, _, rfl, (Vb.mono (F := Fr 0 w170 O175) h126 hB.out), (vErr (show inI64 0 from by decide))⟩
noncomputable def m_task_Apply (x0 : Tsk) (x1 : List Int) (x2 : Int) : Option ((List Int) × Err) :=
  bnd (m_task_Check x0) fun q28 => if q28.n ≠ 0 then (some (([] : List Int), (⟨q28.n⟩ : Err))) else (bnd (m_task_apply x0 x1 x2) fun q37 => some (q37.1, (⟨q37.2.n⟩ : Err)))
theorem c_task_Apply {w : World} {A : Nat → Prop} (hA : ∀ k, A k → k < w.heap.size) {vx0 : Value} {x0 : Tsk} (hx0 : Vb w A vx0 x0) {vx1 : Value} {x1 : List Int} (hx1 : Vb w A vx1 x1) {x2 : Int} (rx2 : inI64 x2) {r : (List Int) × Err} (hm : m_task_Apply x0 x1 x2 = some r) :
    Fn Try.prog 81 [vx0, vx1, (.int .i64 x2)] w fun v w' => Ext w w' ∧ T2 w' (upA A w w') v r := by
 obtain ⟨O, hB, hA0⟩ := enter hA
 replace hx0 := hx0.mono hA0
 obtain ⟨cs4, rfl, v5, v6, v7, v8, rfl, h9, h12, h15, h18⟩ := hx0
 obtain ⟨A10, c11, rfl⟩ := h9.form
 obtain ⟨A13, c14, rfl⟩ := h12.form
 obtain ⟨A16, c17, rfl⟩ := h15.form
 obtain ⟨A19, c20, rfl⟩ := h18.form
 replace hx1 := hx1.mono hA0
 obtain ⟨A21, c22, rfl⟩ := hx1.form
 refine fn_enter Try.func81 rfl Try.ntmps81 rfl ?_
 unfold m_task_Apply at hm
 refine ewp_seq (ewp_region (l_box 2 O rfl rfl fun g23 w24 O25 S26 h27 => ?_))
 replace h27 : Lc 2 w24 O25 g23 26 [(.slice A10 x0.vars.length c11), (.slice A13 x0.init.length c14), (.slice A16 x0.goal.length c17), (.slice A19 x0.ops.length c20)] := h27
 refine o_as rfl rfl (o_as rfl rfl (o_z ?_))
 refine ewp_seq (ewp_seq (ewp_region (o_la (hl := rfl) (hc := (h27.1).cellsAt) rfl rfl ?_)))
 obtain ⟨q28, e29, hm⟩ := bs hm
 replace h9 := h9.st S26
 replace h12 := h12.st S26
 replace h15 := h15.st S26
 replace h18 := h18.st S26
 refine l_callA (O := O25) (A := All w24) (R := fun w' F v => Vb w' F v q28) (c_task_Check (fun _ h => h) (Vb.mono (F := Fr 0 w24 O25) (Vb.ofAgg (cs := [(.slice A10 x0.vars.length c11), (.slice A13 x0.init.length c14), (.slice A16 x0.goal.length c17), (.slice A19 x0.ops.length c20)]) (x := x0) rfl ⟨_, _, _, _, rfl, h9, h12, h15, h18⟩) Fr.lt) e29) rfl rfl fun v34 w30 O31 S32 h33 => ?_
 obtain ⟨rfl, r35⟩ := h33.err
 refine o_as rfl rfl (o_z ?_)
 refine ewp_seq (ewp_region (o_mv rfl rfl (o_rnS rfl rfl (fun c36 => ?_) fun c36 => ?_)))
 ·
  replace hm := ip hm c36
  refine o_z ?_
  refine ewp_true rfl (ewp_seq (ewp_region (o_mv rfl rfl (o_as rfl rfl (o_as rfl rfl (o_z ?_))))))
  refine ewp_ret ?_
  obtain rfl := sm hm
  replace hB := (hB.st S26).st S32
  exact ret2 rfl (res_tmp rfl) (res_tmp rfl) ⟨hB.ext, _, _, rfl, (Vb.mono (F := Fr 0 w30 O31) (Vb.nil _ _) hB.out), (vErr r35)⟩
 ·
  replace hm := im hm c36
  refine o_z ?_
  refine ewp_false rfl (ewp_skip (ewp_seq (ewp_region ?_)))
  replace h27 := h27.st S32
  refine o_la (hl := rfl) (hc := (h27.1).cellsAt) rfl rfl ?_
  refine o_mv rfl rfl (o_mv rfl rfl ?_)
  obtain ⟨q37, e38, hm⟩ := bs hm
  replace hx1 := (hx1.st S26).st S32
  replace h9 := h9.st S32
  replace h12 := h12.st S32
  replace h15 := h15.st S32
  replace h18 := h18.st S32
  refine l_call (O := O31) (R := fun w' F v => T2 w' F v q37) (c_task_apply Fr.lt (Vb.ofAgg (cs := [(.slice A10 x0.vars.length c11), (.slice A13 x0.init.length c14), (.slice A16 x0.goal.length c17), (.slice A19 x0.ops.length c20)]) (x := x0) rfl ⟨_, _, _, _, rfl, h9, h12, h15, h18⟩) hx1 rx2 e38) rfl rfl fun v43 w39 O40 S41 h42 => ?_
  obtain ⟨v44, v45, rfl, h46, h47⟩ := h42
  obtain ⟨A48, c49, rfl⟩ := h46.form
  obtain ⟨rfl, r50⟩ := h47.err
  refine o_ex rfl rfl rfl (o_ex rfl rfl rfl (o_as rfl rfl (o_as rfl rfl (o_z ?_))))
  refine ewp_ret ?_
  obtain rfl := sm hm
  replace hB := ((hB.st S26).st S32).st S41
  exact ret2 rfl (res_tmp rfl) (res_tmp rfl) ⟨hB.ext, _, _, rfl, (Vb.mono (F := Fr 0 w39 O40) h46 hB.out), (vErr r50)⟩
structure Rsl where
  verdict : Int
  plan : List Int
  cost : Int
  expanded : Int
instance : Rp Rsl where
  isAgg := true
  size := 4
  R w F cs x := ∃ v0, cs = [.int .i64 x.verdict, v0, .int .i64 x.cost, .int .i64 x.expanded] ∧ Vb w F v0 x.plan ∧ inI64 x.verdict ∧ inI64 x.cost ∧ inI64 x.expanded
  len := by rintro w F cs x ⟨v0, rfl, h0, h1, h2, h3⟩; rfl
  one := by rintro w F cs x ⟨v0, rfl, h0, h1, h2, h3⟩ u hu; simp at hu; rcases hu with rfl | rfl | rfl | rfl <;> first | rfl | exact Vb.one rfl (by assumption)
  agree := by rintro w w' F cs x ⟨v0, rfl, h0, h1, h2, h3⟩ ha; exact ⟨v0, rfl, h0.agree ha, h1, h2, h3⟩
  mono := by rintro w F G cs x ⟨v0, rfl, h0, h1, h2, h3⟩ ha; exact ⟨v0, rfl, h0.mono ha, h1, h2, h3⟩
structure Sch where
  t : Tsk
  states : Reg
  que : Que
  costs : List Int
  fin : List Bool
  exp : Int
instance : Ow Sch where
  R w F M v x := ∃ (g : Nat) (L : Lab) (c0 c1 c2 c3 c4 c5 c6 c7 : Value), v = .pointer (some ⟨g, 0, none⟩) ∧ Blk w g 85 [c0, c1, c2, c3, c4, c5, c6, c7, .int .i64 x.exp] ∧ M g ∧ L g = 0 ∧ Vb w F c0 x.t.vars ∧ Vb w F c1 x.t.init ∧ Vb w F c2 x.t.goal ∧ Vb w F c3 x.t.ops ∧ Ow.R w F (fun k => M k ∧ L k = 1) c4 x.states ∧ Ow.R w F (fun k => M k ∧ L k = 2) c5 x.que ∧ RwM w F (fun k => M k ∧ L k = 3) 3 c6 x.costs ∧ RwM w F (fun k => M k ∧ L k = 4) 4 c7 x.fin ∧ inI64 x.exp
  agree := by rintro w w' F M v x ⟨g, L, c0, c1, c2, c3, c4, c5, c6, c7, rfl, hb, hM, hL, h0, h1, h2, h3, h4, h5, h6, h7, h8⟩ a1 a2; exact ⟨g, L, c0, c1, c2, c3, c4, c5, c6, c7, rfl, hb.keep (a2 g hM), hM, hL, h0.agree a1, h1.agree a1, h2.agree a1, h3.agree a1, Ow.agree h4 a1 fun k hk => a2 k hk.1, Ow.agree h5 a1 fun k hk => a2 k hk.1, h6.agree a1 fun k hk => a2 k hk.1, h7.agree a1 fun k hk => a2 k hk.1, h8⟩
  mono := by rintro w F M F' M' v x ⟨g, L, c0, c1, c2, c3, c4, c5, c6, c7, rfl, hb, hM, hL, h0, h1, h2, h3, h4, h5, h6, h7, h8⟩ a1 a2 a3; exact ⟨g, L, c0, c1, c2, c3, c4, c5, c6, c7, rfl, hb, a2 g hM, hL, h0.mono a1, h1.mono a1, h2.mono a1, h3.mono a1, Ow.mono h4 a1 (fun k hk => ⟨a2 k hk.1, hk.2⟩) fun k hf hm => a3 k hf hm.1, Ow.mono h5 a1 (fun k hk => ⟨a2 k hk.1, hk.2⟩) fun k hf hm => a3 k hf hm.1, h6.mono a1 (fun k hk => ⟨a2 k hk.1, hk.2⟩) fun k hf hm => a3 k hf hm.1, h7.mono a1 (fun k hk => ⟨a2 k hk.1, hk.2⟩) fun k hf hm => a3 k hf hm.1, h8⟩
theorem Sch.opn {i : Nat} {w : World} {O : Lab} {p : Nat} {x : Sch} (h : Ob i w O (.pointer (some ⟨p, 0, none⟩)) x) (l0 l1 l2 l3 l4 : Nat) (hl : l0 ≠ 0 ∧ l1 ≠ 0 ∧ l2 ≠ 0 ∧ l3 ≠ 0 ∧ l4 ≠ 0) : ∃ (O' : Lab) (c0 c1 c2 c3 c4 c5 c6 c7 : Value), St (eT i) w O w O' ∧ (∀ k, Fr i w O k → ∃ q, q ∈ [l0, l1, l2, l3, l4] ∧ Fr q w O' k) ∧ Lc l0 w O' p 85 [c0, c1, c2, c3, c4, c5, c6, c7, .int .i64 x.exp] ∧ Vb w (Fr 0 w O') c0 x.t.vars ∧ Vb w (Fr 0 w O') c1 x.t.init ∧ Vb w (Fr 0 w O') c2 x.t.goal ∧ Vb w (Fr 0 w O') c3 x.t.ops ∧ Ob l1 w O' c4 x.states ∧ Ob l2 w O' c5 x.que ∧ Rw l3 w O' 3 c6 x.costs ∧ Rw l4 w O' 4 c7 x.fin ∧ inI64 x.exp := by
  obtain ⟨⟨g, L, c0, c1, c2, c3, c4, c5, c6, c7, hv, hb, hM, hL, h0, h1, h2, h3, h4, h5, h6, h7, h8⟩, hi⟩ := h
  obtain rfl : p = g := by injection hv with hv; injection hv with hv; injection hv
  exact ⟨part O i L [l0, l1, l2, l3, l4], c0, c1, c2, c3, c4, c5, c6, c7, part_st hi, part_all (by simp), ⟨hb, (part_fr (j := 0) rfl p ⟨hM, hL⟩).2⟩, h0.mono (part_fr0 hi), h1.mono (part_fr0 hi), h2.mono (part_fr0 hi), h3.mono (part_fr0 hi), ⟨Ow.mono h4 (part_fr0 hi) (part_fr (j := 1) rfl) (frNe0 hl.2.1), hl.2.1⟩, ⟨Ow.mono h5 (part_fr0 hi) (part_fr (j := 2) rfl) (frNe0 hl.2.2.1), hl.2.2.1⟩, h6.rw (part_fr0 hi) (part_fr (j := 3) rfl) hl.2.2.2.1, h7.rw (part_fr0 hi) (part_fr (j := 4) rfl) hl.2.2.2.2, h8⟩
theorem Sch.shut {w : World} {O : Lab} {p : Nat} {x : Sch} {l0 l1 l2 l3 l4 : Nat} {c0 c1 c2 c3 c4 c5 c6 c7 : Value} (hd : ¬ 0 ∈ [l0, l1, l2, l3, l4] ∧ [l0, l1, l2, l3, l4].idxOf l0 = 0 ∧ [l0, l1, l2, l3, l4].idxOf l1 = 1 ∧ [l0, l1, l2, l3, l4].idxOf l2 = 2 ∧ [l0, l1, l2, l3, l4].idxOf l3 = 3 ∧ [l0, l1, l2, l3, l4].idxOf l4 = 4) (hb : Lc l0 w O p 85 [c0, c1, c2, c3, c4, c5, c6, c7, .int .i64 x.exp]) (h0 : Vb w (Fr 0 w O) c0 x.t.vars) (h1 : Vb w (Fr 0 w O) c1 x.t.init) (h2 : Vb w (Fr 0 w O) c2 x.t.goal) (h3 : Vb w (Fr 0 w O) c3 x.t.ops) (h4 : Ob l1 w O c4 x.states) (h5 : Ob l2 w O c5 x.que) (h6 : Rw l3 w O 3 c6 x.costs) (h7 : Rw l4 w O 4 c7 x.fin) (h8 : inI64 x.exp) : ∃ O', St (· ∈ [l0, l1, l2, l3, l4]) w O w O' ∧ (∀ k, Fr 0 w O k → Fr 0 w O' k) ∧ (∀ q, q ∈ [l0, l1, l2, l3, l4] → ∀ k, Fr q w O k → Fr l0 w O' k) ∧ Ob l0 w O' (.pointer (some ⟨p, 0, none⟩)) x := by
  have hb1 : l0 ≠ 0 := fun e => hd.1 (by simp [e])
  have hg := whole_fr (i := l0) hd.2.1 (by simp) p ⟨hb.1.lt, hb.2⟩
  exact ⟨whole O l0 [l0, l1, l2, l3, l4], whole_st, whole_fr0 hd.1, whole_all, ⟨p, fun k => [l0, l1, l2, l3, l4].idxOf (O k), c0, c1, c2, c3, c4, c5, c6, c7, rfl, hb.1, hg.1, hg.2, h0.mono (whole_fr0 hd.1), h1.mono (whole_fr0 hd.1), h2.mono (whole_fr0 hd.1), h3.mono (whole_fr0 hd.1), Ow.mono h4.1 (whole_fr0 hd.1) (whole_fr hd.2.2.1 (by simp)) (fun k a b => frNe0 hb1 k a b.1), Ow.mono h5.1 (whole_fr0 hd.1) (whole_fr hd.2.2.2.1 (by simp)) (fun k a b => frNe0 hb1 k a b.1), h6.m (whole_fr0 hd.1) (whole_fr hd.2.2.2.2.1 (by simp)) (fun k a b => frNe0 hb1 k a b.1), h7.m (whole_fr0 hd.1) (whole_fr hd.2.2.2.2.2 (by simp)) (fun k a b => frNe0 hb1 k a b.1), h8⟩, hb1⟩
noncomputable def m_stubborn_search_reach (x0 : Sch) (x1 : List Int) (x2 : Int) (x3 : Int) (x4 : Int) : Option (Err × Sch) :=
  bnd (m_registry_Registry_Add x0.states x1) fun q45 => if q45.2.2.1.n ≠ 0 then (some ((⟨q45.2.2.1.n⟩ : Err), (⟨(⟨x0.t.vars, x0.t.init, x0.t.goal, x0.t.ops⟩ : Tsk), q45.2.2.2, x0.que, x0.costs, x0.fin, x0.exp⟩ : Sch))) else (bnd (if q45.2.1 = true then (bnd (appI 8 x0.costs [1125899906842624]) fun u73 => bnd (appI 1 x0.fin [false]) fun u75 => some (⟨(⟨x0.t.vars, x0.t.init, x0.t.goal, x0.t.ops⟩ : Tsk), q45.2.2.2, x0.que, u73, u75, x0.exp⟩ : Sch)) else (some (⟨(⟨x0.t.vars, x0.t.init, x0.t.goal, x0.t.ops⟩ : Tsk), q45.2.2.2, x0.que, x0.costs, x0.fin, x0.exp⟩ : Sch)) : Option Sch) fun y67 => bnd (atI y67.costs q45.1) fun a234 => if a234 ≤ x4 then (some ((⟨0⟩ : Err), y67)) else (bnd (atI y67.costs q45.1) fun a252 => bnd (m_registry_Registry_SetLink y67.states q45.1 x2 x3 x4) fun q266 => if q266.1.n ≠ 0 then (some ((⟨q266.1.n⟩ : Err), (⟨(⟨y67.t.vars, y67.t.init, y67.t.goal, y67.t.ops⟩ : Tsk), q266.2, y67.que, (y67.costs.set (q45.1 : Int).toNat x4), y67.fin, y67.exp⟩ : Sch))) else (bnd (m_pqueue_Queue_Push y67.que x4 0 q45.1) fun q282 => some ((⟨q282.1.n⟩ : Err), (⟨(⟨y67.t.vars, y67.t.init, y67.t.goal, y67.t.ops⟩ : Tsk), q266.2, q282.2, (y67.costs.set (q45.1 : Int).toNat x4), y67.fin, y67.exp⟩ : Sch)))))
theorem c_stubborn_search_reach {w : World} {O : Lab} {p0 i0 : Nat} {x0 : Sch} (hx0 : Ob i0 w O (.pointer (some ⟨p0, 0, none⟩)) x0) {vx1 : Value} {x1 : List Int} (hx1 : Vb w (Fr 0 w O) vx1 x1) {x2 : Int} (rx2 : inI64 x2) {x3 : Int} (rx3 : inI64 x3) {x4 : Int} (rx4 : inI64 x4) {r : Err × Sch} (hm : m_stubborn_search_reach x0 x1 x2 x3 x4 = some r) :
    Fn Try.prog 41 [(.pointer (some ⟨p0, 0, none⟩)), vx1, (.int .i64 x2), (.int .i64 x3), (.int .i64 x4)] w fun v w' => ∃ O', St (eT i0) w O w' O' ∧ Ob i0 w' O' (.pointer (some ⟨p0, 0, none⟩)) r.2 ∧ Vb w' (Fr 0 w' O') v r.1 := by
 obtain ⟨O0, hE, hz0, hl2⟩ := ent1 (w := w) (O := O) hx0.2
 have hx0' := Ob.leave hx0 hz0 hl2 (j := 2) (by decide)
 have hB : Bm w O0 w O0 := Bm.refl
 replace hx1 := hx1.mono hz0
 obtain ⟨A6, c7, rfl⟩ := hx1.form
 refine fn_enter Try.func41 rfl Try.ntmps41 rfl ?_
 unfold m_stubborn_search_reach at hm
 refine ewp_seq (ewp_region (o_as rfl rfl (o_z ?_)))
 refine ewp_seq (ewp_region (o_mv rfl rfl (o_nc rfl rfl ?_)))
 obtain ⟨O8, v12, v16, v20, v24, v28, v31, v34, v39, S9, ha11, h10, h13, h17, h21, h25, h29, h32, h35, h40, r44⟩ := Sch.opn hx0' 2 3 4 5 6 (by decide)
 obtain ⟨A14, c15, rfl⟩ := h13.form
 obtain ⟨A18, c19, rfl⟩ := h17.form
 obtain ⟨A22, c23, rfl⟩ := h21.form
 obtain ⟨A26, c27, rfl⟩ := h25.form
 obtain ⟨p30, rfl⟩ := h29.ptr
 obtain ⟨p33, rfl⟩ := h32.ptr
 obtain ⟨A36, c37, rfl⟩ := h35.form
 obtain ⟨A41, c42, rfl⟩ := h40.form
 refine o_fa rfl rfl (o_ld (hc := Blk.cell (i := 4) (h10.1) rfl) rfl rfl ?_)
 refine o_mv rfl rfl ?_
 obtain ⟨q45, e46, hm⟩ := bs hm
 replace hx1 := hx1.st S9
 refine l_callM (O := O8) (c_registry_Registry_Add h29 hx1 e46) rfl rfl fun v51 w47 O48 S49 h50 => ?_
 obtain ⟨v53, v54, v55, h52, rfl, h56, h57, h58⟩ := h50
 obtain ⟨rfl, r59⟩ := h56.int
 obtain rfl := h57.bool
 obtain ⟨rfl, r60⟩ := h58.err
 refine o_mv rfl rfl (o_ex rfl rfl rfl (o_ex rfl rfl rfl (o_ex rfl rfl rfl (o_as rfl rfl (o_as rfl rfl (o_as rfl rfl (o_z ?_)))))))
 refine ewp_seq (ewp_seq (ewp_region (o_mv rfl rfl (o_rnS rfl rfl (fun c61 => ?_) fun c61 => ?_))))
 ·
  replace hm := ip hm c61
  refine o_z ?_
  refine ewp_true rfl (ewp_seq (ewp_region (o_mv rfl rfl (o_as rfl rfl (o_z ?_)))))
  refine ewp_ret ?_
  replace h10 := h10.st S49
  replace h13 := h13.st S49
  replace h17 := h17.st S49
  replace h21 := h21.st S49
  replace h25 := h25.st S49
  replace h32 := h32.st S49
  replace h35 := h35.st S49
  replace h40 := h40.st S49
  obtain ⟨O62, S63, hz65, ha66, h64⟩ := Sch.shut (x := (⟨(⟨x0.t.vars, x0.t.init, x0.t.goal, x0.t.ops⟩ : Tsk), q45.2.2.2, x0.que, x0.costs, x0.fin, x0.exp⟩ : Sch)) (l0 := 2) (l1 := 3) (l2 := 4) (l3 := 5) (l4 := 6) (by decide) h10 h13 h17 h21 h25 h52 h32 h35 h40 r44
  obtain rfl := sm hm
  replace hB := ((hB.st S9).st S49).st S63
  obtain ⟨O', hS', hz, hl⟩ := hE.leave (fun q => if q = 2 then i0 else 0) rfl hB
  exact ret1v rfl (res_tmp rfl) ⟨O', hS', (Ob.leave h64 hz (hl 2 (by decide) (by decide)) hx0.2), (vErr r60)⟩
 ·
  replace hm := im hm c61
  refine o_z ?_
  refine ewp_false rfl (ewp_skip (ewp_seq ?_))
  obtain ⟨y67, hy68, hm⟩ := bs hm
  refine ewp_join (fun l' w' => ∃ (x70 : Unit) (O' : Lab), subs l' [(0, (.pointer (some ⟨p0, 0, none⟩))), (2, (.int .i64 x2)), (3, (.int .i64 x3)), (4, (.int .i64 x4)), (11, (.int .i64 q45.1))] ∧ Bm w O0 w' O' ∧ Ob 2 w' O' (.pointer (some ⟨p0, 0, none⟩)) y67) ?_ ?_
  ·
   refine ewp_seq (ewp_region (o_mv rfl rfl (o_z ?_)))
   refine ewp_cond rfl (fun c72 => ?_) (fun c72 => ?_)
   ·
    replace hy68 := ip hy68 c72
    obtain ⟨u73, e74, hy68⟩ := bs hy68
    obtain ⟨u75, e76, hy68⟩ := bs hy68
    refine ewp_drawX [(6, []), (7, [5]), (12, []), (13, [6]), (16, [2])] O48 ?_
    refine x_pre (fuel := 16) [] [(2, true), (3, true), (4, true), (5, true)] (by kernel_rfl) rfl ?_
    refine h_mv rfl rfl rfl (h_nc rfl rfl rfl (h_fa rfl rfl rfl ?_))
    replace h10 := h10.st S49
    refine h_ldC (hc := fun w' ⟨O', hq⟩ => Blk.cell (i := 6) ((h10.st hq (by decide)).1) rfl) rfl rfl rfl ?_
    refine hwp_nilT ?_
    refine x_pre (fuel := 12) [5] [(8, true), (9, true), (10, true), (11, true)] (by kernel_rfl) rfl ?_
    refine h_mv rfl rfl rfl (h_nc rfl rfl rfl (h_fa rfl rfl rfl (h_ldC (hc := fun w' ⟨O', hq⟩ => Blk.cell (i := 7) ((h10.st hq (by decide)).1) rfl) rfl rfl rfl ?_)))
    refine hwp_nilT ?_
    refine x_pre (fuel := 11) [5, 6] [(0, true)] (by kernel_rfl) rfl ?_
    refine h_mv rfl rfl rfl (hwp_nilT ?_)
    refine x_pre (fuel := 10) [2, 5, 6] [(1, true)] (by kernel_rfl) rfl ?_
    refine h_mv rfl rfl rfl (hwp_nilT ?_)
    refine x_two (i := 6) (j := 12) (by kernel_rfl) rfl rfl ?_ ?_
    ·
     refine l_bslice 7 (by decide) O48 (xs := ([1125899906842624] : List Int)) rfl rfl rfl rfl ⟨(vInt (show inI64 (1125899906842624) from by decide)), trivial⟩ (by decide) (by decide) rfl fun g77 w78 O79 S80 h81 => ?_
     have hZ := S80.lst [] (fun _ h => h.elim)
     refine x_go [(7, [5]), (12, []), (13, [6]), (16, [2])] hZ (by kernel_rfl) ?_
     refine x_two (i := 7) (j := 12) (by kernel_rfl) rfl rfl ?_ ?_
     ·
      obtain ⟨e74, e83, e84⟩ := appI_some e74
      replace h35 := (h35.st S49).st S80
      refine l_append rfl h35 (h81.rd) rfl rfl (by decide) e83 e84 rfl fun A85 c86 w87 O88 S89 h90 => ?_
      rw [← e74] at h90 ⊢
      have hZ := S89.lst [5] (fun _ h => by cases h; decide)
      refine x_go [(12, []), (13, [6]), (16, [2])] hZ (by kernel_rfl) ?_
      refine x_one (i := 12) (by kernel_rfl) rfl ?_
      refine l_bslice 8 (by decide) O88 (xs := ([false] : List Bool)) rfl rfl rfl rfl ⟨vBool, trivial⟩ (by decide) (by decide) rfl fun g92 w93 O94 S95 h96 => ?_
      have hZ := S95.lst [] (fun _ h => h.elim)
      refine x_go [(13, [6]), (16, [2])] hZ (by kernel_rfl) ?_
      refine x_one (i := 13) (by kernel_rfl) rfl ?_
      obtain ⟨e76, e98, e99⟩ := appI_some e76
      replace h40 := (((h40.st S49).st S80).st S89).st S95
      refine l_append rfl h40 (h96.rd) rfl rfl (by decide) e98 e99 rfl fun A100 c101 w102 O103 S104 h105 => ?_
      rw [← e76] at h105 ⊢
      have hZ := S104.lst [6] (fun _ h => by cases h; decide)
      refine x_go [(16, [2])] hZ (by kernel_rfl) ?_
      refine x_pre (fuel := 4) [] [(14, true), (15, true)] (by kernel_rfl) rfl ?_
      refine h_nc rfl rfl rfl (h_fa rfl rfl rfl (hwp_nilT ?_))
      refine x_one (i := 16) (by kernel_rfl) rfl ?_
      replace h10 := (((h10.st S80).st S89).st S95).st S104
      refine l_store h10 rfl rfl rfl (Nat.le_of_ble_eq_true rfl) (by first | exact allOne rfl | simp [Value.cells, Value.oneCell', errV_one]) fun w107 S108 h10 => ?_
      replace h10 : Lc 2 w107 O103 p0 85 [(.slice A14 x0.t.vars.length c15), (.slice A18 x0.t.init.length c19), (.slice A22 x0.t.goal.length c23), (.slice A26 x0.t.ops.length c27), (.pointer (some ⟨p30, 0, none⟩)), (.pointer (some ⟨p33, 0, none⟩)), (.slice A85 u73.length c86), (.slice A41 x0.fin.length c42), (.int .i64 x0.exp)] := h10
      have hZ := S108.lst [2] (fun _ h => by cases h; decide)
      refine x_go [] hZ (by kernel_rfl) ?_
      refine x_pre (fuel := 1) [] [(17, true), (18, true)] (by kernel_rfl) rfl ?_
      refine h_nc rfl rfl rfl (h_fa rfl rfl rfl (hwp_nilT ?_))
      refine x_one (i := 19) (by kernel_rfl) rfl ?_
      refine l_store h10 rfl rfl rfl (Nat.le_of_ble_eq_true rfl) (by first | exact allOne rfl | simp [Value.cells, Value.oneCell', errV_one]) fun w109 S110 h10 => ?_
      replace h10 : Lc 2 w109 O103 p0 85 [(.slice A14 x0.t.vars.length c15), (.slice A18 x0.t.init.length c19), (.slice A22 x0.t.goal.length c23), (.slice A26 x0.t.ops.length c27), (.pointer (some ⟨p30, 0, none⟩)), (.pointer (some ⟨p33, 0, none⟩)), (.slice A85 u73.length c86), (.slice A100 u75.length c101), (.int .i64 x0.exp)] := h10
      refine x_end (by kernel_rfl) ?_
      refine x_nil (by kernel_rfl) ?_
      replace h13 := ((((((h13.st S49).st S80).st S89).st S95).st S104).st S108).st S110
      replace h17 := ((((((h17.st S49).st S80).st S89).st S95).st S104).st S108).st S110
      replace h21 := ((((((h21.st S49).st S80).st S89).st S95).st S104).st S108).st S110
      replace h25 := ((((((h25.st S49).st S80).st S89).st S95).st S104).st S108).st S110
      replace h32 := ((((((h32.st S49).st S80).st S89).st S95).st S104).st S108).st S110
      replace h52 := (((((h52.st S80).st S89).st S95).st S104).st S108).st S110
      replace h90 := (((h90.st S95).st S104).st S108).st S110
      replace h105 := (h105.st S108).st S110
      obtain ⟨O111, S112, hz114, ha115, h113⟩ := Sch.shut (x := (⟨(⟨x0.t.vars, x0.t.init, x0.t.goal, x0.t.ops⟩ : Tsk), q45.2.2.2, x0.que, u73, u75, x0.exp⟩ : Sch)) (l0 := 2) (l1 := 3) (l2 := 4) (l3 := 5) (l4 := 6) (by decide) h10 h13 h17 h21 h25 h52 h32 h90 h105 r44
      obtain rfl := sm hy68
      replace hB := ((((((((hB.st S9).st S49).st S80).st S89).st S95).st S104).st S108).st S110).st S112
      exact ⟨(), _, ⟨rfl, rfl, rfl, rfl, rfl, trivial⟩, hB, h113⟩
     ·
      refine l_bslice 8 (by decide) O79 (xs := ([false] : List Bool)) rfl rfl rfl rfl ⟨vBool, trivial⟩ (by decide) (by decide) rfl fun g116 w117 O118 S119 h120 => ?_
      have hZ := S119.lst [] (fun _ h => h.elim)
      refine x_go [(7, [5]), (13, [6]), (16, [2])] hZ (by kernel_rfl) ?_
      refine x_one (i := 7) (by kernel_rfl) rfl ?_
      obtain ⟨e74, e122, e123⟩ := appI_some e74
      replace h35 := ((h35.st S49).st S80).st S119
      replace h81 := h81.st S119
      refine l_append rfl h35 (h81.rd) rfl rfl (by decide) e122 e123 rfl fun A124 c125 w126 O127 S128 h129 => ?_
      rw [← e74] at h129 ⊢
      have hZ := S128.lst [5] (fun _ h => by cases h; decide)
      refine x_go [(13, [6]), (16, [2])] hZ (by kernel_rfl) ?_
      refine x_one (i := 13) (by kernel_rfl) rfl ?_
      obtain ⟨e76, e131, e132⟩ := appI_some e76
      replace h40 := (((h40.st S49).st S80).st S119).st S128
      replace h120 := h120.st S128
      refine l_append rfl h40 (h120.rd) rfl rfl (by decide) e131 e132 rfl fun A133 c134 w135 O136 S137 h138 => ?_
      rw [← e76] at h138 ⊢
      have hZ := S137.lst [6] (fun _ h => by cases h; decide)
      refine x_go [(16, [2])] hZ (by kernel_rfl) ?_
      refine x_pre (fuel := 4) [] [(14, true), (15, true)] (by kernel_rfl) rfl ?_
      refine h_nc rfl rfl rfl (h_fa rfl rfl rfl (hwp_nilT ?_))
      refine x_one (i := 16) (by kernel_rfl) rfl ?_
      replace h10 := (((h10.st S80).st S119).st S128).st S137
      refine l_store h10 rfl rfl rfl (Nat.le_of_ble_eq_true rfl) (by first | exact allOne rfl | simp [Value.cells, Value.oneCell', errV_one]) fun w140 S141 h10 => ?_
      replace h10 : Lc 2 w140 O136 p0 85 [(.slice A14 x0.t.vars.length c15), (.slice A18 x0.t.init.length c19), (.slice A22 x0.t.goal.length c23), (.slice A26 x0.t.ops.length c27), (.pointer (some ⟨p30, 0, none⟩)), (.pointer (some ⟨p33, 0, none⟩)), (.slice A124 u73.length c125), (.slice A41 x0.fin.length c42), (.int .i64 x0.exp)] := h10
      have hZ := S141.lst [2] (fun _ h => by cases h; decide)
      refine x_go [] hZ (by kernel_rfl) ?_
      refine x_pre (fuel := 1) [] [(17, true), (18, true)] (by kernel_rfl) rfl ?_
      refine h_nc rfl rfl rfl (h_fa rfl rfl rfl (hwp_nilT ?_))
      refine x_one (i := 19) (by kernel_rfl) rfl ?_
      refine l_store h10 rfl rfl rfl (Nat.le_of_ble_eq_true rfl) (by first | exact allOne rfl | simp [Value.cells, Value.oneCell', errV_one]) fun w142 S143 h10 => ?_
      replace h10 : Lc 2 w142 O136 p0 85 [(.slice A14 x0.t.vars.length c15), (.slice A18 x0.t.init.length c19), (.slice A22 x0.t.goal.length c23), (.slice A26 x0.t.ops.length c27), (.pointer (some ⟨p30, 0, none⟩)), (.pointer (some ⟨p33, 0, none⟩)), (.slice A124 u73.length c125), (.slice A133 u75.length c134), (.int .i64 x0.exp)] := h10
      refine x_end (by kernel_rfl) ?_
      refine x_nil (by kernel_rfl) ?_
      replace h13 := ((((((h13.st S49).st S80).st S119).st S128).st S137).st S141).st S143
      replace h17 := ((((((h17.st S49).st S80).st S119).st S128).st S137).st S141).st S143
      replace h21 := ((((((h21.st S49).st S80).st S119).st S128).st S137).st S141).st S143
      replace h25 := ((((((h25.st S49).st S80).st S119).st S128).st S137).st S141).st S143
      replace h32 := ((((((h32.st S49).st S80).st S119).st S128).st S137).st S141).st S143
      replace h52 := (((((h52.st S80).st S119).st S128).st S137).st S141).st S143
      replace h129 := ((h129.st S137).st S141).st S143
      replace h138 := (h138.st S141).st S143
      obtain ⟨O144, S145, hz147, ha148, h146⟩ := Sch.shut (x := (⟨(⟨x0.t.vars, x0.t.init, x0.t.goal, x0.t.ops⟩ : Tsk), q45.2.2.2, x0.que, u73, u75, x0.exp⟩ : Sch)) (l0 := 2) (l1 := 3) (l2 := 4) (l3 := 5) (l4 := 6) (by decide) h10 h13 h17 h21 h25 h52 h32 h129 h138 r44
      obtain rfl := sm hy68
      replace hB := ((((((((hB.st S9).st S49).st S80).st S119).st S128).st S137).st S141).st S143).st S145
      exact ⟨(), _, ⟨rfl, rfl, rfl, rfl, rfl, trivial⟩, hB, h146⟩
    ·
     refine l_bslice 8 (by decide) O48 (xs := ([false] : List Bool)) rfl rfl rfl rfl ⟨vBool, trivial⟩ (by decide) (by decide) rfl fun g149 w150 O151 S152 h153 => ?_
     have hZ := S152.lst [] (fun _ h => h.elim)
     refine x_go [(6, []), (7, [5]), (13, [6]), (16, [2])] hZ (by kernel_rfl) ?_
     refine x_one (i := 6) (by kernel_rfl) rfl ?_
     refine l_bslice 7 (by decide) O151 (xs := ([1125899906842624] : List Int)) rfl rfl rfl rfl ⟨(vInt (show inI64 (1125899906842624) from by decide)), trivial⟩ (by decide) (by decide) rfl fun g155 w156 O157 S158 h159 => ?_
     have hZ := S158.lst [] (fun _ h => h.elim)
     refine x_go [(7, [5]), (13, [6]), (16, [2])] hZ (by kernel_rfl) ?_
     refine x_one (i := 7) (by kernel_rfl) rfl ?_
     obtain ⟨e74, e161, e162⟩ := appI_some e74
     replace h35 := ((h35.st S49).st S152).st S158
     refine l_append rfl h35 (h159.rd) rfl rfl (by decide) e161 e162 rfl fun A163 c164 w165 O166 S167 h168 => ?_
     rw [← e74] at h168 ⊢
     have hZ := S167.lst [5] (fun _ h => by cases h; decide)
     refine x_go [(13, [6]), (16, [2])] hZ (by kernel_rfl) ?_
     refine x_one (i := 13) (by kernel_rfl) rfl ?_
     obtain ⟨e76, e170, e171⟩ := appI_some e76
     replace h40 := (((h40.st S49).st S152).st S158).st S167
     replace h153 := (h153.st S158).st S167
     refine l_append rfl h40 (h153.rd) rfl rfl (by decide) e170 e171 rfl fun A172 c173 w174 O175 S176 h177 => ?_
     rw [← e76] at h177 ⊢
     have hZ := S176.lst [6] (fun _ h => by cases h; decide)
     refine x_go [(16, [2])] hZ (by kernel_rfl) ?_
     refine x_pre (fuel := 4) [] [(14, true), (15, true)] (by kernel_rfl) rfl ?_
     refine h_nc rfl rfl rfl (h_fa rfl rfl rfl (hwp_nilT ?_))
     refine x_one (i := 16) (by kernel_rfl) rfl ?_
     replace h10 := (((h10.st S152).st S158).st S167).st S176
     refine l_store h10 rfl rfl rfl (Nat.le_of_ble_eq_true rfl) (by first | exact allOne rfl | simp [Value.cells, Value.oneCell', errV_one]) fun w179 S180 h10 => ?_
     replace h10 : Lc 2 w179 O175 p0 85 [(.slice A14 x0.t.vars.length c15), (.slice A18 x0.t.init.length c19), (.slice A22 x0.t.goal.length c23), (.slice A26 x0.t.ops.length c27), (.pointer (some ⟨p30, 0, none⟩)), (.pointer (some ⟨p33, 0, none⟩)), (.slice A163 u73.length c164), (.slice A41 x0.fin.length c42), (.int .i64 x0.exp)] := h10
     have hZ := S180.lst [2] (fun _ h => by cases h; decide)
     refine x_go [] hZ (by kernel_rfl) ?_
     refine x_pre (fuel := 1) [] [(17, true), (18, true)] (by kernel_rfl) rfl ?_
     refine h_nc rfl rfl rfl (h_fa rfl rfl rfl (hwp_nilT ?_))
     refine x_one (i := 19) (by kernel_rfl) rfl ?_
     refine l_store h10 rfl rfl rfl (Nat.le_of_ble_eq_true rfl) (by first | exact allOne rfl | simp [Value.cells, Value.oneCell', errV_one]) fun w181 S182 h10 => ?_
     replace h10 : Lc 2 w181 O175 p0 85 [(.slice A14 x0.t.vars.length c15), (.slice A18 x0.t.init.length c19), (.slice A22 x0.t.goal.length c23), (.slice A26 x0.t.ops.length c27), (.pointer (some ⟨p30, 0, none⟩)), (.pointer (some ⟨p33, 0, none⟩)), (.slice A163 u73.length c164), (.slice A172 u75.length c173), (.int .i64 x0.exp)] := h10
     refine x_end (by kernel_rfl) ?_
     refine x_nil (by kernel_rfl) ?_
     replace h13 := ((((((h13.st S49).st S152).st S158).st S167).st S176).st S180).st S182
     replace h17 := ((((((h17.st S49).st S152).st S158).st S167).st S176).st S180).st S182
     replace h21 := ((((((h21.st S49).st S152).st S158).st S167).st S176).st S180).st S182
     replace h25 := ((((((h25.st S49).st S152).st S158).st S167).st S176).st S180).st S182
     replace h32 := ((((((h32.st S49).st S152).st S158).st S167).st S176).st S180).st S182
     replace h52 := (((((h52.st S152).st S158).st S167).st S176).st S180).st S182
     replace h168 := ((h168.st S176).st S180).st S182
     replace h177 := (h177.st S180).st S182
     obtain ⟨O183, S184, hz186, ha187, h185⟩ := Sch.shut (x := (⟨(⟨x0.t.vars, x0.t.init, x0.t.goal, x0.t.ops⟩ : Tsk), q45.2.2.2, x0.que, u73, u75, x0.exp⟩ : Sch)) (l0 := 2) (l1 := 3) (l2 := 4) (l3 := 5) (l4 := 6) (by decide) h10 h13 h17 h21 h25 h52 h32 h168 h177 r44
     obtain rfl := sm hy68
     replace hB := ((((((((hB.st S9).st S49).st S152).st S158).st S167).st S176).st S180).st S182).st S184
     exact ⟨(), _, ⟨rfl, rfl, rfl, rfl, rfl, trivial⟩, hB, h185⟩
   ·
    replace hy68 := im' hy68 c72
    refine ewp_skip ?_
    replace h10 := h10.st S49
    replace h13 := h13.st S49
    replace h17 := h17.st S49
    replace h21 := h21.st S49
    replace h25 := h25.st S49
    replace h32 := h32.st S49
    replace h35 := h35.st S49
    replace h40 := h40.st S49
    obtain ⟨O188, S189, hz191, ha192, h190⟩ := Sch.shut (x := (⟨(⟨x0.t.vars, x0.t.init, x0.t.goal, x0.t.ops⟩ : Tsk), q45.2.2.2, x0.que, x0.costs, x0.fin, x0.exp⟩ : Sch)) (l0 := 2) (l1 := 3) (l2 := 4) (l3 := 5) (l4 := 6) (by decide) h10 h13 h17 h21 h25 h52 h32 h35 h40 r44
    obtain rfl := sm hy68
    replace hB := ((hB.st S9).st S49).st S189
    exact ⟨(), _, ⟨rfl, rfl, rfl, rfl, rfl, trivial⟩, hB, h190⟩
  replace hB := (hB.st S9).st S49
  rintro l193 w194 ⟨x70, O195, hs196, hB, h71⟩
  refine ewp_sub _ hs196 ?_
  refine ewp_seq (ewp_seq (ewp_region (o_mv rfl rfl (o_mv rfl rfl (o_nc rfl rfl ?_)))))
  obtain ⟨O197, v201, v205, v209, v213, v217, v220, v223, v228, S198, ha200, h199, h202, h206, h210, h214, h218, h221, h224, h229, r233⟩ := Sch.opn h71 2 3 4 5 6 (by decide)
  obtain ⟨A203, c204, rfl⟩ := h202.form
  obtain ⟨A207, c208, rfl⟩ := h206.form
  obtain ⟨A211, c212, rfl⟩ := h210.form
  obtain ⟨A215, c216, rfl⟩ := h214.form
  obtain ⟨p219, rfl⟩ := h218.ptr
  obtain ⟨p222, rfl⟩ := h221.ptr
  obtain ⟨A225, c226, rfl⟩ := h224.form
  obtain ⟨A230, c231, rfl⟩ := h229.form
  refine o_fa rfl rfl (o_ld (hc := Blk.cell (i := 6) (h199.1) rfl) rfl rfl ?_)
  refine o_mv rfl rfl ?_
  obtain ⟨a234, e235, hm⟩ := bs hm
  obtain ⟨p237, x236⟩ := atI_some' e235
  obtain ⟨b238, o239, ce240, hA241, hl242, hd243, rfl, r245⟩ := h224.elem x236
  refine o_iaE (hA := hA241) (hj := (Int.toNat_of_nonneg p237).symm) (hlt := hl242) rfl rfl rfl ?_
  refine o_ld (hc := cat0 hd243) rfl rfl ?_
  refine o_geS rfl rfl rfl (fun c246 => ?_) fun c246 => ?_
  ·
   replace hm := ip hm c246
   refine o_z ?_
   refine ewp_true rfl (ewp_seq (ewp_region (o_as rfl rfl (o_z ?_))))
   refine ewp_ret ?_
   obtain ⟨O247, S248, hz250, ha251, h249⟩ := Sch.shut (x := y67) (l0 := 2) (l1 := 3) (l2 := 4) (l3 := 5) (l4 := 6) (by decide) h199 h202 h206 h210 h214 h218 h221 h224 h229 r233
   obtain rfl := sm hm
   replace hB := (hB.st S198).st S248
   obtain ⟨O', hS', hz, hl⟩ := hE.leave (fun q => if q = 2 then i0 else 0) rfl hB
   exact ret1v rfl (res_tmp rfl) ⟨O', hS', (Ob.leave h249 hz (hl 2 (by decide) (by decide)) hx0.2), (vErr (show inI64 0 from by decide))⟩
  ·
   replace hm := im hm c246
   refine o_z ?_
   refine ewp_false rfl (ewp_skip (ewp_seq (ewp_region (o_mv rfl rfl (o_nc rfl rfl (o_fa rfl rfl (o_ld (hc := Blk.cell (i := 6) (h199.1) rfl) rfl rfl ?_)))))))
   refine o_mv rfl rfl (o_mv rfl rfl ?_)
   obtain ⟨a252, e253, hm⟩ := bs hm
   obtain ⟨p255, x254⟩ := atI_some' e253
   obtain ⟨b256, o257, ce258, hA259, hl260, hd261, rfl, r263⟩ := h224.elem x254
   refine o_iaE (hA := hA259) (hj := (Int.toNat_of_nonneg p255).symm) (hlt := hl260) rfl rfl rfl ?_
   refine l_setE rfl h224 (a := x4) (vInt rx4) hA259 rfl rfl (lt_of_get x254) fun w264 S265 h224 => ?_
   refine o_z ?_
   refine ewp_seq (ewp_seq (ewp_region (o_mv rfl rfl (o_nc rfl rfl (o_fa rfl rfl ?_)))))
   replace h199 := h199.st S265
   refine o_ld (hc := Blk.cell (i := 4) (h199.1) rfl) rfl rfl ?_
   refine o_mv rfl rfl (o_mv rfl rfl (o_mv rfl rfl (o_mv rfl rfl ?_)))
   obtain ⟨q266, e267, hm⟩ := bs hm
   replace h218 := h218.st S265
   refine l_callM (O := O197) (c_registry_Registry_SetLink h218 r59 rx2 rx3 rx4 e267) rfl rfl fun v272 w268 O269 S270 h271 => ?_
   obtain ⟨h273, h274⟩ := h271
   obtain ⟨rfl, r275⟩ := h274.err
   refine o_as rfl rfl (o_z ?_)
   refine ewp_seq (ewp_region (o_mv rfl rfl (o_rnS rfl rfl (fun c276 => ?_) fun c276 => ?_)))
   ·
    replace hm := ip hm c276
    refine o_z ?_
    refine ewp_true rfl (ewp_seq (ewp_region (o_mv rfl rfl (o_as rfl rfl (o_z ?_)))))
    refine ewp_ret ?_
    replace h199 := h199.st S270
    replace h202 := (h202.st S265).st S270
    replace h206 := (h206.st S265).st S270
    replace h210 := (h210.st S265).st S270
    replace h214 := (h214.st S265).st S270
    replace h221 := (h221.st S265).st S270
    replace h224 := h224.st S270
    replace h229 := (h229.st S265).st S270
    obtain ⟨O277, S278, hz280, ha281, h279⟩ := Sch.shut (x := (⟨(⟨y67.t.vars, y67.t.init, y67.t.goal, y67.t.ops⟩ : Tsk), q266.2, y67.que, (y67.costs.set (q45.1 : Int).toNat x4), y67.fin, y67.exp⟩ : Sch)) (l0 := 2) (l1 := 3) (l2 := 4) (l3 := 5) (l4 := 6) (by decide) (by have q := h199; rw [← ((by simp : (y67.costs.set (q45.1 : Int).toNat x4).length = y67.costs.length).trans rfl)] at q; exact q) h202 h206 h210 h214 h273 h221 h224.relen h229 r233
    obtain rfl := sm hm
    replace hB := (((hB.st S198).st S265).st S270).st S278
    obtain ⟨O', hS', hz, hl⟩ := hE.leave (fun q => if q = 2 then i0 else 0) rfl hB
    exact ret1v rfl (res_tmp rfl) ⟨O', hS', (Ob.leave h279 hz (hl 2 (by decide) (by decide)) hx0.2), (vErr r275)⟩
   ·
    replace hm := im hm c276
    refine o_z ?_
    refine ewp_false rfl (ewp_skip (ewp_seq (ewp_region (o_mv rfl rfl (o_nc rfl rfl (o_fa rfl rfl ?_))))))
    replace h199 := h199.st S270
    refine o_ld (hc := Blk.cell (i := 5) (h199.1) rfl) rfl rfl ?_
    refine o_mv rfl rfl (o_mv rfl rfl ?_)
    obtain ⟨q282, e283, hm⟩ := bs hm
    replace h221 := (h221.st S265).st S270
    refine l_callM (O := O269) (c_pqueue_Queue_Push h221 rx4 (show inI64 (0) from by decide) r59 e283) rfl rfl fun v288 w284 O285 S286 h287 => ?_
    obtain ⟨h289, h290⟩ := h287
    obtain ⟨rfl, r291⟩ := h290.err
    refine o_as rfl rfl (o_z ?_)
    refine ewp_ret ?_
    replace h199 := h199.st S286
    replace h202 := ((h202.st S265).st S270).st S286
    replace h206 := ((h206.st S265).st S270).st S286
    replace h210 := ((h210.st S265).st S270).st S286
    replace h214 := ((h214.st S265).st S270).st S286
    replace h224 := (h224.st S270).st S286
    replace h229 := ((h229.st S265).st S270).st S286
    replace h273 := h273.st S286
    obtain ⟨O292, S293, hz295, ha296, h294⟩ := Sch.shut (x := (⟨(⟨y67.t.vars, y67.t.init, y67.t.goal, y67.t.ops⟩ : Tsk), q266.2, q282.2, (y67.costs.set (q45.1 : Int).toNat x4), y67.fin, y67.exp⟩ : Sch)) (l0 := 2) (l1 := 3) (l2 := 4) (l3 := 5) (l4 := 6) (by decide) (by have q := h199; rw [← ((by simp : (y67.costs.set (q45.1 : Int).toNat x4).length = y67.costs.length).trans rfl)] at q; exact q) h202 h206 h210 h214 h273 h289 h224.relen h229 r233
    obtain rfl := sm hm
    replace hB := ((((hB.st S198).st S265).st S270).st S286).st S293
    obtain ⟨O', hS', hz, hl⟩ := hE.leave (fun q => if q = 2 then i0 else 0) rfl hB
    exact ret1v rfl (res_tmp rfl) ⟨O', hS', (Ob.leave h294 hz (hl 2 (by decide) (by decide)) hx0.2), (vErr r291)⟩
noncomputable def m_stubborn_search_expand (x0 : Sch) (x1 : Int) (x2 : List Int) : Option (Err × Sch) :=
  bnd (atI x0.fin x1) fun a43 => bnd (chkI (x0.exp + 1)) fun n56 => bnd (m_stubborn_set (⟨x0.t.vars, x0.t.init, x0.t.goal, x0.t.ops⟩ : Tsk) x2) fun q61 => bnd (rng (ρ := Err × Sch) (fun (k81 : Nat) (a82 : Int) (s79 : Sch) => bnd (m_task_Apply (⟨s79.t.vars, s79.t.init, s79.t.goal, s79.t.ops⟩ : Tsk) x2 a82) fun q139 => if q139.2.n ≠ 0 then (some (.ret ((⟨q139.2.n⟩ : Err), s79))) else (bnd (atI s79.costs x1) fun a159 => bnd (atI s79.t.ops a82) fun a171 => bnd (chkI (a159 + a171.cost)) fun n192 => bnd (m_stubborn_search_reach s79 q139.1 x1 a82 n192) fun q200 => if q200.1.n ≠ 0 then (some (.ret ((⟨q200.1.n⟩ : Err), q200.2))) else (some (.next q200.2)))) q61 0 (⟨(⟨x0.t.vars, x0.t.init, x0.t.goal, x0.t.ops⟩ : Tsk), x0.states, x0.que, x0.costs, (x0.fin.set (x1 : Int).toNat true), n56⟩ : Sch)) fun res77 => fin res77 fun (s215 : Sch) => some ((⟨0⟩ : Err), s215)
theorem c_stubborn_search_expand {w : World} {O : Lab} {p0 i0 : Nat} {x0 : Sch} (hx0 : Ob i0 w O (.pointer (some ⟨p0, 0, none⟩)) x0) {x1 : Int} (rx1 : inI64 x1) {vx2 : Value} {x2 : List Int} (hx2 : Vb w (Fr 0 w O) vx2 x2) {r : Err × Sch} (hm : m_stubborn_search_expand x0 x1 x2 = some r) :
    Fn Try.prog 66 [(.pointer (some ⟨p0, 0, none⟩)), (.int .i64 x1), vx2] w fun v w' => ∃ O', St (eT i0) w O w' O' ∧ Ob i0 w' O' (.pointer (some ⟨p0, 0, none⟩)) r.2 ∧ Vb w' (Fr 0 w' O') v r.1 := by
 obtain ⟨O0, hE, hz0, hl2⟩ := ent1 (w := w) (O := O) hx0.2
 have hx0' := Ob.leave hx0 hz0 hl2 (j := 2) (by decide)
 have hB : Bm w O0 w O0 := Bm.refl
 replace hx2 := hx2.mono hz0
 obtain ⟨A4, c5, rfl⟩ := hx2.form
 refine fn_enter Try.func66 rfl Try.ntmps66 rfl ?_
 unfold m_stubborn_search_expand at hm
 refine ewp_seq (ewp_region (o_as rfl rfl (o_z ?_)))
 refine ewp_seq (ewp_region (o_mv rfl rfl (o_nc rfl rfl ?_)))
 obtain ⟨O6, v10, v14, v18, v22, v26, v29, v32, v37, S7, ha9, h8, h11, h15, h19, h23, h27, h30, h33, h38, r42⟩ := Sch.opn hx0' 2 3 4 5 6 (by decide)
 obtain ⟨A12, c13, rfl⟩ := h11.form
 obtain ⟨A16, c17, rfl⟩ := h15.form
 obtain ⟨A20, c21, rfl⟩ := h19.form
 obtain ⟨A24, c25, rfl⟩ := h23.form
 obtain ⟨p28, rfl⟩ := h27.ptr
 obtain ⟨p31, rfl⟩ := h30.ptr
 obtain ⟨A34, c35, rfl⟩ := h33.form
 obtain ⟨A39, c40, rfl⟩ := h38.form
 refine o_fa rfl rfl (o_ld (hc := Blk.cell (i := 7) (h8.1) rfl) rfl rfl ?_)
 refine o_mv rfl rfl ?_
 obtain ⟨a43, e44, hm⟩ := bs hm
 obtain ⟨p46, x45⟩ := atI_some' e44
 obtain ⟨b47, o48, ce49, hA50, hl51, hd52, rfl⟩ := h38.elem x45
 refine o_iaE (hA := hA50) (hj := (Int.toNat_of_nonneg p46).symm) (hlt := hl51) rfl rfl rfl ?_
 refine l_setE rfl h38 (a := true) vBool hA50 rfl rfl (lt_of_get x45) fun w54 S55 h38 => ?_
 refine o_z ?_
 refine ewp_seq (ewp_region (o_mv rfl rfl (o_nc rfl rfl (o_fa rfl rfl ?_))))
 replace h8 := h8.st S55
 refine o_ld (hc := Blk.cell (i := 8) (h8.1) rfl) rfl rfl ?_
 obtain ⟨n56, e57, hm⟩ := bs hm
 have r58 := (chkI_rng e57)
 refine o_adE (he := e57) rfl rfl rfl ?_
 refine o_nc rfl rfl (o_fa rfl rfl (l_store h8 rfl rfl rfl (Nat.le_of_ble_eq_true rfl) (by first | exact allOne rfl | simp [Value.cells, Value.oneCell', errV_one]) fun w59 S60 h8 => ?_))
 replace h8 : Lc 2 w59 O6 p0 85 [(.slice A12 x0.t.vars.length c13), (.slice A16 x0.t.init.length c17), (.slice A20 x0.t.goal.length c21), (.slice A24 x0.t.ops.length c25), (.pointer (some ⟨p28, 0, none⟩)), (.pointer (some ⟨p31, 0, none⟩)), (.slice A34 x0.costs.length c35), (.slice A39 x0.fin.length c40), (.int .i64 n56)] := h8
 refine o_z ?_
 refine ewp_seq (ewp_seq (ewp_region (o_mv rfl rfl (o_nc rfl rfl (o_fa rfl rfl (o_la (hl := rfl) (hc := (cellsAt_part 0 4 (h8.1).cellsAt)) rfl rfl ?_))))))
 refine o_mv rfl rfl ?_
 obtain ⟨q61, e62, hm⟩ := bs hm
 replace hx2 := ((hx2.st S7).st S55).st S60
 replace h11 := (h11.st S55).st S60
 replace h15 := (h15.st S55).st S60
 replace h19 := (h19.st S55).st S60
 replace h23 := (h23.st S55).st S60
 refine l_call (O := O6) (R := fun w' F v => Vb w' F v q61) (c_stubborn_set Fr.lt (Vb.ofAgg (cs := [(.slice A12 x0.t.vars.length c13), (.slice A16 x0.t.init.length c17), (.slice A20 x0.t.goal.length c21), (.slice A24 x0.t.ops.length c25)]) (x := (⟨x0.t.vars, x0.t.init, x0.t.goal, x0.t.ops⟩ : Tsk)) rfl ⟨_, _, _, _, rfl, h11, h15, h19, h23⟩) hx2 e62) rfl rfl fun v67 w63 O64 S65 h66 => ?_
 obtain ⟨A68, c69, rfl⟩ := h66.form
 refine o_ln rfl rfl ?_
 have l71 : q61.length ≤ 9223372036854775807 := Nat.le_trans h66.len.2.1 h66.len.2.2
 have r70 : inI64 (q61.length : Int) := rngNat l71
 refine o_mv rfl rfl (o_z ?_)
 replace h8 := h8.st S65
 replace h11 := h11.st S65
 replace h15 := h15.st S65
 replace h19 := h19.st S65
 replace h23 := h23.st S65
 replace h27 := ((h27.st S55).st S60).st S65
 replace h30 := ((h30.st S55).st S60).st S65
 replace h33 := ((h33.st S55).st S60).st S65
 replace h38 := (h38.st S60).st S65
 obtain ⟨O72, S73, hz75, ha76, h74⟩ := Sch.shut (x := (⟨(⟨x0.t.vars, x0.t.init, x0.t.goal, x0.t.ops⟩ : Tsk), x0.states, x0.que, x0.costs, (x0.fin.set (x1 : Int).toNat true), n56⟩ : Sch)) (l0 := 2) (l1 := 3) (l2 := 4) (l3 := 5) (l4 := 6) (by decide) (by have q := h8; rw [← ((by simp : (x0.fin.set (x1 : Int).toNat true).length = x0.fin.length).trans rfl)] at q; exact q) h11 h15 h19 h23 h27 h30 h33 h38.relen r58
 obtain ⟨res77, hL78, hm⟩ := bs hm
 refine ewp_join (aft res77 (fun (s79 : Sch) (x80 : Unit) => []) (fun s79 x80 w' => ∃ O' : Lab, Bm w O0 w' O' ∧ Ob 2 w' O' (.pointer (some ⟨p0, 0, none⟩)) s79)) ?_ ?_
 ·
  refine ewp_block ?_
  replace hB := ((((hB.st S7).st S55).st S60).st S65).st S73
  replace hx2 := (hx2.st S65).st S73
  replace h66 := h66.st S73
  refine ewp_rng (σ := Sch) (X := Unit) (q61.length) hL78 rfl l71 (fun (s79 : Sch) (x80 : Unit) => [(0, (.pointer (some ⟨p0, 0, none⟩))), (1, (.int .i64 x1)), (2, (.slice A4 x2.length c5)), (30, (.slice A68 q61.length c69))]) _ (fun s79 x80 w' => ∃ O' : Lab, Bm w O0 w' O' ∧ Ob 2 w' O' (.pointer (some ⟨p0, 0, none⟩)) s79 ∧ Vb w' (Fr 0 w' O') (.slice A4 x2.length c5) x2 ∧ Vb w' (Fr 0 w' O') (.slice A68 q61.length c69) q61) _ () ⟨O72, hB, h74, hx2, h66⟩ ⟨rfl, rfl, rfl, rfl, rfl, rfl, trivial⟩ (fun _ _ => ⟨rfl, rfl⟩) (fun _ _ => trivial) (fun _ _ _ ⟨O', hB, h93, hx2, h66⟩ => ⟨O', hB, h93⟩) ⟨rfl, rfl, rfl⟩ ⟨rfl, rfl⟩ ?_
  rintro k81 a82 s79 x80 w83 cc85 hx86 ⟨O84, hB, h93, hx2, h66⟩ hf87 hret88 hbrk89
  have rk81 : inI64 (k81 : Int) := rngK hx86 l71
  refine ewp_seq (ewp_region ?_)
  obtain ⟨b94, o95, ce96, hA97, hl98, hd99, rfl, r101⟩ := h66.elem' hx86
  refine o_iaE (hA := hA97) (hj := rfl) (hlt := hl98) rfl rfl rfl ?_
  refine o_ld (hc := cat0 hd99) rfl rfl ?_
  refine o_as rfl rfl (o_z ?_)
  refine ewp_seq (ewp_region (o_mv rfl rfl (o_nc rfl rfl ?_)))
  obtain ⟨O102, v106, v110, v114, v118, v122, v125, v128, v133, S103, ha105, h104, h107, h111, h115, h119, h123, h126, h129, h134, r138⟩ := Sch.opn h93 2 3 4 5 6 (by decide)
  obtain ⟨A108, c109, rfl⟩ := h107.form
  obtain ⟨A112, c113, rfl⟩ := h111.form
  obtain ⟨A116, c117, rfl⟩ := h115.form
  obtain ⟨A120, c121, rfl⟩ := h119.form
  obtain ⟨p124, rfl⟩ := h123.ptr
  obtain ⟨p127, rfl⟩ := h126.ptr
  obtain ⟨A130, c131, rfl⟩ := h129.form
  obtain ⟨A135, c136, rfl⟩ := h134.form
  refine o_fa rfl rfl (o_la (hl := rfl) (hc := (cellsAt_part 0 4 (h104.1).cellsAt)) rfl rfl ?_)
  refine o_mv rfl rfl (o_mv rfl rfl ?_)
  obtain ⟨q139, e140, hf87⟩ := bs hf87
  replace hx2 := hx2.st S103
  refine l_call (O := O102) (R := fun w' F v => T2 w' F v q139) (c_task_Apply Fr.lt (Vb.ofAgg (cs := [(.slice A108 s79.t.vars.length c109), (.slice A112 s79.t.init.length c113), (.slice A116 s79.t.goal.length c117), (.slice A120 s79.t.ops.length c121)]) (x := (⟨s79.t.vars, s79.t.init, s79.t.goal, s79.t.ops⟩ : Tsk)) rfl ⟨_, _, _, _, rfl, h107, h111, h115, h119⟩) hx2 r101 e140) rfl rfl fun v145 w141 O142 S143 h144 => ?_
  obtain ⟨v146, v147, rfl, h148, h149⟩ := h144
  obtain ⟨A150, c151, rfl⟩ := h148.form
  obtain ⟨rfl, r152⟩ := h149.err
  refine o_mv rfl rfl (o_ex rfl rfl rfl (o_ex rfl rfl rfl (o_as rfl rfl (o_as rfl rfl (o_z ?_)))))
  refine ewp_seq (ewp_seq (ewp_region (o_mv rfl rfl (o_rnS rfl rfl (fun c153 => ?_) fun c153 => ?_))))
  ·
   replace hf87 := ip hf87 c153
   refine o_z ?_
   refine ewp_true rfl (ewp_seq (ewp_region (o_mv rfl rfl (o_as rfl rfl (o_z ?_)))))
   refine ewp_ret ?_
   replace h104 := h104.st S143
   replace h107 := h107.st S143
   replace h111 := h111.st S143
   replace h115 := h115.st S143
   replace h119 := h119.st S143
   replace h123 := h123.st S143
   replace h126 := h126.st S143
   replace h129 := h129.st S143
   replace h134 := h134.st S143
   obtain ⟨O154, S155, hz157, ha158, h156⟩ := Sch.shut (x := s79) (l0 := 2) (l1 := 3) (l2 := 4) (l3 := 5) (l4 := 6) (by decide) h104 h107 h111 h115 h119 h123 h126 h129 h134 r138
   obtain rfl := sm hf87
   obtain rfl := hret88 _ rfl
   obtain rfl := sm (fin_ret hm)
   replace hB := ((hB.st S103).st S143).st S155
   obtain ⟨O', hS', hz, hl⟩ := hE.leave (fun q => if q = 2 then i0 else 0) rfl hB
   exact ret1v rfl (res_tmp rfl) ⟨O', hS', (Ob.leave h156 hz (hl 2 (by decide) (by decide)) hx0.2), (vErr r152)⟩
  ·
   replace hf87 := im hf87 c153
   refine o_z ?_
   refine ewp_false rfl (ewp_skip (ewp_seq (ewp_drawX [(21, [2, 3, 4, 5, 6])] O142 ?_)))
   refine x_pre (fuel := 2) [] [(0, true), (1, true), (2, true), (3, true), (4, true), (5, true), (6, true), (7, true), (8, true), (9, true), (10, true), (11, true), (12, true), (13, true), (14, true), (15, true), (16, true), (17, true), (18, true), (19, true), (20, true)] (by kernel_rfl) rfl ?_
   refine h_mv rfl rfl rfl (h_mv rfl rfl rfl (h_mv rfl rfl rfl (h_mv rfl rfl rfl (h_mv rfl rfl rfl (h_nc rfl rfl rfl (h_fa rfl rfl rfl ?_))))))
   replace h104 := h104.st S143
   refine h_ldC (hc := fun w' ⟨O', hq⟩ => Blk.cell (i := 6) ((h104.st hq (by decide)).1) rfl) rfl rfl rfl ?_
   refine h_mv rfl rfl rfl ?_
   obtain ⟨a159, e160, hf87⟩ := bs hf87
   obtain ⟨p162, x161⟩ := atI_some' e160
   replace h129 := h129.st S143
   obtain ⟨b163, o164, ce165, hA166, hF169, hl167, hd168, rfl, r170⟩ := h129.elemF x161
   refine h_iaE (hA := hA166) (hj := (Int.toNat_of_nonneg p162).symm) (hlt := hl167) rfl rfl rfl rfl ?_
   refine h_ldC (hc := fun w' ⟨O', hq⟩ => cat0 (cellsAt_agree (hq.agree (i := 5) (by decide)) hF169 hd168)) rfl rfl rfl ?_
   refine h_mv rfl rfl rfl (h_nc rfl rfl rfl (h_fa rfl rfl rfl (h_fa rfl rfl rfl (h_ldC (hc := fun w' ⟨O', hq⟩ => Blk.cell (i := 3) ((h104.st hq (by decide)).1) rfl) rfl rfl rfl ?_))))
   refine h_mv rfl rfl rfl ?_
   obtain ⟨a171, e172, hf87⟩ := bs hf87
   obtain ⟨p174, x173⟩ := atI_some' e172
   replace h119 := h119.st S143
   obtain ⟨b175, o176, ce177, hA178, hF181, hl179, hd180, v182, v183, rfl, h184, h187, r190, z191⟩ := h119.elem x173
   obtain ⟨A185, c186, rfl⟩ := h184.form
   obtain ⟨A188, c189, rfl⟩ := h187.form
   refine h_iaE (hA := hA178) (hj := (Int.toNat_of_nonneg p174).symm) (hlt := hl179) rfl rfl rfl rfl ?_
   refine h_fa rfl rfl rfl (h_ldC (hc := fun w' ⟨O', hq⟩ => cat1 (cellsAt_agree (hq.agree (i := 0) (by decide)) hF181 hd180)) rfl rfl rfl ?_)
   obtain ⟨n192, e193, hf87⟩ := bs hf87
   have r194 := (chkI_rng e193)
   refine h_adE (he := e193) rfl rfl rfl rfl ?_
   refine hwp_nilT ?_
   refine x_one (i := 21) (by kernel_rfl) rfl ?_
   replace h107 := h107.st S143
   replace h111 := h111.st S143
   replace h115 := h115.st S143
   replace h123 := h123.st S143
   replace h126 := h126.st S143
   replace h134 := h134.st S143
   obtain ⟨O195, S196, hz198, ha199, h197⟩ := Sch.shut (x := s79) (l0 := 2) (l1 := 3) (l2 := 4) (l3 := 5) (l4 := 6) (by decide) h104 h107 h111 h115 h119 h123 h126 h129 h134 r138
   have hZ := S196.lst [2, 3, 4, 5, 6] (by decide)
   obtain ⟨q200, e201, hf87⟩ := bs hf87
   replace h148 := h148.st S196
   refine l_callM (O := O195) (c_stubborn_search_reach h197 h148 rx1 r101 r194 e201) rfl rfl fun v206 w202 O203 S204 h205 => ?_
   obtain ⟨h207, h208⟩ := h205
   obtain ⟨rfl, r209⟩ := h208.err
   replace hZ := hZ.cmp S204 [2, 3, 4, 5, 6] (fun _ h => by cases h; decide) rfl
   refine x_go [] hZ (by kernel_rfl) ?_
   refine x_pre (fuel := 0) [] [(22, true)] (by kernel_rfl) rfl ?_
   refine h_as rfl rfl rfl (hwp_nilT ?_)
   refine x_nil (by kernel_rfl) ?_
   refine ewp_seq (ewp_region (o_mv rfl rfl (o_rnS rfl rfl (fun c210 => ?_) fun c210 => ?_)))
   ·
    replace hf87 := ip hf87 c210
    refine o_z ?_
    refine ewp_true rfl (ewp_seq (ewp_region (o_mv rfl rfl (o_as rfl rfl (o_z ?_)))))
    refine ewp_ret ?_
    obtain rfl := sm hf87
    obtain rfl := hret88 _ rfl
    obtain rfl := sm (fin_ret hm)
    replace hB := (((hB.st S103).st S143).st S196).st S204
    obtain ⟨O', hS', hz, hl⟩ := hE.leave (fun q => if q = 2 then i0 else 0) rfl hB
    exact ret1v rfl (res_tmp rfl) ⟨O', hS', (Ob.leave h207 hz (hl 2 (by decide) (by decide)) hx0.2), (vErr r209)⟩
   ·
    replace hf87 := im hf87 c210
    refine o_z ?_
    refine ewp_false rfl (ewp_skip ?_)
    obtain rfl := sm hf87
    refine (?_ : Exists _)
    replace hB := (((hB.st S103).st S143).st S196).st S204
    replace hx2 := ((hx2.st S143).st S196).st S204
    replace h66 := (((h66.st S103).st S143).st S196).st S204
    exact ⟨_, (), rfl, ⟨rfl, rfl, rfl, rfl, rfl, rfl, trivial⟩, _, hB, h207, hx2, h66⟩
 replace hB := ((((hB.st S7).st S55).st S60).st S65).st S73
 rintro l211 w212 ⟨s215, x216, rfl, hs214, O213, hB, h93⟩
 replace hm := fin_done hm
 refine ewp_sub _ hs214 ?_
 refine ewp_seq (ewp_region (o_as rfl rfl (o_z ?_)))
 refine ewp_ret ?_
 obtain rfl := sm hm
 obtain ⟨O', hS', hz, hl⟩ := hE.leave (fun q => if q = 2 then i0 else 0) rfl hB
 exact ret1v rfl (res_tmp rfl) ⟨O', hS', (Ob.leave h93 hz (hl 2 (by decide) (by decide)) hx0.2), (vErr (show inI64 0 from by decide))⟩
noncomputable def m_stubborn_search_run (x0 : Sch) (x1 : Int) : Option (Rsl × Sch) :=
  bnd (lop (ρ := Rsl × Sch) (fun (s17 : Int × Sch) => bnd (m_pqueue_Queue_Len s17.2.que) fun q71 => if 0 < q71 then (bnd (m_pqueue_Queue_Pop s17.2.que) fun q82 => bnd (if q82.2.2.2.1.n ≠ 0 then (some true) else (bnd (atI s17.2.fin q82.2.2.1) fun a112 => if a112 = true then (some true) else (bnd (atI s17.2.costs q82.2.2.1) fun a129 => if q82.1 ≠ a129 then (some true) else (some false))) : Option Bool) fun y102 => if y102 = true then (some (.next (s17.1, (⟨(⟨s17.2.t.vars, s17.2.t.init, s17.2.t.goal, s17.2.t.ops⟩ : Tsk), s17.2.states, q82.2.2.2.2, s17.2.costs, s17.2.fin, s17.2.exp⟩ : Sch)))) else (bnd (m_registry_Registry_State ((⟨(⟨s17.2.t.vars, s17.2.t.init, s17.2.t.goal, s17.2.t.ops⟩ : Tsk), s17.2.states, q82.2.2.2.2, s17.2.costs, s17.2.fin, s17.2.exp⟩ : Sch).states) q82.2.2.1) fun q194 => if q194.2.n ≠ 0 then (some (.brk (s17.1, (⟨(⟨s17.2.t.vars, s17.2.t.init, s17.2.t.goal, s17.2.t.ops⟩ : Tsk), s17.2.states, q82.2.2.2.2, s17.2.costs, s17.2.fin, s17.2.exp⟩ : Sch)))) else (bnd (m_task_Holds ((⟨(⟨s17.2.t.vars, s17.2.t.init, s17.2.t.goal, s17.2.t.ops⟩ : Tsk), s17.2.states, q82.2.2.2.2, s17.2.costs, s17.2.fin, s17.2.exp⟩ : Sch).t.goal) q194.1) fun q215 => if q215 = true then bnd (m_registry_Registry_Path ((⟨(⟨s17.2.t.vars, s17.2.t.init, s17.2.t.goal, s17.2.t.ops⟩ : Tsk), s17.2.states, q82.2.2.2.2, s17.2.costs, s17.2.fin, s17.2.exp⟩ : Sch).states) q82.2.2.1) fun q294 => if q294.2.n ≠ 0 then (some (.brk (s17.1, (⟨(⟨s17.2.t.vars, s17.2.t.init, s17.2.t.goal, s17.2.t.ops⟩ : Tsk), s17.2.states, q82.2.2.2.2, s17.2.costs, s17.2.fin, s17.2.exp⟩ : Sch)))) else (some (.ret ((⟨1, q294.1, q82.1, (⟨(⟨s17.2.t.vars, s17.2.t.init, s17.2.t.goal, s17.2.t.ops⟩ : Tsk), s17.2.states, q82.2.2.2.2, s17.2.costs, s17.2.fin, s17.2.exp⟩ : Sch).exp⟩ : Rsl), (⟨(⟨s17.2.t.vars, s17.2.t.init, s17.2.t.goal, s17.2.t.ops⟩ : Tsk), s17.2.states, q82.2.2.2.2, s17.2.costs, s17.2.fin, s17.2.exp⟩ : Sch)))) else if x1 ≤ ((⟨(⟨s17.2.t.vars, s17.2.t.init, s17.2.t.goal, s17.2.t.ops⟩ : Tsk), s17.2.states, q82.2.2.2.2, s17.2.costs, s17.2.fin, s17.2.exp⟩ : Sch).exp) then (some (.ret ((⟨3, ([] : List Int), 0, (⟨(⟨s17.2.t.vars, s17.2.t.init, s17.2.t.goal, s17.2.t.ops⟩ : Tsk), s17.2.states, q82.2.2.2.2, s17.2.costs, s17.2.fin, s17.2.exp⟩ : Sch).exp⟩ : Rsl), (⟨(⟨s17.2.t.vars, s17.2.t.init, s17.2.t.goal, s17.2.t.ops⟩ : Tsk), s17.2.states, q82.2.2.2.2, s17.2.costs, s17.2.fin, s17.2.exp⟩ : Sch)))) else (bnd (m_stubborn_search_expand (⟨(⟨s17.2.t.vars, s17.2.t.init, s17.2.t.goal, s17.2.t.ops⟩ : Tsk), s17.2.states, q82.2.2.2.2, s17.2.costs, s17.2.fin, s17.2.exp⟩ : Sch) q82.2.2.1 q194.1) fun q237 => if q237.1.n ≠ 0 then (some (.ret ((⟨3, ([] : List Int), 0, q237.2.exp⟩ : Rsl), q237.2))) else (some (.next ((⟨(⟨s17.2.t.vars, s17.2.t.init, s17.2.t.goal, s17.2.t.ops⟩ : Tsk), s17.2.states, q82.2.2.2.2, s17.2.costs, s17.2.fin, s17.2.exp⟩ : Sch).exp, q237.2))))))) else (some (.brk (s17.1, s17.2)))) (0, x0)) fun res15 => fin res15 fun (s331 : Int × Sch) => some ((⟨2, ([] : List Int), 0, s331.2.exp⟩ : Rsl), s331.2)
theorem c_stubborn_search_run {w : World} {O : Lab} {p0 i0 : Nat} {x0 : Sch} (hx0 : Ob i0 w O (.pointer (some ⟨p0, 0, none⟩)) x0) {x1 : Int} (rx1 : inI64 x1) {r : Rsl × Sch} (hm : m_stubborn_search_run x0 x1 = some r) :
    Fn Try.prog 42 [(.pointer (some ⟨p0, 0, none⟩)), (.int .i64 x1)] w fun v w' => ∃ O', St (eT i0) w O w' O' ∧ Ob i0 w' O' (.pointer (some ⟨p0, 0, none⟩)) r.2 ∧ Vb w' (Fr 0 w' O') v r.1 := by
 obtain ⟨O0, hE, hz0, hl2⟩ := ent1 (w := w) (O := O) hx0.2
 have hx0' := Ob.leave hx0 hz0 hl2 (j := 2) (by decide)
 have hB : Bm w O0 w O0 := Bm.refl
 refine fn_enter Try.func42 rfl Try.ntmps42 rfl ?_
 unfold m_stubborn_search_run at hm
 refine ewp_seq (ewp_region (l_alloc 3 O0 rfl fun g3 w4 O5 S6 h7 => ?_))
 refine o_z ?_
 refine ewp_seq (ewp_region (o_bd rfl rfl rfl ?_))
 refine l_alloc 4 O5 rfl fun g8 w9 O10 S11 h12 => ?_
 refine l_store h12 rfl rfl rfl (Nat.le_of_ble_eq_true rfl) (by first | exact allOne rfl | simp [Value.cells, Value.oneCell', errV_one]) fun w13 S14 h12 => ?_
 replace h12 : Lc 4 w13 O10 g8 50 [(.int .i64 3), (.slice none 0 0), (.int .i64 0), (.int .i64 0)] := h12
 refine o_z ?_
 refine ewp_seq ?_
 obtain ⟨res15, hL16, hm⟩ := bs hm
 refine ewp_join (aft res15 (fun (s17 : Int × Sch) (x18 : Unit) => [(0, (.pointer (some ⟨p0, 0, none⟩))), (4, (.pointer (some ⟨g3, 0, none⟩)))]) (fun s17 x18 w' => ∃ O' : Lab, Bm w O0 w' O' ∧ Ob 2 w' O' (.pointer (some ⟨p0, 0, none⟩)) s17.2 ∧ Lc 3 w' O' g3 50 [(.int .i64 0), (.slice none 0 0), (.int .i64 0), (.int .i64 0)] ∧ inI64 s17.1)) ?_ ?_
 ·
  refine ewp_block ?_
  replace hB := ((hB.st S6).st S11).st S14
  replace hx0' := ((hx0'.st S6).st S11).st S14
  replace h7 := (h7.st S11).st S14
  refine ewp_lop (σ := Int × Sch) (X := Unit) hL16 (fun (s17 : Int × Sch) (x18 : Unit) => [(0, (.pointer (some ⟨p0, 0, none⟩))), (1, (.int .i64 x1)), (4, (.pointer (some ⟨g3, 0, none⟩))), (5, (.pointer (some ⟨g8, 0, none⟩)))]) _ (fun s17 x18 w' => ∃ O' : Lab, Bm w O0 w' O' ∧ Ob 2 w' O' (.pointer (some ⟨p0, 0, none⟩)) s17.2 ∧ Lc 3 w' O' g3 50 [(.int .i64 0), (.slice none 0 0), (.int .i64 0), (.int .i64 0)] ∧ Lc 4 w' O' g8 50 [(.int .i64 3), (.slice none 0 0), (.int .i64 0), (.int .i64 s17.1)] ∧ inI64 s17.1) _ () ⟨O10, hB, hx0', h7, h12, (show inI64 0 from by decide)⟩ ⟨rfl, rfl, rfl, rfl, trivial⟩ ?_
  rintro s17 x18 w21 cc23 ⟨O22, hB, h33, h7, h12, r32⟩ hf25 hret26 hbrk27
  refine ewp_seq (ewp_seq (ewp_region (o_mv rfl rfl (o_nc rfl rfl ?_))))
  obtain ⟨O34, v38, v42, v46, v50, v54, v57, v60, v65, S35, ha37, h36, h39, h43, h47, h51, h55, h58, h61, h66, r70⟩ := Sch.opn h33 2 5 6 7 8 (by decide)
  obtain ⟨A40, c41, rfl⟩ := h39.form
  obtain ⟨A44, c45, rfl⟩ := h43.form
  obtain ⟨A48, c49, rfl⟩ := h47.form
  obtain ⟨A52, c53, rfl⟩ := h51.form
  obtain ⟨p56, rfl⟩ := h55.ptr
  obtain ⟨p59, rfl⟩ := h58.ptr
  obtain ⟨A62, c63, rfl⟩ := h61.form
  obtain ⟨A67, c68, rfl⟩ := h66.form
  refine o_fa rfl rfl (o_ld (hc := Blk.cell (i := 5) (h36.1) rfl) rfl rfl ?_)
  obtain ⟨q71, e72, hf25⟩ := bs hf25
  refine l_callM (O := O34) (c_pqueue_Queue_Len h58 e72) rfl rfl fun v77 w73 O74 S75 h76 => ?_
  obtain ⟨h78, h79⟩ := h76
  obtain ⟨rfl, r80⟩ := h79.int
  refine o_gtS rfl rfl rfl (fun c81 => ?_) fun c81 => ?_
  ·
   replace hf25 := ip hf25 c81
   refine o_z ?_
   refine ewp_true rfl (ewp_skip (ewp_block (ewp_seq (ewp_region (o_mv rfl rfl (o_nc rfl rfl (o_fa rfl rfl ?_)))))))
   replace h36 := h36.st S75
   refine o_ld (hc := Blk.cell (i := 5) (h36.1) rfl) rfl rfl ?_
   obtain ⟨q82, e83, hf25⟩ := bs hf25
   refine l_callM (O := O74) (c_pqueue_Queue_Pop h78 e83) rfl rfl fun v88 w84 O85 S86 h87 => ?_
   obtain ⟨v90, v91, v92, v93, h89, rfl, h94, h95, h96, h97⟩ := h87
   obtain ⟨rfl, r98⟩ := h94.int
   obtain ⟨rfl, r99⟩ := h95.int
   obtain ⟨rfl, r100⟩ := h96.int
   obtain ⟨rfl, r101⟩ := h97.err
   refine o_mv rfl rfl (o_ex rfl rfl rfl (o_ex rfl rfl rfl (o_ex rfl rfl rfl (o_ex rfl rfl rfl (o_as rfl rfl (o_as rfl rfl (o_as rfl rfl (o_as rfl rfl (o_z ?_)))))))))
   refine ewp_seq (ewp_seq ?_)
   obtain ⟨y102, hy103, hf25⟩ := bs hf25
   refine ewp_join (fun l' w' => ∃ (x105 : Unit) (O' : Lab), subs l' [(0, (.pointer (some ⟨p0, 0, none⟩))), (1, (.int .i64 x1)), (4, (.pointer (some ⟨g3, 0, none⟩))), (5, (.pointer (some ⟨g8, 0, none⟩))), (6, (.int .i64 q82.1)), (8, (.int .i64 q82.2.2.1)), (51, (.bool y102))] ∧ Bm w O0 w' O' ∧ Ob 2 w' O' (.pointer (some ⟨p0, 0, none⟩)) (⟨(⟨s17.2.t.vars, s17.2.t.init, s17.2.t.goal, s17.2.t.ops⟩ : Tsk), s17.2.states, q82.2.2.2.2, s17.2.costs, s17.2.fin, s17.2.exp⟩ : Sch) ∧ Lc 3 w' O' g3 50 [(.int .i64 0), (.slice none 0 0), (.int .i64 0), (.int .i64 0)] ∧ Lc 4 w' O' g8 50 [(.int .i64 3), (.slice none 0 0), (.int .i64 0), (.int .i64 s17.1)]) ?_ ?_
   ·
    refine ewp_region (o_mv rfl rfl (o_rnS rfl rfl (fun c106 => ?_) fun c106 => ?_))
    ·
     replace hy103 := ip hy103 c106
     refine o_mv rfl rfl (owp_no rfl rfl rfl rfl (owp_no rfl rfl rfl rfl (owp_no rfl rfl rfl rfl (owp_no rfl rfl rfl rfl (owp_no rfl rfl rfl rfl (owp_no rfl rfl rfl rfl (owp_no rfl rfl rfl rfl (o_pt rfl rfl rfl (o_mv rfl rfl (owp_no rfl rfl rfl rfl (owp_no rfl rfl rfl rfl (owp_no rfl rfl rfl rfl (owp_no rfl rfl rfl rfl (owp_no rfl rfl rfl rfl ?_))))))))))))))
     refine owp_no rfl rfl rfl rfl (owp_no rfl rfl rfl rfl (owp_no rfl rfl rfl rfl (owp_no rfl rfl rfl rfl (o_pt rfl rfl rfl (o_z ?_)))))
     replace h36 := h36.st S86
     replace h39 := (h39.st S75).st S86
     replace h43 := (h43.st S75).st S86
     replace h47 := (h47.st S75).st S86
     replace h51 := (h51.st S75).st S86
     replace h55 := (h55.st S75).st S86
     replace h61 := (h61.st S75).st S86
     replace h66 := (h66.st S75).st S86
     obtain ⟨O107, S108, hz110, ha111, h109⟩ := Sch.shut (x := (⟨(⟨s17.2.t.vars, s17.2.t.init, s17.2.t.goal, s17.2.t.ops⟩ : Tsk), s17.2.states, q82.2.2.2.2, s17.2.costs, s17.2.fin, s17.2.exp⟩ : Sch)) (l0 := 2) (l1 := 5) (l2 := 6) (l3 := 7) (l4 := 8) (by decide) h36 h39 h43 h47 h51 h55 h89 h61 h66 r70
     obtain rfl := sm hy103
     replace hB := (((hB.st S35).st S75).st S86).st S108
     replace h7 := (((h7.st S35).st S75).st S86).st S108
     replace h12 := (((h12.st S35).st S75).st S86).st S108
     exact ⟨(), _, ⟨rfl, rfl, rfl, rfl, rfl, rfl, rfl, trivial⟩, hB, h109, h7, h12⟩
    ·
     replace hy103 := im hy103 c106
     refine o_mv rfl rfl (owp_yes rfl rfl (o_mv rfl rfl (owp_yes rfl rfl (o_nc rfl rfl (owp_yes rfl rfl (o_fa rfl rfl (owp_yes rfl rfl ?_)))))))
     replace h36 := h36.st S86
     refine o_ld (hc := Blk.cell (i := 7) (h36.1) rfl) rfl rfl ?_
     refine owp_yes rfl rfl (o_mv rfl rfl (owp_yes rfl rfl ?_))
     obtain ⟨a112, e113, hy103⟩ := bs hy103
     obtain ⟨p115, x114⟩ := atI_some' e113
     replace h66 := (h66.st S75).st S86
     obtain ⟨b116, o117, ce118, hA119, hl120, hd121, rfl⟩ := h66.elem x114
     refine o_iaE (hA := hA119) (hj := (Int.toNat_of_nonneg p115).symm) (hlt := hl120) rfl rfl rfl ?_
     refine owp_yes rfl rfl (o_ld (hc := cat0 hd121) rfl rfl ?_)
     refine o_pf rfl rfl rfl (o_mv rfl rfl ?_)
     rcases Bool.eq_false_or_eq_true a112 with c123 | c123
     ·
      try rw [c123]
      replace hy103 := ip hy103 c123
      refine owp_no rfl rfl rfl rfl (owp_no rfl rfl rfl rfl (owp_no rfl rfl rfl rfl (owp_no rfl rfl rfl rfl (owp_no rfl rfl rfl rfl (owp_no rfl rfl rfl rfl (owp_no rfl rfl rfl rfl (owp_no rfl rfl rfl rfl (owp_no rfl rfl rfl rfl (o_pt rfl rfl rfl (o_z ?_))))))))))
      replace h39 := (h39.st S75).st S86
      replace h43 := (h43.st S75).st S86
      replace h47 := (h47.st S75).st S86
      replace h51 := (h51.st S75).st S86
      replace h55 := (h55.st S75).st S86
      replace h61 := (h61.st S75).st S86
      obtain ⟨O124, S125, hz127, ha128, h126⟩ := Sch.shut (x := (⟨(⟨s17.2.t.vars, s17.2.t.init, s17.2.t.goal, s17.2.t.ops⟩ : Tsk), s17.2.states, q82.2.2.2.2, s17.2.costs, s17.2.fin, s17.2.exp⟩ : Sch)) (l0 := 2) (l1 := 5) (l2 := 6) (l3 := 7) (l4 := 8) (by decide) h36 h39 h43 h47 h51 h55 h89 h61 h66 r70
      obtain rfl := sm hy103
      replace hB := (((hB.st S35).st S75).st S86).st S125
      replace h7 := (((h7.st S35).st S75).st S86).st S125
      replace h12 := (((h12.st S35).st S75).st S86).st S125
      exact ⟨(), _, ⟨rfl, rfl, rfl, rfl, rfl, rfl, rfl, trivial⟩, hB, h126, h7, h12⟩
     ·
      try rw [c123]
      replace hy103 := im' hy103 c123
      refine owp_yes rfl rfl (o_mv rfl rfl (owp_yes rfl rfl (o_mv rfl rfl (owp_yes rfl rfl (o_nc rfl rfl (owp_yes rfl rfl (o_fa rfl rfl (owp_yes rfl rfl (o_ld (hc := Blk.cell (i := 6) (h36.1) rfl) rfl rfl ?_)))))))))
      refine owp_yes rfl rfl (o_mv rfl rfl (owp_yes rfl rfl ?_))
      obtain ⟨a129, e130, hy103⟩ := bs hy103
      obtain ⟨p132, x131⟩ := atI_some' e130
      replace h61 := (h61.st S75).st S86
      obtain ⟨b133, o134, ce135, hA136, hl137, hd138, rfl, r140⟩ := h61.elem x131
      refine o_iaE (hA := hA136) (hj := (Int.toNat_of_nonneg p132).symm) (hlt := hl137) rfl rfl rfl ?_
      refine owp_yes rfl rfl (o_ld (hc := cat0 hd138) rfl rfl ?_)
      refine owp_yes rfl rfl (o_neS rfl rfl rfl (fun c141 => ?_) fun c141 => ?_)
      ·
       replace hy103 := ip hy103 c141
       refine o_pf rfl rfl rfl (o_z ?_)
       replace h39 := (h39.st S75).st S86
       replace h43 := (h43.st S75).st S86
       replace h47 := (h47.st S75).st S86
       replace h51 := (h51.st S75).st S86
       replace h55 := (h55.st S75).st S86
       obtain ⟨O142, S143, hz145, ha146, h144⟩ := Sch.shut (x := (⟨(⟨s17.2.t.vars, s17.2.t.init, s17.2.t.goal, s17.2.t.ops⟩ : Tsk), s17.2.states, q82.2.2.2.2, s17.2.costs, s17.2.fin, s17.2.exp⟩ : Sch)) (l0 := 2) (l1 := 5) (l2 := 6) (l3 := 7) (l4 := 8) (by decide) h36 h39 h43 h47 h51 h55 h89 h61 h66 r70
       obtain rfl := sm hy103
       replace hB := (((hB.st S35).st S75).st S86).st S143
       replace h7 := (((h7.st S35).st S75).st S86).st S143
       replace h12 := (((h12.st S35).st S75).st S86).st S143
       exact ⟨(), _, ⟨rfl, rfl, rfl, rfl, rfl, rfl, rfl, trivial⟩, hB, h144, h7, h12⟩
      ·
       replace hy103 := im hy103 c141
       refine o_pf rfl rfl rfl (o_z ?_)
       replace h39 := (h39.st S75).st S86
       replace h43 := (h43.st S75).st S86
       replace h47 := (h47.st S75).st S86
       replace h51 := (h51.st S75).st S86
       replace h55 := (h55.st S75).st S86
       obtain ⟨O147, S148, hz150, ha151, h149⟩ := Sch.shut (x := (⟨(⟨s17.2.t.vars, s17.2.t.init, s17.2.t.goal, s17.2.t.ops⟩ : Tsk), s17.2.states, q82.2.2.2.2, s17.2.costs, s17.2.fin, s17.2.exp⟩ : Sch)) (l0 := 2) (l1 := 5) (l2 := 6) (l3 := 7) (l4 := 8) (by decide) h36 h39 h43 h47 h51 h55 h89 h61 h66 r70
       obtain rfl := sm hy103
       replace hB := (((hB.st S35).st S75).st S86).st S148
       replace h7 := (((h7.st S35).st S75).st S86).st S148
       replace h12 := (((h12.st S35).st S75).st S86).st S148
       exact ⟨(), _, ⟨rfl, rfl, rfl, rfl, rfl, rfl, rfl, trivial⟩, hB, h149, h7, h12⟩
   replace hB := ((hB.st S35).st S75).st S86
   replace h7 := ((h7.st S35).st S75).st S86
   replace h12 := ((h12.st S35).st S75).st S86
   rintro l152 w153 ⟨x105, O154, hs155, hB, h105, h7, h12⟩
   refine ewp_sub _ hs155 ?_
   refine ewp_cond rfl (fun c156 => ?_) (fun c156 => ?_)
   ·
    replace hf25 := ip hf25 c156
    refine ewp_exit ?_
    obtain rfl := sm hf25
    refine (?_ : Exists _)
    exact ⟨_, (), rfl, ⟨rfl, rfl, rfl, rfl, trivial⟩, _, hB, h105, h7, h12, r32⟩
   ·
    replace hf25 := im' hf25 c156
    refine ewp_skip (ewp_seq (ewp_region (o_mv rfl rfl (o_nc rfl rfl ?_))))
    obtain ⟨O157, v161, v165, v169, v173, v177, v180, v183, v188, S158, ha160, h159, h162, h166, h170, h174, h178, h181, h184, h189, r193⟩ := Sch.opn h105 2 5 6 7 8 (by decide)
    obtain ⟨A163, c164, rfl⟩ := h162.form
    obtain ⟨A167, c168, rfl⟩ := h166.form
    obtain ⟨A171, c172, rfl⟩ := h170.form
    obtain ⟨A175, c176, rfl⟩ := h174.form
    obtain ⟨p179, rfl⟩ := h178.ptr
    obtain ⟨p182, rfl⟩ := h181.ptr
    obtain ⟨A185, c186, rfl⟩ := h184.form
    obtain ⟨A190, c191, rfl⟩ := h189.form
    refine o_fa rfl rfl (o_ld (hc := Blk.cell (i := 4) (h159.1) rfl) rfl rfl ?_)
    refine o_mv rfl rfl ?_
    obtain ⟨q194, e195, hf25⟩ := bs hf25
    refine l_callM (O := O157) (c_registry_Registry_State h178 r100 e195) rfl rfl fun v200 w196 O197 S198 h199 => ?_
    obtain ⟨v202, v203, h201, rfl, h204, h205⟩ := h199
    obtain ⟨A206, c207, rfl⟩ := h204.form
    obtain ⟨rfl, r208⟩ := h205.err
    refine o_mv rfl rfl (o_ex rfl rfl rfl (o_ex rfl rfl rfl (o_as rfl rfl (o_as rfl rfl (o_z ?_)))))
    refine ewp_seq (ewp_seq (ewp_region (o_mv rfl rfl (o_rnS rfl rfl (fun c209 => ?_) fun c209 => ?_))))
    ·
     replace hf25 := ip hf25 c209
     refine o_z ?_
     refine ewp_true rfl (ewp_exit ?_)
     replace h159 := h159.st S198
     replace h162 := h162.st S198
     replace h166 := h166.st S198
     replace h170 := h170.st S198
     replace h174 := h174.st S198
     replace h181 := h181.st S198
     replace h184 := h184.st S198
     replace h189 := h189.st S198
     obtain ⟨O210, S211, hz213, ha214, h212⟩ := Sch.shut (x := (⟨(⟨s17.2.t.vars, s17.2.t.init, s17.2.t.goal, s17.2.t.ops⟩ : Tsk), s17.2.states, q82.2.2.2.2, s17.2.costs, s17.2.fin, s17.2.exp⟩ : Sch)) (l0 := 2) (l1 := 5) (l2 := 6) (l3 := 7) (l4 := 8) (by decide) h159 h162 h166 h170 h174 h201 h181 h184 h189 r193
     obtain rfl := sm hf25
     refine (?_ : Exists _)
     replace hB := ((hB.st S158).st S198).st S211
     replace h7 := ((h7.st S158).st S198).st S211
     exact ⟨_, (), hbrk27 _ rfl, ⟨rfl, rfl, trivial⟩, _, hB, h212, h7, r32⟩
    ·
     replace hf25 := im hf25 c209
     refine o_z ?_
     refine ewp_false rfl (ewp_skip (ewp_seq (ewp_seq (ewp_region (o_mv rfl rfl (o_nc rfl rfl (o_fa rfl rfl (o_fa rfl rfl ?_))))))))
     replace h159 := h159.st S198
     refine o_ld (hc := Blk.cell (i := 2) (h159.1) rfl) rfl rfl ?_
     refine o_mv rfl rfl ?_
     obtain ⟨q215, e216, hf25⟩ := bs hf25
     replace h170 := h170.st S198
     refine l_callA (O := O197) (A := All w196) (R := fun w' F v => Vb w' F v q215) (c_task_Holds (fun _ h => h) (Vb.mono (F := Fr 0 w196 O197) h170 Fr.lt) (Vb.mono (F := Fr 0 w196 O197) h204 Fr.lt) e216) rfl rfl fun v221 w217 O218 S219 h220 => ?_
     obtain rfl := h220.bool
     cases q215
     case false =>
      replace hf25 := iF hf25
      refine o_z ?_
      refine ewp_false rfl (ewp_skip (ewp_seq (ewp_region (o_mv rfl rfl (o_nc rfl rfl (o_fa rfl rfl ?_))))))
      replace h159 := h159.st S219
      refine o_ld (hc := Blk.cell (i := 8) (h159.1) rfl) rfl rfl ?_
      refine o_fa rfl rfl ?_
      replace h12 := ((h12.st S158).st S198).st S219
      refine l_store h12 rfl rfl rfl (Nat.le_of_ble_eq_true rfl) (by first | exact allOne rfl | simp [Value.cells, Value.oneCell', errV_one]) fun w222 S223 h12 => ?_
      replace h12 : Lc 4 w222 O218 g8 50 [(.int .i64 3), (.slice none 0 0), (.int .i64 0), (.int .i64 ((⟨(⟨s17.2.t.vars, s17.2.t.init, s17.2.t.goal, s17.2.t.ops⟩ : Tsk), s17.2.states, q82.2.2.2.2, s17.2.costs, s17.2.fin, s17.2.exp⟩ : Sch).exp))] := h12
      refine o_z ?_
      refine ewp_seq (ewp_seq (ewp_region (o_mv rfl rfl (o_nc rfl rfl (o_fa rfl rfl ?_)))))
      replace h159 := h159.st S223
      refine o_ld (hc := Blk.cell (i := 8) (h159.1) rfl) rfl rfl ?_
      refine o_mv rfl rfl (o_geS rfl rfl rfl (fun c224 => ?_) fun c224 => ?_)
      ·
       replace hf25 := ip hf25 c224
       refine o_z ?_
       refine ewp_true rfl (ewp_seq (ewp_region (o_la (hl := rfl) (hc := (h12.1).cellsAt) rfl rfl ?_)))
       replace h7 := (((h7.st S158).st S198).st S219).st S223
       refine l_store h7 rfl rfl rfl (Nat.le_of_ble_eq_true rfl) (by first | exact allOne rfl | simp [Value.cells, Value.oneCell', errV_one]) fun w225 S226 h7 => ?_
       replace h7 : Lc 3 w225 O218 g3 50 [(.int .i64 3), (.slice none 0 0), (.int .i64 0), (.int .i64 ((⟨(⟨s17.2.t.vars, s17.2.t.init, s17.2.t.goal, s17.2.t.ops⟩ : Tsk), s17.2.states, q82.2.2.2.2, s17.2.costs, s17.2.fin, s17.2.exp⟩ : Sch).exp))] := h7
       refine o_z ?_
       refine ewp_ret ?_
       replace h159 := h159.st S226
       replace h162 := (((h162.st S198).st S219).st S223).st S226
       replace h166 := (((h166.st S198).st S219).st S223).st S226
       replace h170 := ((h170.st S219).st S223).st S226
       replace h174 := (((h174.st S198).st S219).st S223).st S226
       replace h181 := (((h181.st S198).st S219).st S223).st S226
       replace h184 := (((h184.st S198).st S219).st S223).st S226
       replace h189 := (((h189.st S198).st S219).st S223).st S226
       replace h201 := ((h201.st S219).st S223).st S226
       obtain ⟨O227, S228, hz230, ha231, h229⟩ := Sch.shut (x := (⟨(⟨s17.2.t.vars, s17.2.t.init, s17.2.t.goal, s17.2.t.ops⟩ : Tsk), s17.2.states, q82.2.2.2.2, s17.2.costs, s17.2.fin, s17.2.exp⟩ : Sch)) (l0 := 2) (l1 := 5) (l2 := 6) (l3 := 7) (l4 := 8) (by decide) h159 h162 h166 h170 h174 h201 h181 h184 h189 r193
       obtain rfl := sm hf25
       obtain rfl := hret26 _ rfl
       obtain rfl := sm (fin_ret hm)
       replace hB := (((((hB.st S158).st S198).st S219).st S223).st S226).st S228
       obtain ⟨O', hS', hz, hl⟩ := hE.leave (fun q => if q = 2 then i0 else 0) rfl hB
       replace h7 := h7.st S228
       exact ret1v rfl (res_cell (cs := [(.int .i64 3), (.slice none 0 0), (.int .i64 0), (.int .i64 ((⟨(⟨s17.2.t.vars, s17.2.t.init, s17.2.t.goal, s17.2.t.ops⟩ : Tsk), s17.2.states, q82.2.2.2.2, s17.2.costs, s17.2.fin, s17.2.exp⟩ : Sch).exp))]) rfl rfl h7.1.cellsAt) ⟨O', hS', (Ob.leave h229 hz (hl 2 (by decide) (by decide)) hx0.2), (Vb.mono (Vb.ofAgg (cs := [(.int .i64 3), (.slice none 0 0), (.int .i64 0), (.int .i64 ((⟨(⟨s17.2.t.vars, s17.2.t.init, s17.2.t.goal, s17.2.t.ops⟩ : Tsk), s17.2.states, q82.2.2.2.2, s17.2.costs, s17.2.fin, s17.2.exp⟩ : Sch).exp))]) (x := (⟨3, ([] : List Int), 0, (⟨(⟨s17.2.t.vars, s17.2.t.init, s17.2.t.goal, s17.2.t.ops⟩ : Tsk), s17.2.states, q82.2.2.2.2, s17.2.costs, s17.2.fin, s17.2.exp⟩ : Sch).exp⟩ : Rsl)) rfl ⟨_, rfl, (Vb.nil _ _), (show inI64 (3) from by decide), (show inI64 0 from by decide), r193⟩) hz)⟩
      ·
       replace hf25 := im hf25 c224
       refine o_z ?_
       refine ewp_false rfl (ewp_skip (ewp_seq (ewp_region (o_mv rfl rfl (o_mv rfl rfl (o_mv rfl rfl ?_))))))
       replace h162 := ((h162.st S198).st S219).st S223
       replace h166 := ((h166.st S198).st S219).st S223
       replace h170 := (h170.st S219).st S223
       replace h174 := ((h174.st S198).st S219).st S223
       replace h181 := ((h181.st S198).st S219).st S223
       replace h184 := ((h184.st S198).st S219).st S223
       replace h189 := ((h189.st S198).st S219).st S223
       replace h201 := (h201.st S219).st S223
       obtain ⟨O232, S233, hz235, ha236, h234⟩ := Sch.shut (x := (⟨(⟨s17.2.t.vars, s17.2.t.init, s17.2.t.goal, s17.2.t.ops⟩ : Tsk), s17.2.states, q82.2.2.2.2, s17.2.costs, s17.2.fin, s17.2.exp⟩ : Sch)) (l0 := 2) (l1 := 5) (l2 := 6) (l3 := 7) (l4 := 8) (by decide) h159 h162 h166 h170 h174 h201 h181 h184 h189 r193
       obtain ⟨q237, e238, hf25⟩ := bs hf25
       replace h204 := ((h204.st S219).st S223).st S233
       refine l_callM (O := O232) (c_stubborn_search_expand h234 r100 h204 e238) rfl rfl fun v243 w239 O240 S241 h242 => ?_
       obtain ⟨h244, h245⟩ := h242
       obtain ⟨rfl, r246⟩ := h245.err
       refine o_rnS rfl rfl (fun c247 => ?_) fun c247 => ?_
       ·
        replace hf25 := ip hf25 c247
        refine o_z ?_
        refine ewp_true rfl (ewp_seq (ewp_region (o_mv rfl rfl (o_nc rfl rfl ?_))))
        obtain ⟨O248, v252, v256, v260, v264, v268, v271, v274, v279, S249, ha251, h250, h253, h257, h261, h265, h269, h272, h275, h280, r284⟩ := Sch.opn h244 2 5 6 7 8 (by decide)
        obtain ⟨A254, c255, rfl⟩ := h253.form
        obtain ⟨A258, c259, rfl⟩ := h257.form
        obtain ⟨A262, c263, rfl⟩ := h261.form
        obtain ⟨A266, c267, rfl⟩ := h265.form
        obtain ⟨p270, rfl⟩ := h269.ptr
        obtain ⟨p273, rfl⟩ := h272.ptr
        obtain ⟨A276, c277, rfl⟩ := h275.form
        obtain ⟨A281, c282, rfl⟩ := h280.form
        refine o_fa rfl rfl (o_ld (hc := Blk.cell (i := 8) (h250.1) rfl) rfl rfl ?_)
        refine o_fa rfl rfl ?_
        replace h12 := ((h12.st S233).st S241).st S249
        refine l_store h12 rfl rfl rfl (Nat.le_of_ble_eq_true rfl) (by first | exact allOne rfl | simp [Value.cells, Value.oneCell', errV_one]) fun w285 S286 h12 => ?_
        replace h12 : Lc 4 w285 O248 g8 50 [(.int .i64 3), (.slice none 0 0), (.int .i64 0), (.int .i64 q237.2.exp)] := h12
        refine o_z ?_
        refine ewp_seq (ewp_region (o_la (hl := rfl) (hc := (h12.1).cellsAt) rfl rfl ?_))
        replace h7 := (((((((h7.st S158).st S198).st S219).st S223).st S233).st S241).st S249).st S286
        refine l_store h7 rfl rfl rfl (Nat.le_of_ble_eq_true rfl) (by first | exact allOne rfl | simp [Value.cells, Value.oneCell', errV_one]) fun w287 S288 h7 => ?_
        replace h7 : Lc 3 w287 O248 g3 50 [(.int .i64 3), (.slice none 0 0), (.int .i64 0), (.int .i64 q237.2.exp)] := h7
        refine o_z ?_
        refine ewp_ret ?_
        replace h250 := (h250.st S286).st S288
        replace h253 := (h253.st S286).st S288
        replace h257 := (h257.st S286).st S288
        replace h261 := (h261.st S286).st S288
        replace h265 := (h265.st S286).st S288
        replace h269 := (h269.st S286).st S288
        replace h272 := (h272.st S286).st S288
        replace h275 := (h275.st S286).st S288
        replace h280 := (h280.st S286).st S288
        obtain ⟨O289, S290, hz292, ha293, h291⟩ := Sch.shut (x := q237.2) (l0 := 2) (l1 := 5) (l2 := 6) (l3 := 7) (l4 := 8) (by decide) h250 h253 h257 h261 h265 h269 h272 h275 h280 r284
        obtain rfl := sm hf25
        obtain rfl := hret26 _ rfl
        obtain rfl := sm (fin_ret hm)
        replace hB := (((((((((hB.st S158).st S198).st S219).st S223).st S233).st S241).st S249).st S286).st S288).st S290
        obtain ⟨O', hS', hz, hl⟩ := hE.leave (fun q => if q = 2 then i0 else 0) rfl hB
        replace h7 := h7.st S290
        exact ret1v rfl (res_cell (cs := [(.int .i64 3), (.slice none 0 0), (.int .i64 0), (.int .i64 q237.2.exp)]) rfl rfl h7.1.cellsAt) ⟨O', hS', (Ob.leave h291 hz (hl 2 (by decide) (by decide)) hx0.2), (Vb.mono (Vb.ofAgg (cs := [(.int .i64 3), (.slice none 0 0), (.int .i64 0), (.int .i64 q237.2.exp)]) (x := (⟨3, ([] : List Int), 0, q237.2.exp⟩ : Rsl)) rfl ⟨_, rfl, (Vb.nil _ _), (show inI64 (3) from by decide), (show inI64 0 from by decide), r284⟩) hz)⟩
       ·
        replace hf25 := im hf25 c247
        refine o_z ?_
        refine ewp_false rfl (ewp_skip ?_)
        obtain rfl := sm hf25
        refine (?_ : Exists _)
        replace hB := (((((hB.st S158).st S198).st S219).st S223).st S233).st S241
        replace h7 := (((((h7.st S158).st S198).st S219).st S223).st S233).st S241
        replace h12 := (h12.st S233).st S241
        exact ⟨_, (), rfl, ⟨rfl, rfl, rfl, rfl, trivial⟩, _, hB, h244, h7, h12, r193⟩
     replace hf25 := iT hf25
     refine o_z ?_
     refine ewp_true rfl (ewp_seq (ewp_region (o_mv rfl rfl (o_nc rfl rfl (o_fa rfl rfl ?_)))))
     replace h159 := h159.st S219
     refine o_ld (hc := Blk.cell (i := 4) (h159.1) rfl) rfl rfl ?_
     refine o_mv rfl rfl ?_
     obtain ⟨q294, e295, hf25⟩ := bs hf25
     replace h201 := h201.st S219
     refine l_callM (O := O218) (c_registry_Registry_Path h201 r100 e295) rfl rfl fun v300 w296 O297 S298 h299 => ?_
     obtain ⟨v302, v303, h301, rfl, h304, h305⟩ := h299
     obtain ⟨A306, c307, rfl⟩ := h304.form
     obtain ⟨rfl, r308⟩ := h305.err
     refine o_mv rfl rfl (o_ex rfl rfl rfl (o_ex rfl rfl rfl (o_as rfl rfl (o_as rfl rfl (o_z ?_)))))
     refine ewp_seq (ewp_seq (ewp_region (o_mv rfl rfl (o_rnS rfl rfl (fun c309 => ?_) fun c309 => ?_))))
     ·
      replace hf25 := ip hf25 c309
      refine o_z ?_
      refine ewp_true rfl (ewp_exit ?_)
      replace h159 := h159.st S298
      replace h162 := ((h162.st S198).st S219).st S298
      replace h166 := ((h166.st S198).st S219).st S298
      replace h170 := (h170.st S219).st S298
      replace h174 := ((h174.st S198).st S219).st S298
      replace h181 := ((h181.st S198).st S219).st S298
      replace h184 := ((h184.st S198).st S219).st S298
      replace h189 := ((h189.st S198).st S219).st S298
      obtain ⟨O310, S311, hz313, ha314, h312⟩ := Sch.shut (x := (⟨(⟨s17.2.t.vars, s17.2.t.init, s17.2.t.goal, s17.2.t.ops⟩ : Tsk), s17.2.states, q82.2.2.2.2, s17.2.costs, s17.2.fin, s17.2.exp⟩ : Sch)) (l0 := 2) (l1 := 5) (l2 := 6) (l3 := 7) (l4 := 8) (by decide) h159 h162 h166 h170 h174 h301 h181 h184 h189 r193
      obtain rfl := sm hf25
      refine (?_ : Exists _)
      replace hB := ((((hB.st S158).st S198).st S219).st S298).st S311
      replace h7 := ((((h7.st S158).st S198).st S219).st S298).st S311
      exact ⟨_, (), hbrk27 _ rfl, ⟨rfl, rfl, trivial⟩, _, hB, h312, h7, r32⟩
     ·
      replace hf25 := im hf25 c309
      refine o_z ?_
      refine ewp_false rfl (ewp_skip (ewp_seq (ewp_region (o_mv rfl rfl (o_mv rfl rfl (o_mv rfl rfl (o_nc rfl rfl (o_fa rfl rfl ?_))))))))
      replace h159 := h159.st S298
      refine o_ld (hc := Blk.cell (i := 8) (h159.1) rfl) rfl rfl ?_
      refine o_bd rfl rfl rfl ?_
      replace h7 := (((h7.st S158).st S198).st S219).st S298
      refine l_store h7 rfl rfl rfl (Nat.le_of_ble_eq_true rfl) (by first | exact allOne rfl | simp [Value.cells, Value.oneCell', errV_one]) fun w315 S316 h7 => ?_
      replace h7 : Lc 3 w315 O297 g3 50 [(.int .i64 1), (.slice A306 q294.1.length c307), (.int .i64 q82.1), (.int .i64 ((⟨(⟨s17.2.t.vars, s17.2.t.init, s17.2.t.goal, s17.2.t.ops⟩ : Tsk), s17.2.states, q82.2.2.2.2, s17.2.costs, s17.2.fin, s17.2.exp⟩ : Sch).exp))] := h7
      refine o_z ?_
      refine ewp_ret ?_
      replace h159 := h159.st S316
      replace h162 := (((h162.st S198).st S219).st S298).st S316
      replace h166 := (((h166.st S198).st S219).st S298).st S316
      replace h170 := ((h170.st S219).st S298).st S316
      replace h174 := (((h174.st S198).st S219).st S298).st S316
      replace h181 := (((h181.st S198).st S219).st S298).st S316
      replace h184 := (((h184.st S198).st S219).st S298).st S316
      replace h189 := (((h189.st S198).st S219).st S298).st S316
      replace h301 := h301.st S316
      obtain ⟨O317, S318, hz320, ha321, h319⟩ := Sch.shut (x := (⟨(⟨s17.2.t.vars, s17.2.t.init, s17.2.t.goal, s17.2.t.ops⟩ : Tsk), s17.2.states, q82.2.2.2.2, s17.2.costs, s17.2.fin, s17.2.exp⟩ : Sch)) (l0 := 2) (l1 := 5) (l2 := 6) (l3 := 7) (l4 := 8) (by decide) h159 h162 h166 h170 h174 h301 h181 h184 h189 r193
      obtain rfl := sm hf25
      obtain rfl := hret26 _ rfl
      obtain rfl := sm (fin_ret hm)
      replace hB := (((((hB.st S158).st S198).st S219).st S298).st S316).st S318
      obtain ⟨O', hS', hz, hl⟩ := hE.leave (fun q => if q = 2 then i0 else 0) rfl hB
      replace h7 := h7.st S318
      replace h304 := (h304.st S316).st S318
      exact ret1v rfl (res_cell (cs := [(.int .i64 1), (.slice A306 q294.1.length c307), (.int .i64 q82.1), (.int .i64 ((⟨(⟨s17.2.t.vars, s17.2.t.init, s17.2.t.goal, s17.2.t.ops⟩ : Tsk), s17.2.states, q82.2.2.2.2, s17.2.costs, s17.2.fin, s17.2.exp⟩ : Sch).exp))]) rfl rfl h7.1.cellsAt) ⟨O', hS', (Ob.leave h319 hz (hl 2 (by decide) (by decide)) hx0.2), (Vb.mono (Vb.ofAgg (cs := [(.int .i64 1), (.slice A306 q294.1.length c307), (.int .i64 q82.1), (.int .i64 ((⟨(⟨s17.2.t.vars, s17.2.t.init, s17.2.t.goal, s17.2.t.ops⟩ : Tsk), s17.2.states, q82.2.2.2.2, s17.2.costs, s17.2.fin, s17.2.exp⟩ : Sch).exp))]) (x := (⟨1, q294.1, q82.1, (⟨(⟨s17.2.t.vars, s17.2.t.init, s17.2.t.goal, s17.2.t.ops⟩ : Tsk), s17.2.states, q82.2.2.2.2, s17.2.costs, s17.2.fin, s17.2.exp⟩ : Sch).exp⟩ : Rsl)) rfl ⟨_, rfl, h304, (show inI64 (1) from by decide), r98, r193⟩) hz)⟩
  ·
   replace hf25 := im hf25 c81
   refine o_z ?_
   refine ewp_false rfl (ewp_exit ?_)
   replace h36 := h36.st S75
   replace h39 := h39.st S75
   replace h43 := h43.st S75
   replace h47 := h47.st S75
   replace h51 := h51.st S75
   replace h55 := h55.st S75
   replace h61 := h61.st S75
   replace h66 := h66.st S75
   obtain ⟨O322, S323, hz325, ha326, h324⟩ := Sch.shut (x := s17.2) (l0 := 2) (l1 := 5) (l2 := 6) (l3 := 7) (l4 := 8) (by decide) h36 h39 h43 h47 h51 h55 h78 h61 h66 r70
   obtain rfl := sm hf25
   refine (?_ : Exists _)
   replace hB := ((hB.st S35).st S75).st S323
   replace h7 := ((h7.st S35).st S75).st S323
   exact ⟨_, (), hbrk27 _ rfl, ⟨rfl, rfl, trivial⟩, _, hB, h324, h7, r32⟩
 replace hB := ((hB.st S6).st S11).st S14
 replace h7 := (h7.st S11).st S14
 rintro l327 w328 ⟨s331, x332, rfl, hs330, O329, hB, h33, h7, r32⟩
 replace hm := fin_done hm
 refine ewp_sub _ hs330 ?_
 refine ewp_seq (ewp_region (o_mv rfl rfl (o_nc rfl rfl ?_)))
 obtain ⟨O333, v337, v341, v345, v349, v353, v356, v359, v364, S334, ha336, h335, h338, h342, h346, h350, h354, h357, h360, h365, r369⟩ := Sch.opn h33 2 5 6 7 8 (by decide)
 obtain ⟨A339, c340, rfl⟩ := h338.form
 obtain ⟨A343, c344, rfl⟩ := h342.form
 obtain ⟨A347, c348, rfl⟩ := h346.form
 obtain ⟨A351, c352, rfl⟩ := h350.form
 obtain ⟨p355, rfl⟩ := h354.ptr
 obtain ⟨p358, rfl⟩ := h357.ptr
 obtain ⟨A361, c362, rfl⟩ := h360.form
 obtain ⟨A366, c367, rfl⟩ := h365.form
 refine o_fa rfl rfl (o_ld (hc := Blk.cell (i := 8) (h335.1) rfl) rfl rfl ?_)
 refine o_bd rfl rfl rfl ?_
 replace h7 := h7.st S334
 refine l_store h7 rfl rfl rfl (Nat.le_of_ble_eq_true rfl) (by first | exact allOne rfl | simp [Value.cells, Value.oneCell', errV_one]) fun w370 S371 h7 => ?_
 replace h7 : Lc 3 w370 O333 g3 50 [(.int .i64 2), (.slice none 0 0), (.int .i64 0), (.int .i64 s331.2.exp)] := h7
 refine o_z ?_
 refine ewp_ret ?_
 replace h335 := h335.st S371
 replace h338 := h338.st S371
 replace h342 := h342.st S371
 replace h346 := h346.st S371
 replace h350 := h350.st S371
 replace h354 := h354.st S371
 replace h357 := h357.st S371
 replace h360 := h360.st S371
 replace h365 := h365.st S371
 obtain ⟨O372, S373, hz375, ha376, h374⟩ := Sch.shut (x := s331.2) (l0 := 2) (l1 := 5) (l2 := 6) (l3 := 7) (l4 := 8) (by decide) h335 h338 h342 h346 h350 h354 h357 h360 h365 r369
 obtain rfl := sm hm
 replace hB := ((hB.st S334).st S371).st S373
 obtain ⟨O', hS', hz, hl⟩ := hE.leave (fun q => if q = 2 then i0 else 0) rfl hB
 replace h7 := h7.st S373
 exact ret1v rfl (res_cell (cs := [(.int .i64 2), (.slice none 0 0), (.int .i64 0), (.int .i64 s331.2.exp)]) rfl rfl h7.1.cellsAt) ⟨O', hS', (Ob.leave h374 hz (hl 2 (by decide) (by decide)) hx0.2), (Vb.mono (Vb.ofAgg (cs := [(.int .i64 2), (.slice none 0 0), (.int .i64 0), (.int .i64 s331.2.exp)]) (x := (⟨2, ([] : List Int), 0, s331.2.exp⟩ : Rsl)) rfl ⟨_, rfl, (Vb.nil _ _), (show inI64 (2) from by decide), (show inI64 0 from by decide), r369⟩) hz)⟩
noncomputable def m_stubborn_Search (x0 : Tsk) (x1 : Int) : Option (Rsl × Err) :=
  bnd (m_task_Check x0) fun q30 => if q30.n ≠ 0 then (some ((⟨0, ([] : List Int), 0, 0⟩ : Rsl), (⟨q30.n⟩ : Err))) else (bnd (m_registry_New x0.vars) fun q41 => if q41.2.n ≠ 0 then (some ((⟨0, ([] : List Int), 0, 0⟩ : Rsl), (⟨q41.2.n⟩ : Err))) else (bnd (m_pqueue_New) fun q56 => bnd q41.1 fun o64 => bnd q56 fun o67 => bnd (m_stubborn_search_reach (⟨(⟨x0.vars, x0.init, x0.goal, x0.ops⟩ : Tsk), o64, o67, ([] : List Int), ([] : List Bool), 0⟩ : Sch) x0.init (-1) (-1) 0) fun q84 => if q84.1.n ≠ 0 then (some ((⟨0, ([] : List Int), 0, 0⟩ : Rsl), (⟨q84.1.n⟩ : Err))) else (bnd (m_stubborn_search_run q84.2 (max x1 0)) fun q97 => some (q97.1, (⟨0⟩ : Err)))))
theorem c_stubborn_Search {w : World} {A : Nat → Prop} (hA : ∀ k, A k → k < w.heap.size) {vx0 : Value} {x0 : Tsk} (hx0 : Vb w A vx0 x0) {x1 : Int} (rx1 : inI64 x1) {r : Rsl × Err} (hm : m_stubborn_Search x0 x1 = some r) :
    Fn Try.prog 22 [vx0, (.int .i64 x1)] w fun v w' => Ext w w' ∧ T2 w' (upA A w w') v r := by
 obtain ⟨O, hB, hA0⟩ := enter hA
 replace hx0 := hx0.mono hA0
 obtain ⟨cs3, rfl, v4, v5, v6, v7, rfl, h8, h11, h14, h17⟩ := hx0
 obtain ⟨A9, c10, rfl⟩ := h8.form
 obtain ⟨A12, c13, rfl⟩ := h11.form
 obtain ⟨A15, c16, rfl⟩ := h14.form
 obtain ⟨A18, c19, rfl⟩ := h17.form
 refine fn_enter Try.func22 rfl Try.ntmps22 rfl ?_
 unfold m_stubborn_Search at hm
 refine ewp_seq (ewp_region (l_box 2 O rfl rfl fun g20 w21 O22 S23 h24 => ?_))
 replace h24 : Lc 2 w21 O22 g20 26 [(.slice A9 x0.vars.length c10), (.slice A12 x0.init.length c13), (.slice A15 x0.goal.length c16), (.slice A18 x0.ops.length c19)] := h24
 refine l_alloc 3 O22 rfl fun g25 w26 O27 S28 h29 => ?_
 refine o_as rfl rfl (o_z ?_)
 refine ewp_seq (ewp_seq (ewp_region ?_))
 replace h24 := h24.st S28
 refine o_la (hl := rfl) (hc := (h24.1).cellsAt) rfl rfl ?_
 obtain ⟨q30, e31, hm⟩ := bs hm
 replace h8 := (h8.st S23).st S28
 replace h11 := (h11.st S23).st S28
 replace h14 := (h14.st S23).st S28
 replace h17 := (h17.st S23).st S28
 refine l_callA (O := O27) (A := All w26) (R := fun w' F v => Vb w' F v q30) (c_task_Check (fun _ h => h) (Vb.mono (F := Fr 0 w26 O27) (Vb.ofAgg (cs := [(.slice A9 x0.vars.length c10), (.slice A12 x0.init.length c13), (.slice A15 x0.goal.length c16), (.slice A18 x0.ops.length c19)]) (x := x0) rfl ⟨_, _, _, _, rfl, h8, h11, h14, h17⟩) Fr.lt) e31) rfl rfl fun v36 w32 O33 S34 h35 => ?_
 obtain ⟨rfl, r37⟩ := h35.err
 refine o_as rfl rfl (o_z ?_)
 refine ewp_seq (ewp_region (o_mv rfl rfl (o_rnS rfl rfl (fun c38 => ?_) fun c38 => ?_)))
 ·
  replace hm := ip hm c38
  refine o_z ?_
  refine ewp_true rfl (ewp_seq (ewp_region (o_bd rfl rfl rfl ?_)))
  refine o_mv rfl rfl ?_
  replace h29 := h29.st S34
  refine l_store h29 rfl rfl rfl (Nat.le_of_ble_eq_true rfl) (by first | exact allOne rfl | simp [Value.cells, Value.oneCell', errV_one]) fun w39 S40 h29 => ?_
  replace h29 : Lc 3 w39 O33 g25 50 [(.int .i64 0), (.slice none 0 0), (.int .i64 0), (.int .i64 0)] := h29
  refine o_as rfl rfl (o_z ?_)
  refine ewp_ret ?_
  obtain rfl := sm hm
  replace hB := (((hB.st S23).st S28).st S34).st S40
  exact ret2 rfl (res_cell (cs := [(.int .i64 0), (.slice none 0 0), (.int .i64 0), (.int .i64 0)]) rfl rfl h29.1.cellsAt) (res_tmp rfl) ⟨hB.ext, _, _, rfl, (Vb.mono (F := Fr 0 w39 O33) (Vb.ofAgg (cs := [(.int .i64 0), (.slice none 0 0), (.int .i64 0), (.int .i64 0)]) (x := (⟨0, ([] : List Int), 0, 0⟩ : Rsl)) rfl ⟨_, rfl, (Vb.nil _ _), (show inI64 0 from by decide), (show inI64 0 from by decide), (show inI64 0 from by decide)⟩) hB.out), (vErr r37)⟩
 ·
  replace hm := im hm c38
  refine o_z ?_
  refine ewp_false rfl (ewp_skip (ewp_seq (ewp_region (o_fa rfl rfl ?_))))
  replace h24 := h24.st S34
  refine o_ld (hc := Blk.cell (i := 0) (h24.1) rfl) rfl rfl ?_
  obtain ⟨q41, e42, hm⟩ := bs hm
  replace h8 := h8.st S34
  refine l_callM (O := O33) (c_registry_New h8 4 (by decide) e42) rfl rfl fun v47 w43 O44 S45 h46 => ?_
  obtain ⟨v48, v49, rfl, h50, h51⟩ := h46
  obtain ⟨rfl, r52⟩ := h51.err
  refine o_mv rfl rfl (o_ex rfl rfl rfl (o_ex rfl rfl rfl (o_as rfl rfl (o_as rfl rfl (o_z ?_)))))
  refine ewp_seq (ewp_seq (ewp_region (o_mv rfl rfl (o_rnS rfl rfl (fun c53 => ?_) fun c53 => ?_))))
  ·
   replace hm := ip hm c53
   refine o_z ?_
   refine ewp_true rfl (ewp_seq (ewp_region (o_bd rfl rfl rfl ?_)))
   refine o_mv rfl rfl ?_
   replace h29 := (h29.st S34).st S45
   refine l_store h29 rfl rfl rfl (Nat.le_of_ble_eq_true rfl) (by first | exact allOne rfl | simp [Value.cells, Value.oneCell', errV_one]) fun w54 S55 h29 => ?_
   replace h29 : Lc 3 w54 O44 g25 50 [(.int .i64 0), (.slice none 0 0), (.int .i64 0), (.int .i64 0)] := h29
   refine o_as rfl rfl (o_z ?_)
   refine ewp_ret ?_
   obtain rfl := sm hm
   replace hB := ((((hB.st S23).st S28).st S34).st S45).st S55
   exact ret2 rfl (res_cell (cs := [(.int .i64 0), (.slice none 0 0), (.int .i64 0), (.int .i64 0)]) rfl rfl h29.1.cellsAt) (res_tmp rfl) ⟨hB.ext, _, _, rfl, (Vb.mono (F := Fr 0 w54 O44) (Vb.ofAgg (cs := [(.int .i64 0), (.slice none 0 0), (.int .i64 0), (.int .i64 0)]) (x := (⟨0, ([] : List Int), 0, 0⟩ : Rsl)) rfl ⟨_, rfl, (Vb.nil _ _), (show inI64 0 from by decide), (show inI64 0 from by decide), (show inI64 0 from by decide)⟩) hB.out), (vErr r52)⟩
  ·
   replace hm := im hm c53
   refine o_z ?_
   refine ewp_false rfl (ewp_skip (ewp_seq (ewp_drawX [(2, []), (4, [])] O44 ?_)))
   refine x_pre (fuel := 4) [] [(0, true), (1, true)] (by kernel_rfl) rfl ?_
   replace h24 := h24.st S45
   refine h_laB (hl := rfl) (hb := fun w' ⟨O', hq⟩ => ((h24.st hq (by decide)).1).cellsAt) rfl rfl rfl ?_
   refine h_mv rfl rfl rfl (hwp_nilT ?_)
   refine x_one (i := 2) (by kernel_rfl) rfl ?_
   obtain ⟨q56, e57, hm⟩ := bs hm
   refine l_callM (O := O44) (c_pqueue_New 5 (by decide) e57) rfl rfl fun v62 w58 O59 S60 h63 => ?_
   have hZ := S60.lst [] (fun _ h => h.elim)
   refine x_go [(4, [])] hZ (by kernel_rfl) ?_
   refine x_pre (fuel := 2) [] [(3, true)] (by kernel_rfl) rfl ?_
   obtain ⟨o64, e65, hm⟩ := bs hm
   replace h50 := h50.st S60
   rw [e65] at h50
   obtain ⟨p66, rfl⟩ := Ob.ptr h50
   obtain ⟨o67, e68, hm⟩ := bs hm
   rw [e68] at h63
   obtain ⟨p69, rfl⟩ := Ob.ptr h63
   refine h_bd rfl rfl rfl rfl ?_
   refine hwp_nilT ?_
   refine x_one (i := 4) (by kernel_rfl) rfl ?_
   refine l_box 6 O59 rfl rfl fun g70 w71 O72 S73 h74 => ?_
   replace h74 : Lc 6 w71 O72 g70 85 [(.slice A9 x0.vars.length c10), (.slice A12 x0.init.length c13), (.slice A15 x0.goal.length c16), (.slice A18 x0.ops.length c19), (.pointer (some ⟨p66, 0, none⟩)), (.pointer (some ⟨p69, 0, none⟩)), (.slice none 0 0), (.slice none 0 0), (.int .i64 0)] := h74
   have hZ := S73.lst [] (fun _ h => h.elim)
   refine x_go [] hZ (by kernel_rfl) ?_
   refine x_pre (fuel := 0) [] [(5, true)] (by kernel_rfl) rfl ?_
   refine h_as rfl rfl rfl (hwp_nilT ?_)
   refine x_nil (by kernel_rfl) ?_
   refine ewp_seq (ewp_seq (ewp_region (o_mv rfl rfl (o_fa rfl rfl ?_))))
   replace h24 := (h24.st S60).st S73
   refine o_ld (hc := Blk.cell (i := 1) (h24.1) rfl) rfl rfl ?_
   have h75 : Rw 7 w71 O72 3 (.slice none 0 0) ([] : List Int) := Rw.nil 7 (by decide)
   have h77 : Rw 8 w71 O72 4 (.slice none 0 0) ([] : List Bool) := Rw.nil 8 (by decide)
   replace h8 := ((h8.st S45).st S60).st S73
   replace h11 := (((h11.st S34).st S45).st S60).st S73
   replace h14 := (((h14.st S34).st S45).st S60).st S73
   replace h17 := (((h17.st S34).st S45).st S60).st S73
   replace h50 := h50.st S73
   replace h63 := h63.st S73
   obtain ⟨O79, S80, hz82, ha83, h81⟩ := Sch.shut (x := (⟨(⟨x0.vars, x0.init, x0.goal, x0.ops⟩ : Tsk), o64, o67, ([] : List Int), ([] : List Bool), 0⟩ : Sch)) (l0 := 6) (l1 := 4) (l2 := 5) (l3 := 7) (l4 := 8) (by decide) h74 h8 h11 h14 h17 h50 h63 h75 h77 (show inI64 0 from by decide)
   obtain ⟨q84, e85, hm⟩ := bs hm
   replace h11 := h11.st S80
   refine l_callM (O := O79) (c_stubborn_search_reach h81 h11 (show inI64 (-1) from by decide) (show inI64 (-1) from by decide) (show inI64 (0) from by decide) e85) rfl rfl fun v90 w86 O87 S88 h89 => ?_
   obtain ⟨h91, h92⟩ := h89
   obtain ⟨rfl, r93⟩ := h92.err
   refine o_as rfl rfl (o_z ?_)
   refine ewp_seq (ewp_region (o_mv rfl rfl (o_rnS rfl rfl (fun c94 => ?_) fun c94 => ?_)))
   ·
    replace hm := ip hm c94
    refine o_z ?_
    refine ewp_true rfl (ewp_seq (ewp_region (o_bd rfl rfl rfl ?_)))
    refine o_mv rfl rfl ?_
    replace h29 := (((((h29.st S34).st S45).st S60).st S73).st S80).st S88
    refine l_store h29 rfl rfl rfl (Nat.le_of_ble_eq_true rfl) (by first | exact allOne rfl | simp [Value.cells, Value.oneCell', errV_one]) fun w95 S96 h29 => ?_
    replace h29 : Lc 3 w95 O87 g25 50 [(.int .i64 0), (.slice none 0 0), (.int .i64 0), (.int .i64 0)] := h29
    refine o_as rfl rfl (o_z ?_)
    refine ewp_ret ?_
    obtain rfl := sm hm
    replace hB := ((((((((hB.st S23).st S28).st S34).st S45).st S60).st S73).st S80).st S88).st S96
    exact ret2 rfl (res_cell (cs := [(.int .i64 0), (.slice none 0 0), (.int .i64 0), (.int .i64 0)]) rfl rfl h29.1.cellsAt) (res_tmp rfl) ⟨hB.ext, _, _, rfl, (Vb.mono (F := Fr 0 w95 O87) (Vb.ofAgg (cs := [(.int .i64 0), (.slice none 0 0), (.int .i64 0), (.int .i64 0)]) (x := (⟨0, ([] : List Int), 0, 0⟩ : Rsl)) rfl ⟨_, rfl, (Vb.nil _ _), (show inI64 0 from by decide), (show inI64 0 from by decide), (show inI64 0 from by decide)⟩) hB.out), (vErr r93)⟩
   ·
    replace hm := im hm c94
    refine o_z ?_
    refine ewp_false rfl (ewp_skip (ewp_seq (ewp_region (o_mv rfl rfl (o_mv rfl rfl (o_max rfl rfl rfl ?_))))))
    obtain ⟨q97, e98, hm⟩ := bs hm
    refine l_callM (O := O87) (c_stubborn_search_run h91 (rngMax rx1 (show inI64 (0) from by decide)) e98) rfl rfl fun v103 w99 O100 S101 h102 => ?_
    obtain ⟨h104, h105⟩ := h102
    obtain ⟨cs106, rfl, v107, rfl, h108, r111, r112, r113⟩ := h105
    obtain ⟨A109, c110, rfl⟩ := h108.form
    replace h29 := ((((((h29.st S34).st S45).st S60).st S73).st S80).st S88).st S101
    refine l_store h29 rfl rfl rfl (Nat.le_of_ble_eq_true rfl) (by first | exact allOne rfl | simp [Value.cells, Value.oneCell', errV_one]) fun w114 S115 h29 => ?_
    replace h29 : Lc 3 w114 O100 g25 50 [(.int .i64 q97.1.verdict), (.slice A109 q97.1.plan.length c110), (.int .i64 q97.1.cost), (.int .i64 q97.1.expanded)] := h29
    refine o_as rfl rfl (o_z ?_)
    refine ewp_ret ?_
    obtain rfl := sm hm
    replace hB := (((((((((hB.st S23).st S28).st S34).st S45).st S60).st S73).st S80).st S88).st S101).st S115
    replace h108 := h108.st S115
    exact ret2 rfl (res_cell (cs := [(.int .i64 q97.1.verdict), (.slice A109 q97.1.plan.length c110), (.int .i64 q97.1.cost), (.int .i64 q97.1.expanded)]) rfl rfl h29.1.cellsAt) (res_tmp rfl) ⟨hB.ext, _, _, rfl, (Vb.mono (F := Fr 0 w114 O100) (Vb.ofAgg (cs := [(.int .i64 q97.1.verdict), (.slice A109 q97.1.plan.length c110), (.int .i64 q97.1.cost), (.int .i64 q97.1.expanded)]) (x := q97.1) rfl ⟨_, rfl, h108, r111, r112, r113⟩) hB.out), (vErr (show inI64 0 from by decide))⟩
end
section
open Go Go.RowKit
attribute [local irreducible] ewp owp hwp hwq Ev Evg Fn retPost Res1
def exts (n : Nat) (s : List Int) : List (List Int) := (List.range n).map fun x : Nat => s ++ [(x : Int)]
def grows (out : List (List Int)) (k : Int) : List (List Int) := out.flatMap (exts k.toNat)
def statesL (vars : List Int) : List (List Int) := vars.foldl grows [[]]
theorem statesL_step {vars : List Int} {k : Nat} {n : Int} (h : vars[k]? = some n) : statesL (vars.take (k + 1)) = grows (statesL (vars.take k)) n := by
  unfold statesL
  rw [List.take_add_one, h, List.foldl_append]; rfl
theorem exts_step (n : Nat) (s : List Int) : exts (n + 1) s = exts n s ++ [s ++ [(n : Int)]] := by unfold exts; rw [List.range_succ]; simp
theorem exts_len (n : Nat) (s : List Int) : (exts n s).length = n := by simp [exts]
theorem grows_len (n : Nat) : ∀ l : List (List Int), (l.flatMap (exts n)).length = l.length * n
  | [] => by simp
  | s :: l => by rw [List.flatMap_cons, List.length_append, exts_len, grows_len n l, List.length_cons, Nat.add_mul]; omega
theorem flat_step {α β : Type} (f : α → List β) {l : List α} {k : Nat} {x : α} (h : l[k]? = some x) : (l.take (k + 1)).flatMap f = (l.take k).flatMap f ++ f x := by
  rw [List.take_add_one, h]; simp
theorem statesL_mem (vars : List Int) : ∀ (k : Nat), k ≤ vars.length → ∀ s ∈ statesL (vars.take k), s.length = k := by
  intro k
  induction k with
  | zero => intro _ s hs; simp [statesL] at hs; simp [hs]
  | succ k ih =>
    intro hk s hs
    obtain ⟨n, hn⟩ : ∃ n, vars[k]? = some n := ⟨vars[k], List.getElem?_eq_getElem (by omega)⟩
    rw [statesL_step hn] at hs
    obtain ⟨s', h1, h2⟩ := List.mem_flatMap.1 hs
    obtain ⟨x, _, rfl⟩ := List.mem_map.1 h2
    simp [ih (by omega) s' h1]
end
section
open Go Go.RowKit
def prodV : List Int → Nat → Nat
  | [], n => n
  | k :: r, n => prodV r (n * k.toNat)
theorem foldl_grows_len : ∀ (vars : List Int) (out : List (List Int)), (vars.foldl grows out).length = prodV vars out.length
  | [], _ => rfl
  | k :: r, out => by
    simp only [List.foldl_cons, prodV]
    rw [foldl_grows_len r, grows, grows_len]
theorem statesL_len (vars : List Int) : (statesL vars).length = prodV vars 1 := foldl_grows_len vars [[]]
theorem many_prod {most : Nat} : ∀ (vars : List Int) (n : Nat), (∀ x ∈ vars, 1 ≤ x) → 1 ≤ n → manyF most vars (n : Int) ≤ most → ∀ k, prodV (vars.take k) n ≤ most
  | [], n, _, _, h, k => by simp only [List.take_nil, prodV]; simp only [manyF] at h; omega
  | x :: r, n, hx, hn, h, k => by
    have h1 : 1 ≤ x := hx x List.mem_cons_self
    simp only [manyF] at h
    have hmax : max x 0 = x := by omega
    rw [hmax] at h
    obtain ⟨m, rfl⟩ : ∃ m : Nat, x = (m : Int) := ⟨x.toNat, by omega⟩
    by_cases hm : (m : Int) ≤ most
    · rw [show min (m : Int) (most + 1) = (m : Int) from by omega, ← Int.natCast_mul] at h
      have hnm : n ≤ n * m := Nat.le_mul_of_pos_right n (by omega)
      by_cases hc : (most : Int) < ((n * m : Nat) : Int)
      · rw [if_pos hc] at h; omega
      · rw [if_neg hc] at h
        cases k with
        | zero => simp only [List.take_zero, prodV]; omega
        | succ k =>
          simp only [List.take_succ_cons, prodV, Int.toNat_natCast]
          exact many_prod r (n * m) (fun y hy => hx y (List.mem_cons_of_mem _ hy)) (by omega) h k
    · exfalso
      rw [show min (m : Int) (most + 1) = ((most + 1 : Nat) : Int) from by omega, ← Int.natCast_mul] at h
      have : most + 1 ≤ n * (most + 1) := Nat.le_mul_of_pos_left _ hn
      rw [if_pos (by omega)] at h
      omega
theorem stateOk_cons {y x : Int} {vs s : List Int} : StateOk (y :: vs) (x :: s) ↔ (0 ≤ x ∧ x < y) ∧ StateOk vs s := by
  constructor
  · intro h
    exact ⟨h.2 0 x y rfl rfl, by have := h.1; simpa using this, fun i a b ha hb => h.2 (i + 1) a b (by simpa using ha) (by simpa using hb)⟩
  · rintro ⟨h1, h2, h3⟩
    refine ⟨by simpa using h2, fun i a b ha hb => ?_⟩
    cases i with
    | zero => simp at ha hb; subst ha; subst hb; exact h1
    | succ i => exact h3 i a b (by simpa using ha) (by simpa using hb)
theorem stateOk_nil : StateOk [] [] := ⟨rfl, fun i a b ha => by simp at ha⟩
theorem mem_exts {n : Nat} {s t : List Int} : t ∈ exts n s ↔ ∃ x : Nat, x < n ∧ t = s ++ [(x : Int)] := by
  unfold exts
  rw [List.mem_map]
  constructor
  · rintro ⟨x, hx, rfl⟩; exact ⟨x, List.mem_range.1 hx, rfl⟩
  · rintro ⟨x, hx, rfl⟩; exact ⟨x, List.mem_range.2 hx, rfl⟩
theorem mem_foldl_grows : ∀ (vars : List Int) (out : List (List Int)) (s : List Int), s ∈ vars.foldl grows out ↔ ∃ s0 ∈ out, ∃ r, s = s0 ++ r ∧ StateOk vars r
  | [], out, s => by
    constructor
    · intro h; exact ⟨s, h, [], by simp, stateOk_nil⟩
    · rintro ⟨s0, h, r, rfl, hr⟩
      have : r = [] := List.eq_nil_of_length_eq_zero hr.1
      subst this; simpa using h
  | k :: vs, out, s => by
    simp only [List.foldl_cons]
    rw [mem_foldl_grows vs (grows out k) s]
    constructor
    · rintro ⟨s1, h1, r, rfl, hr⟩
      obtain ⟨s0, h0, h2⟩ := List.mem_flatMap.1 h1
      obtain ⟨x, hx, rfl⟩ := mem_exts.1 h2
      exact ⟨s0, h0, (x : Int) :: r, by simp, stateOk_cons.2 ⟨⟨by omega, by omega⟩, hr⟩⟩
    · rintro ⟨s0, h0, r, rfl, hr⟩
      cases r with
      | nil => have := hr.1; simp at this
      | cons x r =>
        obtain ⟨⟨h1, h2⟩, h3⟩ := stateOk_cons.1 hr
        exact ⟨s0 ++ [x], List.mem_flatMap.2 ⟨s0, h0, mem_exts.2 ⟨x.toNat, by omega, by rw [show ((x.toNat : Nat) : Int) = x from by omega]⟩⟩, r, by simp, h3⟩
theorem mem_statesL {vars s : List Int} : s ∈ statesL vars ↔ StateOk vars s := by
  unfold statesL
  rw [mem_foldl_grows]
  constructor
  · rintro ⟨s0, h0, r, rfl, hr⟩
    have : s0 = [] := by simpa using h0
    subst this; exact hr
  · intro h; exact ⟨[], by simp, s, rfl, h⟩
theorem SmallOk.ok {t : Tsk} (h : SmallOk t) : TaskOk t := h.2.2.2.1
theorem SmallOk.states {t : Tsk} (h : SmallOk t) : ∀ k, (statesL (t.vars.take k)).length ≤ 512 := fun k => by
  rw [statesL_len]
  refine many_prod (most := 512) t.vars 1 (fun x hx => ?_) (Nat.le_refl _) h.2.2.2.2 k
  obtain ⟨i, hi, rfl⟩ := List.getElem_of_mem hx
  exact (h.ok.vars i _ (List.getElem?_eq_getElem hi)).1
theorem SmallOk.many {t : Tsk} (h : SmallOk t) : (statesL t.vars).length ≤ 512 := by
  have := h.states t.vars.length
  rwa [List.take_length] at this
end
section
open Go Go.RowKit
attribute [local irreducible] ewp owp hwp hwq Ev Evg Fn retPost Res1
structure Edg where
  src : Int
  op : Int
  dst : Int
instance : Rp Edg where
  isAgg := true
  size := 3
  R w F cs x := cs = [.int .i64 x.src, .int .i64 x.op, .int .i64 x.dst] ∧ inI64 x.src ∧ inI64 x.op ∧ inI64 x.dst
  len := by rintro w F cs x ⟨rfl, h0, h1, h2⟩; rfl
  one := by rintro w F cs x ⟨rfl, h0, h1, h2⟩ u hu; simp at hu; rcases hu with rfl | rfl | rfl <;> first | rfl | exact Vb.one rfl (by assumption)
  agree := by rintro w w' F cs x ⟨rfl, h0, h1, h2⟩ ha; exact ⟨rfl, h0, h1, h2⟩
  mono := by rintro w F G cs x ⟨rfl, h0, h1, h2⟩ ha; exact ⟨rfl, h0, h1, h2⟩
noncomputable def m_base_States (x0 : List Int) : Option (List (List Int)) :=
  bnd (rng (ρ := (List (List Int))) (fun (k24 : Nat) (a25 : Int) (s22 : (List (List Int))) => bnd (rng (ρ := Ctl (List (List Int)) (List (List Int))) (fun (k53 : Nat) (a54 : List Int) (s51 : (List (List Int))) => bnd (natI a25) fun N92 => bnd (rngN (ρ := Ctl (List (List Int)) (Ctl (List (List Int)) (List (List Int)))) (fun (k83 : Nat) (s81 : (List (List Int))) => bnd (appI 8 ([] : List Int) a54) fun u104 => bnd (appI 8 u104 [(k83 : Int)]) fun u115 => bnd (appI 24 s81 [u115]) fun u129 => some (.next u129)) N92 s51) fun res79 => fin res79 fun (s145 : (List (List Int))) => some (.next s145)) s22 0 ([] : List (List Int))) fun res49 => fin res49 fun (s151 : (List (List Int))) => some (.next s151)) x0 0 [([] : List Int)]) fun res20 => fin res20 fun (s159 : (List (List Int))) => some s159
theorem c_base_States {w : World} {A : Nat → Prop} (hA : ∀ k, A k → k < w.heap.size) {vx0 : Value} {x0 : List Int} (hx0 : Vb w A vx0 x0) {r : (List (List Int))} (hm : m_base_States x0 = some r) :
    Fn Try.prog 18 [vx0] w fun v w' => Ext w w' ∧ Vb w' (upA A w w') v r := by
 obtain ⟨O, hB, hA0⟩ := enter hA
 replace hx0 := hx0.mono hA0
 obtain ⟨A2, c3, rfl⟩ := hx0.form
 refine fn_enter Try.func18 rfl Try.ntmps18 rfl ?_
 unfold m_base_States at hm
 refine ewp_seq (ewp_region (o_as rfl rfl (o_z ?_)))
 refine ewp_seq (ewp_region (l_bslice 2 (by decide) O (xs := (([] : List Int) : List Int)) rfl rfl rfl rfl trivial (by decide) (by decide) rfl fun g4 w5 O6 S7 h8 => ?_))
 obtain ⟨O10, S11, h8⟩ := h8.freeze
 refine l_bslice 3 (by decide) O10 (xs := ([([] : List Int)] : List (List Int))) rfl rfl rfl rfl ⟨h8, trivial⟩ (by decide) (by decide) rfl fun g12 w13 O14 S15 h16 => ?_
 refine o_as rfl rfl (o_z ?_)
 refine ewp_seq (ewp_seq (ewp_region (o_mv rfl rfl (o_ln rfl rfl ?_))))
 replace hx0 := ((hx0.st S7).st S11).st S15
 have l19 : x0.length ≤ 9223372036854775807 := Nat.le_trans hx0.len.2.1 hx0.len.2.2
 have r18 : inI64 (x0.length : Int) := rngNat l19
 refine o_mv rfl rfl (o_z ?_)
 obtain ⟨res20, hL21, hm⟩ := bs hm
 refine ewp_join (aft res20 (fun (s22 : (List (List Int))) (x23 : (Option Addr × Nat)) => [(3, (.slice x23.1 s22.length x23.2))]) (fun s22 x23 w' => ∃ O' : Lab, Bs w A w' O' ∧ Vb w' (Fr 0 w' O') (.slice x23.1 s22.length x23.2) s22)) ?_ ?_
 ·
  refine ewp_block ?_
  obtain ⟨O37, S38, h16⟩ := h16.freeze
  replace hB := (((hB.st S7).st S11).st S15).st S38
  replace hx0 := hx0.st S38
  refine ewp_rng (σ := (List (List Int))) (X := (Option Addr × Nat)) (x0.length) hL21 rfl l19 (fun (s22 : (List (List Int))) (x23 : (Option Addr × Nat)) => [(3, (.slice x23.1 s22.length x23.2)), (12, (.slice A2 x0.length c3))]) _ (fun s22 x23 w' => ∃ O' : Lab, Bs w A w' O' ∧ Vb w' (Fr 0 w' O') (.slice x23.1 s22.length x23.2) s22 ∧ Vb w' (Fr 0 w' O') (.slice A2 x0.length c3) x0) _ ((some ⟨g12, 0, none⟩), 1) ⟨O37, hB, h16, hx0⟩ ⟨rfl, rfl, rfl, rfl, trivial⟩ (fun _ _ => ⟨rfl, rfl⟩) (fun _ _ => ⟨rfl, trivial⟩) (fun _ _ _ ⟨O', hB, h36, hx0⟩ => ⟨O', hB, h36⟩) ⟨rfl, rfl, rfl⟩ ⟨rfl, rfl⟩ ?_
  rintro k24 a25 s22 x23 w26 cc28 hx29 ⟨O27, hB, h36, hx0⟩ hf30 hret31 hbrk32
  have rk24 : inI64 (k24 : Int) := rngK hx29 l19
  refine ewp_seq (ewp_region ?_)
  obtain ⟨b39, o40, ce41, hA42, hl43, hd44, rfl, r46⟩ := hx0.elem' hx29
  refine o_iaE (hA := hA42) (hj := rfl) (hlt := hl43) rfl rfl rfl ?_
  refine o_ld (hc := cat0 hd44) rfl rfl ?_
  refine o_as rfl rfl (o_z ?_)
  refine ewp_seq (ewp_region (o_as rfl rfl (o_z ?_)))
  refine ewp_seq (ewp_seq (ewp_region (o_mv rfl rfl (o_ln rfl rfl ?_))))
  have l48 : s22.length ≤ 9223372036854775807 := Nat.le_trans h36.len.2.1 h36.len.2.2
  have r47 : inI64 (s22.length : Int) := rngNat l48
  refine o_mv rfl rfl (o_z ?_)
  obtain ⟨res49, hL50, hf30⟩ := bs hf30
  refine ewp_join (aft res49 (fun (s51 : (List (List Int))) (x52 : (Option Addr × Nat)) => [(6, (.slice x52.1 s51.length x52.2)), (12, (.slice A2 x0.length c3)), (13, (.int .i64 (x0.length : Int))), (14, (.int .i64 (k24 : Int)))]) (fun s51 x52 w' => ∃ O' : Lab, Bs w A w' O' ∧ Rw 5 w' O' 22 (.slice x52.1 s51.length x52.2) s51 ∧ Vb w' (Fr 0 w' O') (.slice A2 x0.length c3) x0)) ?_ ?_
  ·
   refine ewp_block (ewp_rng (σ := (List (List Int))) (X := (Option Addr × Nat)) (s22.length) hL50 rfl l48 (fun (s51 : (List (List Int))) (x52 : (Option Addr × Nat)) => [(5, (.int .i64 a25)), (6, (.slice x52.1 s51.length x52.2)), (12, (.slice A2 x0.length c3)), (13, (.int .i64 (x0.length : Int))), (14, (.int .i64 (k24 : Int))), (18, (.slice x23.1 s22.length x23.2))]) _ (fun s51 x52 w' => ∃ O' : Lab, Bs w A w' O' ∧ Rw 5 w' O' 22 (.slice x52.1 s51.length x52.2) s51 ∧ Vb w' (Fr 0 w' O') (.slice A2 x0.length c3) x0 ∧ Vb w' (Fr 0 w' O') (.slice x23.1 s22.length x23.2) s22) _ (none, 0) ⟨O27, hB, (Rw.nil 5 (by decide)), hx0, h36⟩ ⟨rfl, rfl, rfl, rfl, rfl, rfl, rfl, rfl, trivial⟩ (fun _ _ => ⟨rfl, rfl⟩) (fun _ _ => ⟨rfl, rfl, rfl, rfl, trivial⟩) (fun _ _ _ ⟨O', hB, h66, hx0, h36⟩ => ⟨O', hB, h66, hx0⟩) ⟨rfl, rfl, rfl⟩ ⟨rfl, rfl⟩ ?_)
   rintro k53 a54 s51 x52 w55 cc57 hx58 ⟨O56, hB, h66, hx0, h36⟩ hf59 hret60 hbrk61
   have rk53 : inI64 (k53 : Int) := rngK hx58 l48
   refine ewp_seq (ewp_region ?_)
   obtain ⟨b68, o69, ce70, hA71, hl72, hd73, v75, rfl, h76⟩ := h36.elem' hx58
   replace h76 := Vb.of_slice h76
   obtain ⟨A77, c78, rfl⟩ := h76.form
   refine o_iaE (hA := hA71) (hj := rfl) (hlt := hl72) rfl rfl rfl ?_
   refine o_ld (hc := cat0 hd73) rfl rfl ?_
   refine o_as rfl rfl (o_z ?_)
   refine ewp_seq (ewp_region (o_mv rfl rfl (o_mv rfl rfl (o_z ?_))))
   obtain ⟨N92, hN93, hf59⟩ := bs hf59
   replace hN93 := natI_some hN93
   obtain ⟨res79, hL80, hf59⟩ := bs hf59
   refine ewp_join (aft res79 (fun (s81 : (List (List Int))) (x82 : (Option Addr × Nat)) => [(5, (.int .i64 a25)), (6, (.slice x82.1 s81.length x82.2)), (12, (.slice A2 x0.length c3)), (13, (.int .i64 (x0.length : Int))), (14, (.int .i64 (k24 : Int))), (18, (.slice x23.1 s22.length x23.2)), (19, (.int .i64 (s22.length : Int))), (20, (.int .i64 (k53 : Int)))]) (fun s81 x82 w' => ∃ O' : Lab, Bs w A w' O' ∧ Rw 5 w' O' 22 (.slice x82.1 s81.length x82.2) s81 ∧ Vb w' (Fr 0 w' O') (.slice A2 x0.length c3) x0 ∧ Vb w' (Fr 0 w' O') (.slice x23.1 s22.length x23.2) s22)) ?_ ?_
   ·
    refine ewp_block (ewp_rngN (σ := (List (List Int))) (X := (Option Addr × Nat)) N92 hL80 (natI_le hN93 r46) (fun (s81 : (List (List Int))) (x82 : (Option Addr × Nat)) => [(5, (.int .i64 a25)), (6, (.slice x82.1 s81.length x82.2)), (8, (.slice A77 a54.length c78)), (12, (.slice A2 x0.length c3)), (13, (.int .i64 (x0.length : Int))), (14, (.int .i64 (k24 : Int))), (18, (.slice x23.1 s22.length x23.2)), (19, (.int .i64 (s22.length : Int))), (20, (.int .i64 (k53 : Int)))]) _ (fun s81 x82 w' => ∃ O' : Lab, Bs w A w' O' ∧ Rw 5 w' O' 22 (.slice x82.1 s81.length x82.2) s81 ∧ Vb w' (Fr 0 w' O') (.slice A77 a54.length c78) a54 ∧ Vb w' (Fr 0 w' O') (.slice A2 x0.length c3) x0 ∧ Vb w' (Fr 0 w' O') (.slice x23.1 s22.length x23.2) s22) _ (x52.1, x52.2) ⟨O56, hB, h66, h76, hx0, h36⟩ ⟨rfl, (congrArg (fun z => some (Value.int .i64 z)) hN93), rfl, rfl, rfl, rfl, rfl, rfl, rfl, rfl, rfl, trivial⟩ (fun _ _ => ⟨rfl, rfl⟩) (fun _ _ => ⟨rfl, rfl, rfl, rfl, rfl, rfl, rfl, rfl, trivial⟩) (fun _ _ _ ⟨O', hB, h96, h76, hx0, h36⟩ => ⟨O', hB, h96, hx0, h36⟩) ⟨rfl, rfl, rfl⟩ ⟨rfl, rfl⟩ ?_)
    rintro k83 s81 x82 w85 cc87 hx88 ⟨O86, hB, h96, h76, hx0, h36⟩ hf89 hret90 hbrk91
    have rk83 : inI64 (k83 : Int) := rngKN hx88 (natI_le hN93 r46)
    refine ewp_seq (ewp_region (o_mv rfl rfl (o_as rfl rfl (o_z ?_))))
    refine ewp_region (o_mv rfl rfl (l_bslice 4 (by decide) O86 (xs := (([] : List Int) : List Int)) rfl rfl rfl rfl trivial (by decide) (by decide) rfl fun g98 w99 O100 S101 h102 => ?_))
    refine o_mv rfl rfl ?_
    obtain ⟨u104, e105, hf89⟩ := bs hf89
    obtain ⟨e105, e106, e107⟩ := appI_some e105
    replace h76 := h76.st S101
    refine l_append rfl h102 (h76.rd) rfl rfl (by decide) e106 e107 rfl fun A108 c109 w110 O111 S112 h113 => ?_
    rw [← e105] at h113 ⊢
    refine o_mv rfl rfl ?_
    obtain ⟨u115, e116, hf89⟩ := bs hf89
    obtain ⟨e116, e117, e118⟩ := appI_some e116
    refine l_append1 rfl (a := (k83 : Int)) h113 (vInt rk83) (fun _ => rfl) rfl (by decide) (by decide) e117 e118 ⟨rfl, rfl⟩ fun g119 A120 c121 w122 O123 S124 h125 => ?_
    rw [← e116] at h125 ⊢
    obtain ⟨O127, S128, h125⟩ := h125.freeze
    obtain ⟨u129, e130, hf89⟩ := bs hf89
    obtain ⟨e130, e131, e132⟩ := appI_some e130
    replace h96 := (((h96.st S101).st S112).st S124).st S128
    refine l_append1 rfl (a := u115) h96 h125 (fun _ => rfl) rfl (by decide) (by decide) e131 e132 ⟨rfl, rfl⟩ fun g133 A134 c135 w136 O137 S138 h139 => ?_
    rw [← e130] at h139 ⊢
    refine o_as rfl rfl (o_z ?_)
    obtain rfl := sm hf89
    refine (?_ : Exists _)
    replace hB := ((((hB.st S101).st S112).st S124).st S128).st S138
    replace hx0 := ((((hx0.st S101).st S112).st S124).st S128).st S138
    replace h36 := ((((h36.st S101).st S112).st S124).st S128).st S138
    replace h76 := (((h76.st S112).st S124).st S128).st S138
    exact ⟨_, (A134, c135), rfl, ⟨rfl, rfl, rfl, rfl, rfl, rfl, rfl, rfl, rfl, rfl, rfl, trivial⟩, _, hB, h139, h76, hx0, h36⟩
   rintro l141 w142 ⟨s145, x146, rfl, hs144, O143, hB, h96, hx0, h36⟩
   replace hf59 := fin_done hf59
   obtain rfl := sm hf59
   refine (?_ : Exists _)
   exact ⟨_, (x146.1, x146.2), rfl, ⟨(subs_lk hs144 _ _ rfl), (subs_lk hs144 _ _ rfl), (subs_lk hs144 _ _ rfl), (subs_lk hs144 _ _ rfl), (subs_lk hs144 _ _ rfl), (subs_lk hs144 _ _ rfl), (subs_lk hs144 _ _ rfl), (subs_lk hs144 _ _ rfl), trivial⟩, _, hB, h96, hx0, h36⟩
  rintro l147 w148 ⟨s151, x152, rfl, hs150, O149, hB, h66, hx0⟩
  replace hf30 := fin_done hf30
  refine ewp_sub _ hs150 ?_
  refine ewp_region (o_mv rfl rfl (o_as rfl rfl (o_z ?_)))
  obtain ⟨O153, S154, h66⟩ := h66.freeze
  obtain rfl := sm hf30
  refine (?_ : Exists _)
  replace hB := hB.st S154
  replace hx0 := hx0.st S154
  exact ⟨_, (x152.1, x152.2), rfl, ⟨rfl, rfl, rfl, rfl, trivial⟩, _, hB, h66, hx0⟩
 replace hB := ((hB.st S7).st S11).st S15
 rintro l155 w156 ⟨s159, x160, rfl, hs158, O157, hB, h36⟩
 replace hm := fin_done hm
 refine ewp_sub _ hs158 ?_
 refine ewp_seq (ewp_region (o_mv rfl rfl (o_as rfl rfl (o_z ?_))))
 refine ewp_ret ?_
 obtain rfl := sm hm
 exact ret1v rfl (res_tmp rfl) ⟨hB.ext, (Vb.mono (F := Fr 0 w156 O157) h36 hB.out)⟩
noncomputable def m_base_Apply (x0 : Tsk) (x1 : List Int) (x2 : Int) : Option ((List Int) × Bool) :=
  bnd (if x2 < 0 then (some true) else (if (x0.ops.length : Int) ≤ x2 then (some true) else (bnd (atI x0.ops x2) fun a36 => bnd (m_base_Holds a36.pre x1) fun q57 => if q57 = true then some false else some true)) : Option Bool) fun y28 => if y28 = true then (some (([] : List Int), false)) else (bnd (appI 8 ([] : List Int) x1) fun u75 => bnd (atI x0.ops x2) fun a86 => bnd (rng (ρ := (List Int) × Bool) (fun (k113 : Nat) (a114 : Eff) (s111 : (List Int)) => bnd (m_base_Holds a114.cond x1) fun q148 => if q148 = true then bnd (atI s111 a114.var) fun a155 => some (.next (s111.set (a114.var : Int).toNat a114.val)) else some (.next s111)) a86.effs 0 u75) fun res109 => fin res109 fun (s173 : (List Int)) => some (s173, true))
theorem c_base_Apply {w : World} {A : Nat → Prop} (hA : ∀ k, A k → k < w.heap.size) {vx0 : Value} {x0 : Tsk} (hx0 : Vb w A vx0 x0) {vx1 : Value} {x1 : List Int} (hx1 : Vb w A vx1 x1) {x2 : Int} (rx2 : inI64 x2) {r : (List Int) × Bool} (hm : m_base_Apply x0 x1 x2 = some r) :
    Fn Try.prog 20 [vx0, vx1, (.int .i64 x2)] w fun v w' => Ext w w' ∧ T2 w' (upA A w w') v r := by
 obtain ⟨O, hB, hA0⟩ := enter hA
 replace hx0 := hx0.mono hA0
 obtain ⟨cs4, rfl, v5, v6, v7, v8, rfl, h9, h12, h15, h18⟩ := hx0
 obtain ⟨A10, c11, rfl⟩ := h9.form
 obtain ⟨A13, c14, rfl⟩ := h12.form
 obtain ⟨A16, c17, rfl⟩ := h15.form
 obtain ⟨A19, c20, rfl⟩ := h18.form
 replace hx1 := hx1.mono hA0
 obtain ⟨A21, c22, rfl⟩ := hx1.form
 refine fn_enter Try.func20 rfl Try.ntmps20 rfl ?_
 unfold m_base_Apply at hm
 refine ewp_seq (ewp_region (l_box 2 O rfl rfl fun g23 w24 O25 S26 h27 => ?_))
 replace h27 : Lc 2 w24 O25 g23 26 [(.slice A10 x0.vars.length c11), (.slice A13 x0.init.length c14), (.slice A16 x0.goal.length c17), (.slice A19 x0.ops.length c20)] := h27
 refine o_as rfl rfl (o_as rfl rfl (o_z ?_))
 refine ewp_seq (ewp_seq ?_)
 obtain ⟨y28, hy29, hm⟩ := bs hm
 refine ewp_join (fun l' w' => ∃ (x31 : Unit) (O' : Lab), subs l' [(1, (.slice A21 x1.length c22)), (2, (.int .i64 x2)), (3, (.pointer (some ⟨g23, 0, none⟩))), (30, (.bool y28))] ∧ Bs w A w' O' ∧ Vb w' (Fr 0 w' O') (.slice A21 x1.length c22) x1 ∧ Lc 2 w' O' g23 26 [(.slice A10 x0.vars.length c11), (.slice A13 x0.init.length c14), (.slice A16 x0.goal.length c17), (.slice A19 x0.ops.length c20)] ∧ Vb w' (Fr 0 w' O') (.slice A10 x0.vars.length c11) x0.vars ∧ Vb w' (Fr 0 w' O') (.slice A13 x0.init.length c14) x0.init ∧ Vb w' (Fr 0 w' O') (.slice A16 x0.goal.length c17) x0.goal ∧ Vb w' (Fr 0 w' O') (.slice A19 x0.ops.length c20) x0.ops) ?_ ?_
 ·
  refine ewp_region (o_mv rfl rfl (o_ltS rfl rfl rfl (fun c32 => ?_) fun c32 => ?_))
  ·
   replace hy29 := ip hy29 c32
   refine o_mv rfl rfl (owp_no rfl rfl rfl rfl (owp_no rfl rfl rfl rfl (owp_no rfl rfl rfl rfl (owp_no rfl rfl rfl rfl (owp_no rfl rfl rfl rfl (o_pt rfl rfl rfl (o_mv rfl rfl (owp_no rfl rfl rfl rfl (owp_no rfl rfl rfl rfl (owp_no rfl rfl rfl rfl (owp_no rfl rfl rfl rfl (owp_no rfl rfl rfl rfl (owp_no rfl rfl rfl rfl (owp_no rfl rfl rfl rfl ?_))))))))))))))
   refine owp_no rfl rfl rfl rfl (owp_no rfl rfl rfl rfl (o_pt rfl rfl rfl (o_z ?_)))
   obtain rfl := sm hy29
   replace hB := hB.st S26
   replace hx1 := hx1.st S26
   replace h9 := h9.st S26
   replace h12 := h12.st S26
   replace h15 := h15.st S26
   replace h18 := h18.st S26
   exact ⟨(), _, ⟨rfl, rfl, rfl, rfl, trivial⟩, hB, hx1, h27, h9, h12, h15, h18⟩
  ·
   replace hy29 := im hy29 c32
   refine o_mv rfl rfl (owp_yes rfl rfl (o_mv rfl rfl (owp_yes rfl rfl (o_fa rfl rfl (owp_yes rfl rfl (o_ld (hc := Blk.cell (i := 3) (h27.1) rfl) rfl rfl ?_))))))
   refine owp_yes rfl rfl (o_ln rfl rfl ?_)
   replace h18 := h18.st S26
   have l34 : x0.ops.length ≤ 9223372036854775807 := Nat.le_trans h18.len.2.1 h18.len.2.2
   have r33 : inI64 (x0.ops.length : Int) := rngNat l34
   refine owp_yes rfl rfl (o_geS rfl rfl rfl (fun c35 => ?_) fun c35 => ?_)
   ·
    replace hy29 := ip hy29 c35
    refine o_pf rfl rfl rfl (o_mv rfl rfl (owp_no rfl rfl rfl rfl (owp_no rfl rfl rfl rfl (owp_no rfl rfl rfl rfl (owp_no rfl rfl rfl rfl (owp_no rfl rfl rfl rfl (owp_no rfl rfl rfl rfl (owp_no rfl rfl rfl rfl (owp_no rfl rfl rfl rfl (owp_no rfl rfl rfl rfl (o_pt rfl rfl rfl (o_z ?_))))))))))))
    obtain rfl := sm hy29
    replace hB := hB.st S26
    replace hx1 := hx1.st S26
    replace h9 := h9.st S26
    replace h12 := h12.st S26
    replace h15 := h15.st S26
    exact ⟨(), _, ⟨rfl, rfl, rfl, rfl, trivial⟩, hB, hx1, h27, h9, h12, h15, h18⟩
   ·
    replace hy29 := im hy29 c35
    refine o_pf rfl rfl rfl (o_mv rfl rfl (owp_yes rfl rfl (o_fa rfl rfl (owp_yes rfl rfl (o_ld (hc := Blk.cell (i := 3) (h27.1) rfl) rfl rfl ?_)))))
    refine owp_yes rfl rfl (o_mv rfl rfl (owp_yes rfl rfl ?_))
    obtain ⟨a36, e37, hy29⟩ := bs hy29
    obtain ⟨p39, x38⟩ := atI_some' e37
    obtain ⟨b40, o41, ce42, hA43, hl44, hd45, v47, v48, rfl, h49, h52, r55, z56⟩ := h18.elem' x38
    obtain ⟨A50, c51, rfl⟩ := h49.form
    obtain ⟨A53, c54, rfl⟩ := h52.form
    refine o_iaE (hA := hA43) (hj := (Int.toNat_of_nonneg p39).symm) (hlt := hl44) rfl rfl rfl ?_
    refine owp_yes rfl rfl (o_fa rfl rfl (owp_yes rfl rfl (o_ld (hc := cat2 hd45) rfl rfl ?_)))
    refine owp_yes rfl rfl (o_mv rfl rfl (owp_yes rfl rfl ?_))
    obtain ⟨q57, e58, hy29⟩ := bs hy29
    replace hx1 := hx1.st S26
    refine l_callA (O := O25) (A := All w24) (R := fun w' F v => Vb w' F v q57) (c_base_Holds (fun _ h => h) (Vb.mono (F := Fr 0 w24 O25) h49 Fr.lt) (Vb.mono (F := Fr 0 w24 O25) hx1 Fr.lt) e58) rfl rfl fun v63 w59 O60 S61 h62 => ?_
    obtain rfl := h62.bool
    cases q57
    case false =>
     replace hy29 := iF hy29
     refine owp_yes rfl rfl (o_nf rfl rfl (o_pf rfl rfl rfl (o_z ?_)))
     obtain rfl := sm hy29
     replace hB := (hB.st S26).st S61
     replace hx1 := hx1.st S61
     replace h9 := (h9.st S26).st S61
     replace h12 := (h12.st S26).st S61
     replace h15 := (h15.st S26).st S61
     replace h18 := h18.st S61
     replace h27 := h27.st S61
     exact ⟨(), _, ⟨rfl, rfl, rfl, rfl, trivial⟩, hB, hx1, h27, h9, h12, h15, h18⟩
    replace hy29 := iT hy29
    refine owp_yes rfl rfl (o_nt rfl rfl (o_pf rfl rfl rfl (o_z ?_)))
    obtain rfl := sm hy29
    replace hB := (hB.st S26).st S61
    replace hx1 := hx1.st S61
    replace h9 := (h9.st S26).st S61
    replace h12 := (h12.st S26).st S61
    replace h15 := (h15.st S26).st S61
    replace h18 := h18.st S61
    replace h27 := h27.st S61
    exact ⟨(), _, ⟨rfl, rfl, rfl, rfl, trivial⟩, hB, hx1, h27, h9, h12, h15, h18⟩
 replace hB := hB.st S26
 replace hx1 := hx1.st S26
 replace h9 := h9.st S26
 replace h12 := h12.st S26
 replace h15 := h15.st S26
 replace h18 := h18.st S26
 rintro l64 w65 ⟨x31, O66, hs67, hB, hx1, h27, h9, h12, h15, h18⟩
 refine ewp_sub _ hs67 ?_
 refine ewp_cond rfl (fun c68 => ?_) (fun c68 => ?_)
 ·
  replace hm := ip hm c68
  refine ewp_seq (ewp_region (o_as rfl rfl (o_as rfl rfl (o_z ?_))))
  refine ewp_ret ?_
  obtain rfl := sm hm
  exact ret2 rfl (res_tmp rfl) (res_tmp rfl) ⟨hB.ext, _, _, rfl, (Vb.mono (F := Fr 0 w65 O66) (Vb.nil _ _) hB.out), vBool⟩
 ·
  replace hm := im' hm c68
  refine ewp_skip (ewp_seq (ewp_region (l_bslice 3 (by decide) O66 (xs := (([] : List Int) : List Int)) rfl rfl rfl rfl trivial (by decide) (by decide) rfl fun g69 w70 O71 S72 h73 => ?_)))
  refine o_mv rfl rfl ?_
  obtain ⟨u75, e76, hm⟩ := bs hm
  obtain ⟨e76, e77, e78⟩ := appI_some e76
  replace hx1 := hx1.st S72
  refine l_append rfl h73 (hx1.rd) rfl rfl (by decide) e77 e78 rfl fun A79 c80 w81 O82 S83 h84 => ?_
  rw [← e76] at h84 ⊢
  refine o_as rfl rfl (o_z ?_)
  refine ewp_seq (ewp_seq (ewp_region (o_fa rfl rfl ?_)))
  replace h27 := (h27.st S72).st S83
  refine o_ld (hc := Blk.cell (i := 3) (h27.1) rfl) rfl rfl ?_
  refine o_mv rfl rfl ?_
  obtain ⟨a86, e87, hm⟩ := bs hm
  obtain ⟨p89, x88⟩ := atI_some' e87
  replace h18 := (h18.st S72).st S83
  obtain ⟨b90, o91, ce92, hA93, hl94, hd95, v97, v98, rfl, h99, h102, r105, z106⟩ := h18.elem' x88
  obtain ⟨A100, c101, rfl⟩ := h99.form
  obtain ⟨A103, c104, rfl⟩ := h102.form
  refine o_iaE (hA := hA93) (hj := (Int.toNat_of_nonneg p89).symm) (hlt := hl94) rfl rfl rfl ?_
  refine o_fa rfl rfl (o_ld (hc := cat3 hd95) rfl rfl ?_)
  refine o_ln rfl rfl ?_
  have l108 : a86.effs.length ≤ 9223372036854775807 := Nat.le_trans h102.len.2.1 h102.len.2.2
  have r107 : inI64 (a86.effs.length : Int) := rngNat l108
  refine o_mv rfl rfl (o_z ?_)
  obtain ⟨res109, hL110, hm⟩ := bs hm
  refine ewp_join (aft res109 (fun (s111 : (List Int)) (x112 : Unit) => [(8, (.slice A79 u75.length c80))]) (fun s111 x112 w' => ∃ O' : Lab, Bs w A w' O' ∧ Rw 3 w' O' 3 (.slice A79 u75.length c80) s111)) ?_ ?_
  ·
   refine ewp_block ?_
   replace hB := (hB.st S72).st S83
   replace hx1 := hx1.st S83
   refine ewp_rng (σ := (List Int)) (X := Unit) (a86.effs.length) hL110 rfl l108 (fun (s111 : (List Int)) (x112 : Unit) => [(1, (.slice A21 x1.length c22)), (8, (.slice A79 u75.length c80)), (39, (.slice A103 a86.effs.length c104))]) _ (fun s111 x112 w' => ∃ O' : Lab, Bs w A w' O' ∧ Vb w' (Fr 0 w' O') (.slice A21 x1.length c22) x1 ∧ Rw 3 w' O' 3 (.slice A79 u75.length c80) s111 ∧ Vb w' (Fr 0 w' O') (.slice A103 a86.effs.length c104) a86.effs) _ () ⟨O82, hB, hx1, h84, h102⟩ ⟨rfl, rfl, rfl, rfl, rfl, trivial⟩ (fun _ _ => ⟨rfl, rfl⟩) (fun _ _ => ⟨rfl, trivial⟩) (fun _ _ _ ⟨O', hB, hx1, h126, h102⟩ => ⟨O', hB, h126⟩) ⟨rfl, rfl, rfl⟩ ⟨rfl, rfl⟩ ?_
   rintro k113 a114 s111 x112 w115 cc117 hx118 ⟨O116, hB, hx1, h126, h102⟩ hf119 hret120 hbrk121
   have rk113 : inI64 (k113 : Int) := rngK hx118 l108
   refine ewp_seq (ewp_region ?_)
   obtain ⟨b128, o129, ce130, hA131, hl132, hd133, v135, rfl, h136, r139, r140⟩ := h102.elem' hx118
   obtain ⟨A137, c138, rfl⟩ := h136.form
   refine o_iaE (hA := hA131) (hj := rfl) (hlt := hl132) rfl rfl rfl ?_
   refine o_la (hl := rfl) (hc := hd133) rfl rfl ?_
   refine l_alloc 4 O116 rfl fun g141 w142 O143 S144 h145 => ?_
   refine l_store h145 rfl rfl rfl (Nat.le_of_ble_eq_true rfl) (by first | exact allOne rfl | simp [Value.cells, Value.oneCell', errV_one]) fun w146 S147 h145 => ?_
   replace h145 : Lc 4 w146 O143 g141 77 [(.slice A137 a114.cond.length c138), (.int .i64 a114.var), (.int .i64 a114.val)] := h145
   refine o_z ?_
   refine ewp_seq (ewp_region (o_fa rfl rfl (o_ld (hc := Blk.cell (i := 0) (h145.1) rfl) rfl rfl ?_)))
   refine o_mv rfl rfl ?_
   obtain ⟨q148, e149, hf119⟩ := bs hf119
   replace hx1 := (hx1.st S144).st S147
   replace h136 := (h136.st S144).st S147
   refine l_callA (O := O143) (A := All w146) (R := fun w' F v => Vb w' F v q148) (c_base_Holds (fun _ h => h) (Vb.mono (F := Fr 0 w146 O143) h136 Fr.lt) (Vb.mono (F := Fr 0 w146 O143) hx1 Fr.lt) e149) rfl rfl fun v154 w150 O151 S152 h153 => ?_
   obtain rfl := h153.bool
   cases q148
   case false =>
    replace hf119 := iF hf119
    refine o_z ?_
    refine ewp_false rfl (ewp_skip ?_)
    obtain rfl := sm hf119
    refine (?_ : Exists _)
    replace hB := ((hB.st S144).st S147).st S152
    replace hx1 := hx1.st S152
    replace h102 := ((h102.st S144).st S147).st S152
    replace h126 := ((h126.st S144).st S147).st S152
    exact ⟨_, (), rfl, ⟨rfl, rfl, rfl, rfl, rfl, trivial⟩, _, hB, hx1, h126, h102⟩
   replace hf119 := iT hf119
   refine o_z ?_
   refine ewp_true rfl (ewp_region (o_mv rfl rfl (o_fa rfl rfl ?_)))
   replace h145 := h145.st S152
   refine o_ld (hc := Blk.cell (i := 1) (h145.1) rfl) rfl rfl ?_
   refine o_fa rfl rfl (o_ld (hc := Blk.cell (i := 2) (h145.1) rfl) rfl rfl ?_)
   obtain ⟨a155, e156, hf119⟩ := bs hf119
   obtain ⟨p158, x157⟩ := atI_some' e156
   replace h126 := ((h126.st S144).st S147).st S152
   obtain ⟨b159, o160, ce161, hA162, hl163, hd164, rfl, r166⟩ := h126.elem x157
   refine o_iaE (hA := hA162) (hj := (Int.toNat_of_nonneg p158).symm) (hlt := hl163) rfl rfl rfl ?_
   refine l_setE rfl h126 (a := a114.val) (vInt r140) hA162 rfl rfl (lt_of_get x157) fun w167 S168 h126 => ?_
   refine o_z ?_
   obtain rfl := sm hf119
   refine (?_ : Exists _)
   replace hB := (((hB.st S144).st S147).st S152).st S168
   replace hx1 := (hx1.st S152).st S168
   replace h102 := (((h102.st S144).st S147).st S152).st S168
   exact ⟨_, (), rfl, ⟨rfl, rfl, rfl, rfl, rfl, trivial⟩, _, hB, hx1, h126, h102⟩
  replace hB := (hB.st S72).st S83
  rintro l169 w170 ⟨s173, x174, rfl, hs172, O171, hB, h126⟩
  replace hm := fin_done hm
  refine ewp_sub _ hs172 ?_
  refine ewp_seq (ewp_region (o_mv rfl rfl (o_as rfl rfl (o_as rfl rfl (o_z ?_)))))
  refine ewp_ret ?_
  obtain ⟨O175, S176, h126⟩ := h126.freeze
  obtain rfl := sm hm
  replace hB := hB.st S176
  exact ret2 rfl (res_tmp rfl) (res_tmp rfl) ⟨hB.ext, _, _, rfl, (Vb.mono (F := Fr 0 w170 O175) h126 hB.out), vBool⟩
noncomputable def m_base_Rank (x0 : List Int) (x1 : List Int) : Option Int :=
  bnd (rng (ρ := Int) (fun (k13 : Nat) (a14 : Int) (s11 : Int) => bnd (x0[k13]?) fun a26 => bnd (chkI (s11 * a26)) fun n36 => bnd (chkI (n36 + a14)) fun n47 => some (.next n47)) x1 0 0) fun res9 => fin res9 fun (s54 : Int) => some s54
theorem c_base_Rank {w : World} {A : Nat → Prop} (hA : ∀ k, A k → k < w.heap.size) {vx0 : Value} {x0 : List Int} (hx0 : Vb w A vx0 x0) {vx1 : Value} {x1 : List Int} (hx1 : Vb w A vx1 x1) {r : Int} (hm : m_base_Rank x0 x1 = some r) :
    Fn Try.prog 21 [vx0, vx1] w fun v w' => Ext w w' ∧ Vb w' (upA A w w') v r := by
 obtain ⟨O, hB, hA0⟩ := enter hA
 replace hx0 := hx0.mono hA0
 obtain ⟨A3, c4, rfl⟩ := hx0.form
 replace hx1 := hx1.mono hA0
 obtain ⟨A5, c6, rfl⟩ := hx1.form
 refine fn_enter Try.func21 rfl Try.ntmps21 rfl ?_
 unfold m_base_Rank at hm
 refine ewp_seq (ewp_region (o_as rfl rfl (o_z ?_)))
 refine ewp_seq (ewp_region (o_as rfl rfl (o_z ?_)))
 refine ewp_seq (ewp_seq (ewp_region (o_mv rfl rfl (o_ln rfl rfl ?_))))
 have l8 : x1.length ≤ 9223372036854775807 := Nat.le_trans hx1.len.2.1 hx1.len.2.2
 have r7 : inI64 (x1.length : Int) := rngNat l8
 refine o_mv rfl rfl (o_z ?_)
 obtain ⟨res9, hL10, hm⟩ := bs hm
 refine ewp_join (aft res9 (fun (s11 : Int) (x12 : Unit) => [(5, (.int .i64 s11))]) (fun s11 x12 w' => ∃ O' : Lab, Bs w A w' O' ∧ inI64 s11)) ?_ ?_
 ·
  refine ewp_block (ewp_rng (σ := Int) (X := Unit) (x1.length) hL10 rfl l8 (fun (s11 : Int) (x12 : Unit) => [(0, (.slice A3 x0.length c4)), (1, (.slice A5 x1.length c6)), (5, (.int .i64 s11))]) _ (fun s11 x12 w' => ∃ O' : Lab, Bs w A w' O' ∧ Vb w' (Fr 0 w' O') (.slice A3 x0.length c4) x0 ∧ Vb w' (Fr 0 w' O') (.slice A5 x1.length c6) x1 ∧ inI64 s11) _ () ⟨O, hB, hx0, hx1, (show inI64 (0) from by decide)⟩ ⟨rfl, rfl, rfl, rfl, rfl, trivial⟩ (fun _ _ => ⟨rfl, rfl⟩) (fun _ _ => ⟨rfl, trivial⟩) (fun _ _ _ ⟨O', hB, hx0, hx1, r25⟩ => ⟨O', hB, r25⟩) ⟨rfl, rfl, rfl⟩ ⟨rfl, rfl⟩ ?_)
  rintro k13 a14 s11 x12 w15 cc17 hx18 ⟨O16, hB, hx0, hx1, r25⟩ hf19 hret20 hbrk21
  have rk13 : inI64 (k13 : Int) := rngK hx18 l8
  refine ewp_seq (ewp_region (o_mv rfl rfl (o_as rfl rfl (o_z ?_))))
  refine ewp_draw (· = w15) [(0, true), (1, true), (2, true), (3, true), (4, true), (5, true), (6, true), (7, true), (8, true), (9, true), (10, true), (11, true)] (by kernel_rfl) rfl (by kernel_rfl) rfl ?_
  refine h_mv rfl rfl rfl (h_mv rfl rfl rfl (h_mv rfl rfl rfl ?_))
  obtain ⟨a26, e27, hf19⟩ := bs hf19
  obtain ⟨b28, o29, ce30, hA31, hl32, hd33, rfl, r35⟩ := hx0.elem' e27
  refine h_iaE (hA := hA31) (hj := rfl) (hlt := hl32) rfl rfl rfl rfl ?_
  refine h_ldA (hc := cat0 hd33) rfl rfl rfl ?_
  obtain ⟨n36, e37, hf19⟩ := bs hf19
  have r38 := (chkI_rng e37)
  refine h_mlE (he := e37) rfl rfl rfl rfl ?_
  refine h_mv rfl rfl rfl (h_mv rfl rfl rfl ?_)
  obtain ⟨b39, o40, ce41, hA42, hl43, hd44, rfl, r46⟩ := hx1.elem' hx18
  refine h_iaE (hA := hA42) (hj := rfl) (hlt := hl43) rfl rfl rfl rfl ?_
  refine h_ldA (hc := cat0 hd44) rfl rfl rfl ?_
  obtain ⟨n47, e48, hf19⟩ := bs hf19
  have r49 := (chkI_rng e48)
  refine h_adE (he := e48) rfl rfl rfl rfl ?_
  refine h_as rfl rfl rfl (h_z ?_)
  obtain rfl := sm hf19
  refine (?_ : Exists _)
  exact ⟨_, (), rfl, ⟨rfl, rfl, rfl, rfl, rfl, trivial⟩, _, hB, hx0, hx1, r49⟩
 rintro l50 w51 ⟨s54, x55, rfl, hs53, O52, hB, r25⟩
 replace hm := fin_done hm
 refine ewp_sub _ hs53 ?_
 refine ewp_seq (ewp_region (o_mv rfl rfl (o_as rfl rfl (o_z ?_))))
 refine ewp_ret ?_
 obtain rfl := sm hm
 exact ret1v rfl (res_tmp rfl) ⟨hB.ext, (vInt r25)⟩
noncomputable def m_base_Edges (x0 : Tsk) : Option (List Edg) :=
  bnd (m_base_States x0.vars) fun q24 => bnd (rng (ρ := (List Edg)) (fun (k39 : Nat) (a40 : List Int) (s37 : (List Edg)) => bnd (rng (ρ := Ctl (List Edg) (List Edg)) (fun (k71 : Nat) (a72 : Opr) (s69 : (List Edg)) => bnd (m_base_Apply x0 a40 (k71 : Int)) fun q86 => if q86.2 = true then (bnd (m_base_Rank x0.vars q86.1) fun q100 => bnd (appI 24 s69 [(⟨(k39 : Int), (k71 : Int), q100⟩ : Edg)]) fun u108 => some (.next u108)) else (some (.next s69))) x0.ops 0 s37) fun res67 => fin res67 fun (s124 : (List Edg)) => some (.next s124)) q24 0 ([] : List Edg)) fun res35 => fin res35 fun (s130 : (List Edg)) => some s130
theorem c_base_Edges {w : World} {A : Nat → Prop} (hA : ∀ k, A k → k < w.heap.size) {vx0 : Value} {x0 : Tsk} (hx0 : Vb w A vx0 x0) {r : (List Edg)} (hm : m_base_Edges x0 = some r) :
    Fn Try.prog 38 [vx0] w fun v w' => Ext w w' ∧ Vb w' (upA A w w') v r := by
 obtain ⟨O, hB, hA0⟩ := enter hA
 replace hx0 := hx0.mono hA0
 obtain ⟨cs2, rfl, v3, v4, v5, v6, rfl, h7, h10, h13, h16⟩ := hx0
 obtain ⟨A8, c9, rfl⟩ := h7.form
 obtain ⟨A11, c12, rfl⟩ := h10.form
 obtain ⟨A14, c15, rfl⟩ := h13.form
 obtain ⟨A17, c18, rfl⟩ := h16.form
 refine fn_enter Try.func38 rfl Try.ntmps38 rfl ?_
 unfold m_base_Edges at hm
 refine ewp_seq (ewp_region (l_box 2 O rfl rfl fun g19 w20 O21 S22 h23 => ?_))
 replace h23 : Lc 2 w20 O21 g19 26 [(.slice A8 x0.vars.length c9), (.slice A11 x0.init.length c12), (.slice A14 x0.goal.length c15), (.slice A17 x0.ops.length c18)] := h23
 refine o_as rfl rfl (o_z ?_)
 refine ewp_seq (ewp_region (o_as rfl rfl (o_z ?_)))
 refine ewp_seq (ewp_seq (ewp_region (o_fa rfl rfl (o_ld (hc := Blk.cell (i := 0) (h23.1) rfl) rfl rfl ?_))))
 obtain ⟨q24, e25, hm⟩ := bs hm
 replace h7 := h7.st S22
 refine l_call (O := O21) (R := fun w' F v => Vb w' F v q24) (c_base_States Fr.lt h7 e25) rfl rfl fun v30 w26 O27 S28 h29 => ?_
 obtain ⟨A31, c32, rfl⟩ := h29.form
 refine o_ln rfl rfl ?_
 have l34 : q24.length ≤ 9223372036854775807 := Nat.le_trans h29.len.2.1 h29.len.2.2
 have r33 : inI64 (q24.length : Int) := rngNat l34
 refine o_mv rfl rfl (o_z ?_)
 obtain ⟨res35, hL36, hm⟩ := bs hm
 refine ewp_join (aft res35 (fun (s37 : (List Edg)) (x38 : (Option Addr × Nat)) => [(3, (.slice x38.1 s37.length x38.2))]) (fun s37 x38 w' => ∃ O' : Lab, Bs w A w' O' ∧ Rw 3 w' O' 75 (.slice x38.1 s37.length x38.2) s37)) ?_ ?_
 ·
  refine ewp_block ?_
  replace hB := (hB.st S22).st S28
  replace h7 := h7.st S28
  replace h10 := (h10.st S22).st S28
  replace h13 := (h13.st S22).st S28
  replace h16 := (h16.st S22).st S28
  replace h23 := h23.st S28
  refine ewp_rng (σ := (List Edg)) (X := (Option Addr × Nat)) (q24.length) hL36 rfl l34 (fun (s37 : (List Edg)) (x38 : (Option Addr × Nat)) => [(1, (.pointer (some ⟨g19, 0, none⟩))), (3, (.slice x38.1 s37.length x38.2)), (11, (.slice A31 q24.length c32))]) _ (fun s37 x38 w' => ∃ O' : Lab, Bs w A w' O' ∧ Lc 2 w' O' g19 26 [(.slice A8 x0.vars.length c9), (.slice A11 x0.init.length c12), (.slice A14 x0.goal.length c15), (.slice A17 x0.ops.length c18)] ∧ Vb w' (Fr 0 w' O') (.slice A8 x0.vars.length c9) x0.vars ∧ Vb w' (Fr 0 w' O') (.slice A11 x0.init.length c12) x0.init ∧ Vb w' (Fr 0 w' O') (.slice A14 x0.goal.length c15) x0.goal ∧ Vb w' (Fr 0 w' O') (.slice A17 x0.ops.length c18) x0.ops ∧ Rw 3 w' O' 75 (.slice x38.1 s37.length x38.2) s37 ∧ Vb w' (Fr 0 w' O') (.slice A31 q24.length c32) q24) _ (none, 0) ⟨O27, hB, h23, h7, h10, h13, h16, (Rw.nil 3 (by decide)), h29⟩ ⟨rfl, rfl, rfl, rfl, rfl, trivial⟩ (fun _ _ => ⟨rfl, rfl⟩) (fun _ _ => ⟨rfl, trivial⟩) (fun _ _ _ ⟨O', hB, h23, h7, h10, h13, h16, h52, h29⟩ => ⟨O', hB, h52⟩) ⟨rfl, rfl, rfl⟩ ⟨rfl, rfl⟩ ?_
  rintro k39 a40 s37 x38 w41 cc43 hx44 ⟨O42, hB, h23, h7, h10, h13, h16, h52, h29⟩ hf45 hret46 hbrk47
  have rk39 : inI64 (k39 : Int) := rngK hx44 l34
  refine ewp_seq (ewp_region (o_mv rfl rfl ?_))
  obtain ⟨b54, o55, ce56, hA57, hl58, hd59, v61, rfl, h62⟩ := h29.elem' hx44
  replace h62 := Vb.of_slice h62
  obtain ⟨A63, c64, rfl⟩ := h62.form
  refine o_iaE (hA := hA57) (hj := rfl) (hlt := hl58) rfl rfl rfl ?_
  refine o_ld (hc := cat0 hd59) rfl rfl ?_
  refine o_as rfl rfl (o_as rfl rfl (o_z ?_))
  refine ewp_seq (ewp_region (o_fa rfl rfl (o_ld (hc := Blk.cell (i := 3) (h23.1) rfl) rfl rfl ?_)))
  refine o_ln rfl rfl ?_
  have l66 : x0.ops.length ≤ 9223372036854775807 := Nat.le_trans h16.len.2.1 h16.len.2.2
  have r65 : inI64 (x0.ops.length : Int) := rngNat l66
  refine o_mv rfl rfl (o_z ?_)
  obtain ⟨res67, hL68, hf45⟩ := bs hf45
  refine ewp_join (aft res67 (fun (s69 : (List Edg)) (x70 : (Option Addr × Nat)) => [(1, (.pointer (some ⟨g19, 0, none⟩))), (3, (.slice x70.1 s69.length x70.2)), (11, (.slice A31 q24.length c32)), (12, (.int .i64 (q24.length : Int))), (13, (.int .i64 (k39 : Int)))]) (fun s69 x70 w' => ∃ O' : Lab, Bs w A w' O' ∧ Lc 2 w' O' g19 26 [(.slice A8 x0.vars.length c9), (.slice A11 x0.init.length c12), (.slice A14 x0.goal.length c15), (.slice A17 x0.ops.length c18)] ∧ Vb w' (Fr 0 w' O') (.slice A8 x0.vars.length c9) x0.vars ∧ Vb w' (Fr 0 w' O') (.slice A11 x0.init.length c12) x0.init ∧ Vb w' (Fr 0 w' O') (.slice A14 x0.goal.length c15) x0.goal ∧ Vb w' (Fr 0 w' O') (.slice A17 x0.ops.length c18) x0.ops ∧ Rw 3 w' O' 75 (.slice x70.1 s69.length x70.2) s69 ∧ Vb w' (Fr 0 w' O') (.slice A31 q24.length c32) q24)) ?_ ?_
  ·
   refine ewp_block (ewp_rng (σ := (List Edg)) (X := (Option Addr × Nat)) (x0.ops.length) hL68 rfl l66 (fun (s69 : (List Edg)) (x70 : (Option Addr × Nat)) => [(1, (.pointer (some ⟨g19, 0, none⟩))), (3, (.slice x70.1 s69.length x70.2)), (4, (.int .i64 (k39 : Int))), (5, (.slice A63 a40.length c64)), (11, (.slice A31 q24.length c32)), (12, (.int .i64 (q24.length : Int))), (13, (.int .i64 (k39 : Int)))]) _ (fun s69 x70 w' => ∃ O' : Lab, Bs w A w' O' ∧ Lc 2 w' O' g19 26 [(.slice A8 x0.vars.length c9), (.slice A11 x0.init.length c12), (.slice A14 x0.goal.length c15), (.slice A17 x0.ops.length c18)] ∧ Vb w' (Fr 0 w' O') (.slice A8 x0.vars.length c9) x0.vars ∧ Vb w' (Fr 0 w' O') (.slice A11 x0.init.length c12) x0.init ∧ Vb w' (Fr 0 w' O') (.slice A14 x0.goal.length c15) x0.goal ∧ Vb w' (Fr 0 w' O') (.slice A17 x0.ops.length c18) x0.ops ∧ Rw 3 w' O' 75 (.slice x70.1 s69.length x70.2) s69 ∧ Vb w' (Fr 0 w' O') (.slice A63 a40.length c64) a40 ∧ Vb w' (Fr 0 w' O') (.slice A31 q24.length c32) q24) _ (x38.1, x38.2) ⟨O42, hB, h23, h7, h10, h13, h16, h52, h62, h29⟩ ⟨rfl, rfl, rfl, rfl, rfl, rfl, rfl, rfl, rfl, trivial⟩ (fun _ _ => ⟨rfl, rfl⟩) (fun _ _ => ⟨rfl, rfl, rfl, rfl, rfl, trivial⟩) (fun _ _ _ ⟨O', hB, h23, h7, h10, h13, h16, h84, h62, h29⟩ => ⟨O', hB, h23, h7, h10, h13, h16, h84, h29⟩) ⟨rfl, rfl, rfl⟩ ⟨rfl, rfl⟩ ?_)
   rintro k71 a72 s69 x70 w73 cc75 hx76 ⟨O74, hB, h23, h7, h10, h13, h16, h84, h62, h29⟩ hf77 hret78 hbrk79
   have rk71 : inI64 (k71 : Int) := rngK hx76 l66
   refine ewp_seq (ewp_region (o_mv rfl rfl (o_as rfl rfl (o_z ?_))))
   refine ewp_seq (ewp_region (o_la (hl := rfl) (hc := (h23.1).cellsAt) rfl rfl ?_))
   refine o_mv rfl rfl (o_mv rfl rfl ?_)
   obtain ⟨q86, e87, hf77⟩ := bs hf77
   refine l_call (O := O74) (R := fun w' F v => T2 w' F v q86) (c_base_Apply Fr.lt (Vb.ofAgg (cs := [(.slice A8 x0.vars.length c9), (.slice A11 x0.init.length c12), (.slice A14 x0.goal.length c15), (.slice A17 x0.ops.length c18)]) (x := x0) rfl ⟨_, _, _, _, rfl, h7, h10, h13, h16⟩) h62 rk71 e87) rfl rfl fun v92 w88 O89 S90 h91 => ?_
   obtain ⟨v93, v94, rfl, h95, h96⟩ := h91
   obtain ⟨A97, c98, rfl⟩ := h95.form
   obtain rfl := h96.bool
   refine o_mv rfl rfl (o_ex rfl rfl rfl (o_ex rfl rfl rfl (o_as rfl rfl (o_as rfl rfl (o_z ?_)))))
   refine ewp_seq (ewp_region (o_mv rfl rfl (o_z ?_)))
   refine ewp_cond rfl (fun c99 => ?_) (fun c99 => ?_)
   ·
    replace hf77 := ip hf77 c99
    refine ewp_region (o_mv rfl rfl (o_mv rfl rfl (o_mv rfl rfl (o_fa rfl rfl ?_))))
    replace h23 := h23.st S90
    refine o_ld (hc := Blk.cell (i := 0) (h23.1) rfl) rfl rfl ?_
    refine o_mv rfl rfl ?_
    obtain ⟨q100, e101, hf77⟩ := bs hf77
    replace h7 := h7.st S90
    refine l_callA (O := O89) (A := All w88) (R := fun w' F v => Vb w' F v q100) (c_base_Rank (fun _ h => h) (Vb.mono (F := Fr 0 w88 O89) h7 Fr.lt) (Vb.mono (F := Fr 0 w88 O89) h95 Fr.lt) e101) rfl rfl fun v106 w102 O103 S104 h105 => ?_
    obtain ⟨rfl, r107⟩ := h105.int
    refine o_bd rfl rfl rfl ?_
    obtain ⟨u108, e109, hf77⟩ := bs hf77
    obtain ⟨e109, e110, e111⟩ := appI_some e109
    replace h84 := (h84.st S90).st S104
    refine l_append1 rfl (a := (⟨(k39 : Int), (k71 : Int), q100⟩ : Edg)) h84 (Vb.ofAgg (cs := [(.int .i64 (k39 : Int)), (.int .i64 (k71 : Int)), (.int .i64 q100)]) (x := (⟨(k39 : Int), (k71 : Int), q100⟩ : Edg)) rfl ⟨rfl, rk39, rk71, r107⟩) (fun _ => rfl) rfl (by decide) (by decide) e110 e111 ⟨rfl, rfl⟩ fun g112 A113 c114 w115 O116 S117 h118 => ?_
    rw [← e109] at h118 ⊢
    refine o_as rfl rfl (o_z ?_)
    obtain rfl := sm hf77
    refine (?_ : Exists _)
    replace hB := ((hB.st S90).st S104).st S117
    replace h7 := (h7.st S104).st S117
    replace h10 := ((h10.st S90).st S104).st S117
    replace h13 := ((h13.st S90).st S104).st S117
    replace h16 := ((h16.st S90).st S104).st S117
    replace h23 := (h23.st S104).st S117
    replace h29 := ((h29.st S90).st S104).st S117
    replace h62 := ((h62.st S90).st S104).st S117
    exact ⟨_, (A113, c114), rfl, ⟨rfl, rfl, rfl, rfl, rfl, rfl, rfl, rfl, rfl, trivial⟩, _, hB, h23, h7, h10, h13, h16, h118, h62, h29⟩
   ·
    replace hf77 := im' hf77 c99
    refine ewp_skip ?_
    obtain rfl := sm hf77
    refine (?_ : Exists _)
    replace hB := hB.st S90
    replace h7 := h7.st S90
    replace h10 := h10.st S90
    replace h13 := h13.st S90
    replace h16 := h16.st S90
    replace h23 := h23.st S90
    replace h29 := h29.st S90
    replace h62 := h62.st S90
    replace h84 := h84.st S90
    exact ⟨_, (x70.1, x70.2), rfl, ⟨rfl, rfl, rfl, rfl, rfl, rfl, rfl, rfl, rfl, trivial⟩, _, hB, h23, h7, h10, h13, h16, h84, h62, h29⟩
  rintro l120 w121 ⟨s124, x125, rfl, hs123, O122, hB, h23, h7, h10, h13, h16, h84, h29⟩
  replace hf45 := fin_done hf45
  obtain rfl := sm hf45
  refine (?_ : Exists _)
  exact ⟨_, (x125.1, x125.2), rfl, ⟨(subs_lk hs123 _ _ rfl), (subs_lk hs123 _ _ rfl), (subs_lk hs123 _ _ rfl), (subs_lk hs123 _ _ rfl), (subs_lk hs123 _ _ rfl), trivial⟩, _, hB, h23, h7, h10, h13, h16, h84, h29⟩
 replace hB := (hB.st S22).st S28
 rintro l126 w127 ⟨s130, x131, rfl, hs129, O128, hB, h52⟩
 replace hm := fin_done hm
 refine ewp_sub _ hs129 ?_
 refine ewp_seq (ewp_region (o_mv rfl rfl (o_as rfl rfl (o_z ?_))))
 refine ewp_ret ?_
 obtain ⟨O132, S133, h52⟩ := h52.freeze
 obtain rfl := sm hm
 replace hB := hB.st S133
 exact ret1v rfl (res_tmp rfl) ⟨hB.ext, (Vb.mono (F := Fr 0 w127 O132) h52 hB.out)⟩
noncomputable def m_base_Distances (x0 : Tsk) : Option (List Int) :=
  bnd (m_base_States x0.vars) fun q25 => bnd (mkI 8 (0 : Int) (q25.length : Int)) fun u36 => bnd (rng (ρ := (List Int)) (fun (k55 : Nat) (a56 : List Int) (s53 : (List Int)) => bnd (s53[k55]?) fun a81 => bnd (m_base_Holds x0.goal a56) fun q93 => if q93 = true then bnd ((s53.set k55 1125899906842624)[k55]?) fun a100 => some (.next ((s53.set k55 1125899906842624).set k55 0)) else some (.next (s53.set k55 1125899906842624))) q25 0 u36) fun res51 => fin res51 fun (s116 : (List Int)) => bnd (m_base_Edges x0) fun q118 => bnd (lop (ρ := (List Int)) (fun (s129 : (List Int) × Bool) => if s129.2 = true then (bnd (rng (ρ := Ctl ((List Int) × Bool) (List Int)) (fun (k153 : Nat) (a154 : Edg) (s151 : (List Int) × Bool) => bnd (atI x0.ops a154.op) fun a185 => bnd (bnd (atI s151.1 a154.dst) fun a210 => if a210 < 1125899906842624 then (bnd (atI s151.1 a154.dst) fun a223 => bnd (chkI (a223 + a185.cost)) fun n235 => bnd (atI s151.1 a154.src) fun a238 => if n235 < a238 then (some true) else (some false)) else (some false) : Option Bool) fun y206 => if y206 = true then (bnd (atI s151.1 a154.dst) fun a256 => bnd (chkI (a256 + a185.cost)) fun n268 => bnd (atI s151.1 a154.src) fun a271 => some (.next ((s151.1.set (a154.src : Int).toNat n268), true))) else (some (.next (s151.1, s151.2)))) q118 0 (s129.1, false)) fun res149 => fin res149 fun (s289 : (List Int) × Bool) => some (.next (s289.1, s289.2))) else (some (.brk (s129.1, s129.2)))) (s116, true)) fun res127 => fin res127 fun (s295 : (List Int) × Bool) => some s295.1
theorem c_base_Distances {w : World} {A : Nat → Prop} (hA : ∀ k, A k → k < w.heap.size) {vx0 : Value} {x0 : Tsk} (hx0 : Vb w A vx0 x0) {r : (List Int)} (hm : m_base_Distances x0 = some r) :
    Fn Try.prog 37 [vx0, (.slice none 0 0)] w fun v w' => Ext w w' ∧ Vb w' (upA A w w') v r := by
 obtain ⟨O, hB, hA0⟩ := enter hA
 replace hx0 := hx0.mono hA0
 obtain ⟨cs3, rfl, v4, v5, v6, v7, rfl, h8, h11, h14, h17⟩ := hx0
 obtain ⟨A9, c10, rfl⟩ := h8.form
 obtain ⟨A12, c13, rfl⟩ := h11.form
 obtain ⟨A15, c16, rfl⟩ := h14.form
 obtain ⟨A18, c19, rfl⟩ := h17.form
 refine fn_enter Try.func37 rfl Try.ntmps37 rfl ?_
 unfold m_base_Distances at hm
 refine ewp_seq (ewp_region (l_box 2 O rfl rfl fun g20 w21 O22 S23 h24 => ?_))
 replace h24 : Lc 2 w21 O22 g20 26 [(.slice A9 x0.vars.length c10), (.slice A12 x0.init.length c13), (.slice A15 x0.goal.length c16), (.slice A18 x0.ops.length c19)] := h24
 refine o_as rfl rfl (o_z ?_)
 refine ewp_seq (ewp_region (o_fa rfl rfl (o_ld (hc := Blk.cell (i := 0) (h24.1) rfl) rfl rfl ?_)))
 obtain ⟨q25, e26, hm⟩ := bs hm
 replace h8 := h8.st S23
 refine l_call (O := O22) (R := fun w' F v => Vb w' F v q25) (c_base_States Fr.lt h8 e26) rfl rfl fun v31 w27 O28 S29 h30 => ?_
 obtain ⟨A32, c33, rfl⟩ := h30.form
 refine o_as rfl rfl (o_z ?_)
 refine ewp_seq (ewp_region (o_mv rfl rfl (o_ln rfl rfl ?_)))
 have l35 : q25.length ≤ 9223372036854775807 := Nat.le_trans h30.len.2.1 h30.len.2.2
 have r34 : inI64 (q25.length : Int) := rngNat l35
 obtain ⟨u36, e37, hm⟩ := bs hm
 obtain ⟨m38, e39, e40, e41, e42⟩ := mkI_some e37
 refine l_make 3 (by decide) O28 (z0 := (0 : Int)) rfl rfl rfl rfl rfl e39 (vInt (show inI64 0 from by decide)) e40 e41 rfl fun g43 w44 O45 S46 h47 => ?_
 rw [← e42] at h47 ⊢
 refine o_as rfl rfl (o_z ?_)
 refine ewp_seq (ewp_seq (ewp_region (o_mv rfl rfl (o_ln rfl rfl ?_))))
 replace h30 := h30.st S46
 have l50 : q25.length ≤ 9223372036854775807 := Nat.le_trans h30.len.2.1 h30.len.2.2
 have r49 : inI64 (q25.length : Int) := rngNat l50
 refine o_mv rfl rfl (o_z ?_)
 obtain ⟨res51, hL52, hm⟩ := bs hm
 refine ewp_join (aft res51 (fun (s53 : (List Int)) (x54 : Unit) => [(1, (.slice none 0 0)), (2, (.pointer (some ⟨g20, 0, none⟩))), (6, (.slice (some ⟨g43, 0, none⟩) u36.length m38))]) (fun s53 x54 w' => ∃ O' : Lab, Bs w A w' O' ∧ Lc 2 w' O' g20 26 [(.slice A9 x0.vars.length c10), (.slice A12 x0.init.length c13), (.slice A15 x0.goal.length c16), (.slice A18 x0.ops.length c19)] ∧ Vb w' (Fr 0 w' O') (.slice A9 x0.vars.length c10) x0.vars ∧ Vb w' (Fr 0 w' O') (.slice A12 x0.init.length c13) x0.init ∧ Vb w' (Fr 0 w' O') (.slice A15 x0.goal.length c16) x0.goal ∧ Vb w' (Fr 0 w' O') (.slice A18 x0.ops.length c19) x0.ops ∧ Rw 3 w' O' 3 (.slice (some ⟨g43, 0, none⟩) u36.length m38) s53)) ?_ ?_
 ·
  refine ewp_block ?_
  replace hB := ((hB.st S23).st S29).st S46
  replace h8 := (h8.st S29).st S46
  replace h11 := ((h11.st S23).st S29).st S46
  replace h14 := ((h14.st S23).st S29).st S46
  replace h17 := ((h17.st S23).st S29).st S46
  replace h24 := (h24.st S29).st S46
  refine ewp_rng (σ := (List Int)) (X := Unit) (q25.length) hL52 rfl l50 (fun (s53 : (List Int)) (x54 : Unit) => [(1, (.slice none 0 0)), (2, (.pointer (some ⟨g20, 0, none⟩))), (6, (.slice (some ⟨g43, 0, none⟩) u36.length m38)), (20, (.slice A32 q25.length c33))]) _ (fun s53 x54 w' => ∃ O' : Lab, Bs w A w' O' ∧ Lc 2 w' O' g20 26 [(.slice A9 x0.vars.length c10), (.slice A12 x0.init.length c13), (.slice A15 x0.goal.length c16), (.slice A18 x0.ops.length c19)] ∧ Vb w' (Fr 0 w' O') (.slice A9 x0.vars.length c10) x0.vars ∧ Vb w' (Fr 0 w' O') (.slice A12 x0.init.length c13) x0.init ∧ Vb w' (Fr 0 w' O') (.slice A15 x0.goal.length c16) x0.goal ∧ Vb w' (Fr 0 w' O') (.slice A18 x0.ops.length c19) x0.ops ∧ Rw 3 w' O' 3 (.slice (some ⟨g43, 0, none⟩) u36.length m38) s53 ∧ Vb w' (Fr 0 w' O') (.slice A32 q25.length c33) q25) _ () ⟨O45, hB, h24, h8, h11, h14, h17, h47, h30⟩ ⟨rfl, rfl, rfl, rfl, rfl, rfl, trivial⟩ (fun _ _ => ⟨rfl, rfl⟩) (fun _ _ => ⟨rfl, rfl, rfl, trivial⟩) (fun _ _ _ ⟨O', hB, h24, h8, h11, h14, h17, h68, h30⟩ => ⟨O', hB, h24, h8, h11, h14, h17, h68⟩) ⟨rfl, rfl, rfl⟩ ⟨rfl, rfl⟩ ?_
  rintro k55 a56 s53 x54 w57 cc59 hx60 ⟨O58, hB, h24, h8, h11, h14, h17, h68, h30⟩ hf61 hret62 hbrk63
  have rk55 : inI64 (k55 : Int) := rngK hx60 l50
  refine ewp_seq (ewp_region (o_mv rfl rfl ?_))
  obtain ⟨b70, o71, ce72, hA73, hl74, hd75, v77, rfl, h78⟩ := h30.elem' hx60
  replace h78 := Vb.of_slice h78
  obtain ⟨A79, c80, rfl⟩ := h78.form
  refine o_iaE (hA := hA73) (hj := rfl) (hlt := hl74) rfl rfl rfl ?_
  refine o_ld (hc := cat0 hd75) rfl rfl ?_
  refine o_as rfl rfl (o_as rfl rfl (o_z ?_))
  refine ewp_seq (ewp_region (o_mv rfl rfl (o_mv rfl rfl ?_)))
  obtain ⟨a81, e82, hf61⟩ := bs hf61
  obtain ⟨b83, o84, ce85, hA86, hl87, hd88, rfl, r90⟩ := h68.elem e82
  refine o_iaE (hA := hA86) (hj := rfl) (hlt := hl87) rfl rfl rfl ?_
  refine l_setE rfl h68 (a := 1125899906842624) (vInt (show inI64 (1125899906842624) from by decide)) hA86 rfl rfl (lt_of_get e82) fun w91 S92 h68 => ?_
  refine o_z ?_
  refine ewp_seq (ewp_region (o_fa rfl rfl ?_))
  replace h24 := h24.st S92
  refine o_ld (hc := Blk.cell (i := 2) (h24.1) rfl) rfl rfl ?_
  refine o_mv rfl rfl ?_
  obtain ⟨q93, e94, hf61⟩ := bs hf61
  replace h14 := h14.st S92
  replace h78 := h78.st S92
  refine l_callA (O := O58) (A := All w91) (R := fun w' F v => Vb w' F v q93) (c_base_Holds (fun _ h => h) (Vb.mono (F := Fr 0 w91 O58) h14 Fr.lt) (Vb.mono (F := Fr 0 w91 O58) h78 Fr.lt) e94) rfl rfl fun v99 w95 O96 S97 h98 => ?_
  obtain rfl := h98.bool
  cases q93
  case false =>
   replace hf61 := iF hf61
   refine o_z ?_
   refine ewp_false rfl (ewp_skip ?_)
   obtain rfl := sm hf61
   refine (?_ : Exists _)
   replace hB := (hB.st S92).st S97
   replace h8 := (h8.st S92).st S97
   replace h11 := (h11.st S92).st S97
   replace h14 := h14.st S97
   replace h17 := (h17.st S92).st S97
   replace h24 := h24.st S97
   replace h30 := (h30.st S92).st S97
   replace h68 := h68.st S97
   exact ⟨_, (), rfl, ⟨rfl, rfl, rfl, rfl, rfl, rfl, trivial⟩, _, hB, h24, h8, h11, h14, h17, h68, h30⟩
  replace hf61 := iT hf61
  refine o_z ?_
  refine ewp_true rfl (ewp_region (o_mv rfl rfl (o_mv rfl rfl ?_)))
  obtain ⟨a100, e101, hf61⟩ := bs hf61
  replace h68 := h68.st S97
  obtain ⟨b102, o103, ce104, hA105, hl106, hd107, rfl, r109⟩ := h68.elem e101
  refine o_iaE (hA := hA105) (hj := rfl) (hlt := hl106) rfl rfl rfl ?_
  refine l_setE rfl h68 (a := 0) (vInt (show inI64 (0) from by decide)) hA105 rfl rfl (lt_of_get e101) fun w110 S111 h68 => ?_
  refine o_z ?_
  obtain rfl := sm hf61
  refine (?_ : Exists _)
  replace hB := ((hB.st S92).st S97).st S111
  replace h8 := ((h8.st S92).st S97).st S111
  replace h11 := ((h11.st S92).st S97).st S111
  replace h14 := (h14.st S97).st S111
  replace h17 := ((h17.st S92).st S97).st S111
  replace h24 := (h24.st S97).st S111
  replace h30 := ((h30.st S92).st S97).st S111
  exact ⟨_, (), rfl, ⟨rfl, rfl, rfl, rfl, rfl, rfl, trivial⟩, _, hB, h24, h8, h11, h14, h17, h68, h30⟩
 replace hB := ((hB.st S23).st S29).st S46
 replace h8 := (h8.st S29).st S46
 replace h11 := ((h11.st S23).st S29).st S46
 replace h14 := ((h14.st S23).st S29).st S46
 replace h17 := ((h17.st S23).st S29).st S46
 replace h24 := (h24.st S29).st S46
 rintro l112 w113 ⟨s116, x117, rfl, hs115, O114, hB, h24, h8, h11, h14, h17, h68⟩
 replace hm := fin_done hm
 refine ewp_sub _ hs115 ?_
 refine ewp_seq (ewp_region (o_la (hl := rfl) (hc := (h24.1).cellsAt) rfl rfl ?_))
 obtain ⟨q118, e119, hm⟩ := bs hm
 refine l_call (O := O114) (R := fun w' F v => Vb w' F v q118) (c_base_Edges Fr.lt (Vb.ofAgg (cs := [(.slice A9 x0.vars.length c10), (.slice A12 x0.init.length c13), (.slice A15 x0.goal.length c16), (.slice A18 x0.ops.length c19)]) (x := x0) rfl ⟨_, _, _, _, rfl, h8, h11, h14, h17⟩) e119) rfl rfl fun v124 w120 O121 S122 h123 => ?_
 obtain ⟨A125, c126, rfl⟩ := h123.form
 refine o_as rfl rfl (o_z ?_)
 refine ewp_seq (ewp_seq (ewp_region (o_as rfl rfl (o_z ?_))))
 obtain ⟨res127, hL128, hm⟩ := bs hm
 refine ewp_join (aft res127 (fun (s129 : (List Int) × Bool) (x130 : Unit) => [(6, (.slice (some ⟨g43, 0, none⟩) u36.length m38))]) (fun s129 x130 w' => ∃ O' : Lab, Bs w A w' O' ∧ Rw 3 w' O' 3 (.slice (some ⟨g43, 0, none⟩) u36.length m38) s129.1)) ?_ ?_
 ·
  refine ewp_block ?_
  replace hB := hB.st S122
  replace h8 := h8.st S122
  replace h11 := h11.st S122
  replace h14 := h14.st S122
  replace h17 := h17.st S122
  replace h24 := h24.st S122
  replace h68 := h68.st S122
  refine ewp_lop (σ := (List Int) × Bool) (X := Unit) hL128 (fun (s129 : (List Int) × Bool) (x130 : Unit) => [(1, (.slice none 0 0)), (2, (.pointer (some ⟨g20, 0, none⟩))), (6, (.slice (some ⟨g43, 0, none⟩) u36.length m38)), (9, (.slice A125 q118.length c126)), (10, (.bool s129.2))]) _ (fun s129 x130 w' => ∃ O' : Lab, Bs w A w' O' ∧ Lc 2 w' O' g20 26 [(.slice A9 x0.vars.length c10), (.slice A12 x0.init.length c13), (.slice A15 x0.goal.length c16), (.slice A18 x0.ops.length c19)] ∧ Vb w' (Fr 0 w' O') (.slice A9 x0.vars.length c10) x0.vars ∧ Vb w' (Fr 0 w' O') (.slice A12 x0.init.length c13) x0.init ∧ Vb w' (Fr 0 w' O') (.slice A15 x0.goal.length c16) x0.goal ∧ Vb w' (Fr 0 w' O') (.slice A18 x0.ops.length c19) x0.ops ∧ Rw 3 w' O' 3 (.slice (some ⟨g43, 0, none⟩) u36.length m38) s129.1 ∧ Vb w' (Fr 0 w' O') (.slice A125 q118.length c126) q118) _ () ⟨O121, hB, h24, h8, h11, h14, h17, h68, h123⟩ ⟨rfl, rfl, rfl, rfl, rfl, trivial⟩ ?_
  rintro s129 x130 w133 cc135 ⟨O134, hB, h24, h8, h11, h14, h17, h144, h123⟩ hf137 hret138 hbrk139
  refine ewp_seq (ewp_seq (ewp_region (o_mv rfl rfl (o_z ?_))))
  refine ewp_cond rfl (fun c146 => ?_) (fun c146 => ?_)
  ·
   replace hf137 := ip hf137 c146
   refine ewp_skip (ewp_block (ewp_seq (ewp_region (o_as rfl rfl (o_z ?_)))))
   refine ewp_seq (ewp_region (o_mv rfl rfl (o_ln rfl rfl ?_)))
   have l148 : q118.length ≤ 9223372036854775807 := Nat.le_trans h123.len.2.1 h123.len.2.2
   have r147 : inI64 (q118.length : Int) := rngNat l148
   refine o_mv rfl rfl (o_z ?_)
   obtain ⟨res149, hL150, hf137⟩ := bs hf137
   refine ewp_join (aft res149 (fun (s151 : (List Int) × Bool) (x152 : Unit) => [(1, (.slice none 0 0)), (2, (.pointer (some ⟨g20, 0, none⟩))), (6, (.slice (some ⟨g43, 0, none⟩) u36.length m38)), (9, (.slice A125 q118.length c126)), (10, (.bool s151.2))]) (fun s151 x152 w' => ∃ O' : Lab, Bs w A w' O' ∧ Lc 2 w' O' g20 26 [(.slice A9 x0.vars.length c10), (.slice A12 x0.init.length c13), (.slice A15 x0.goal.length c16), (.slice A18 x0.ops.length c19)] ∧ Vb w' (Fr 0 w' O') (.slice A9 x0.vars.length c10) x0.vars ∧ Vb w' (Fr 0 w' O') (.slice A12 x0.init.length c13) x0.init ∧ Vb w' (Fr 0 w' O') (.slice A15 x0.goal.length c16) x0.goal ∧ Vb w' (Fr 0 w' O') (.slice A18 x0.ops.length c19) x0.ops ∧ Rw 3 w' O' 3 (.slice (some ⟨g43, 0, none⟩) u36.length m38) s151.1 ∧ Vb w' (Fr 0 w' O') (.slice A125 q118.length c126) q118)) ?_ ?_
   ·
    refine ewp_block (ewp_rng (σ := (List Int) × Bool) (X := Unit) (q118.length) hL150 rfl l148 (fun (s151 : (List Int) × Bool) (x152 : Unit) => [(1, (.slice none 0 0)), (2, (.pointer (some ⟨g20, 0, none⟩))), (6, (.slice (some ⟨g43, 0, none⟩) u36.length m38)), (9, (.slice A125 q118.length c126)), (10, (.bool s151.2)), (41, (.slice A125 q118.length c126))]) _ (fun s151 x152 w' => ∃ O' : Lab, Bs w A w' O' ∧ Lc 2 w' O' g20 26 [(.slice A9 x0.vars.length c10), (.slice A12 x0.init.length c13), (.slice A15 x0.goal.length c16), (.slice A18 x0.ops.length c19)] ∧ Vb w' (Fr 0 w' O') (.slice A9 x0.vars.length c10) x0.vars ∧ Vb w' (Fr 0 w' O') (.slice A12 x0.init.length c13) x0.init ∧ Vb w' (Fr 0 w' O') (.slice A15 x0.goal.length c16) x0.goal ∧ Vb w' (Fr 0 w' O') (.slice A18 x0.ops.length c19) x0.ops ∧ Rw 3 w' O' 3 (.slice (some ⟨g43, 0, none⟩) u36.length m38) s151.1 ∧ Vb w' (Fr 0 w' O') (.slice A125 q118.length c126) q118) _ () ⟨O134, hB, h24, h8, h11, h14, h17, h144, h123⟩ ⟨rfl, rfl, rfl, rfl, rfl, rfl, rfl, rfl, trivial⟩ (fun _ _ => ⟨rfl, rfl⟩) (fun _ _ => ⟨rfl, rfl, rfl, rfl, rfl, trivial⟩) (fun _ _ _ ⟨O', hB, h24, h8, h11, h14, h17, h166, h123⟩ => ⟨O', hB, h24, h8, h11, h14, h17, h166, h123⟩) ⟨rfl, rfl, rfl⟩ ⟨rfl, rfl⟩ ?_)
    rintro k153 a154 s151 x152 w155 cc157 hx158 ⟨O156, hB, h24, h8, h11, h14, h17, h166, h123⟩ hf159 hret160 hbrk161
    have rk153 : inI64 (k153 : Int) := rngK hx158 l148
    refine ewp_seq (ewp_region ?_)
    obtain ⟨b168, o169, ce170, hA171, hl172, hd173, rfl, r175, r176, r177⟩ := h123.elem' hx158
    refine o_iaE (hA := hA171) (hj := rfl) (hlt := hl172) rfl rfl rfl ?_
    refine o_la (hl := rfl) (hc := hd173) rfl rfl ?_
    refine l_alloc 4 O156 rfl fun g178 w179 O180 S181 h182 => ?_
    refine l_store h182 rfl rfl rfl (Nat.le_of_ble_eq_true rfl) (by first | exact allOne rfl | simp [Value.cells, Value.oneCell', errV_one]) fun w183 S184 h182 => ?_
    replace h182 : Lc 4 w183 O180 g178 75 [(.int .i64 a154.src), (.int .i64 a154.op), (.int .i64 a154.dst)] := h182
    refine o_z ?_
    refine ewp_seq (ewp_region (o_fa rfl rfl ?_))
    replace h24 := (h24.st S181).st S184
    refine o_ld (hc := Blk.cell (i := 3) (h24.1) rfl) rfl rfl ?_
    refine o_fa rfl rfl (o_ld (hc := Blk.cell (i := 1) (h182.1) rfl) rfl rfl ?_)
    obtain ⟨a185, e186, hf159⟩ := bs hf159
    obtain ⟨p188, x187⟩ := atI_some' e186
    replace h17 := (h17.st S181).st S184
    obtain ⟨b189, o190, ce191, hA192, hl193, hd194, v196, v197, rfl, h198, h201, r204, z205⟩ := h17.elem' x187
    obtain ⟨A199, c200, rfl⟩ := h198.form
    obtain ⟨A202, c203, rfl⟩ := h201.form
    refine o_iaE (hA := hA192) (hj := (Int.toNat_of_nonneg p188).symm) (hlt := hl193) rfl rfl rfl ?_
    refine o_fa rfl rfl (o_ld (hc := cat1 hd194) rfl rfl ?_)
    refine o_as rfl rfl (o_z ?_)
    refine ewp_seq (ewp_seq (ewp_region (o_mv rfl rfl (o_sq rfl rfl ?_))))
    refine o_z ?_
    refine ewp_false rfl (ewp_skip (ewp_seq ?_))
    obtain ⟨y206, hy207, hf159⟩ := bs hf159
    refine ewp_join (fun l' w' => ∃ (x209 : Unit) (O' : Lab), subs l' [(1, (.slice none 0 0)), (2, (.pointer (some ⟨g20, 0, none⟩))), (6, (.slice (some ⟨g43, 0, none⟩) u36.length m38)), (9, (.slice A125 q118.length c126)), (10, (.bool s151.2)), (12, (.pointer (some ⟨g178, 0, none⟩))), (13, (.int .i64 a185.cost)), (41, (.slice A125 q118.length c126)), (42, (.int .i64 (q118.length : Int))), (43, (.int .i64 (k153 : Int))), (81, (.bool y206))] ∧ Bs w A w' O' ∧ Lc 2 w' O' g20 26 [(.slice A9 x0.vars.length c10), (.slice A12 x0.init.length c13), (.slice A15 x0.goal.length c16), (.slice A18 x0.ops.length c19)] ∧ Vb w' (Fr 0 w' O') (.slice A9 x0.vars.length c10) x0.vars ∧ Vb w' (Fr 0 w' O') (.slice A12 x0.init.length c13) x0.init ∧ Vb w' (Fr 0 w' O') (.slice A15 x0.goal.length c16) x0.goal ∧ Vb w' (Fr 0 w' O') (.slice A18 x0.ops.length c19) x0.ops ∧ Rw 3 w' O' 3 (.slice (some ⟨g43, 0, none⟩) u36.length m38) s151.1 ∧ Vb w' (Fr 0 w' O') (.slice A125 q118.length c126) q118 ∧ Lc 4 w' O' g178 75 [(.int .i64 a154.src), (.int .i64 a154.op), (.int .i64 a154.dst)]) ?_ ?_
    ·
     refine ewp_draw (· = w183) [(0, true), (1, true), (2, true), (3, true), (4, true), (5, true), (6, true), (7, true), (8, true), (9, true), (10, true), (11, true), (12, true), (13, true), (14, true), (15, true), (16, true), (17, true), (18, true), (19, true), (20, true)] (by kernel_rfl) rfl (by kernel_rfl) rfl ?_
     refine h_mv rfl rfl rfl (h_fa rfl rfl rfl (h_ldA (hc := Blk.cell (i := 2) (h182.1) rfl) rfl rfl rfl ?_))
     obtain ⟨a210, e211, hy207⟩ := bs hy207
     obtain ⟨p213, x212⟩ := atI_some' e211
     replace h166 := (h166.st S181).st S184
     obtain ⟨b214, o215, ce216, hA217, hl218, hd219, rfl, r221⟩ := h166.elem x212
     refine h_iaE (hA := hA217) (hj := (Int.toNat_of_nonneg p213).symm) (hlt := hl218) rfl rfl rfl rfl ?_
     refine h_ldA (hc := cat0 hd219) rfl rfl rfl ?_
     refine h_ltS rfl rfl rfl rfl (fun c222 => ?_) fun c222 => ?_
     ·
      replace hy207 := ip hy207 c222
      refine h_mv rfl rfl rfl (hwp_o rfl (hwq_yes rfl rfl (g_mv rfl rfl (hwp_o rfl (hwq_yes rfl rfl (g_fa rfl rfl (hwp_o rfl (hwq_yes rfl rfl (g_ldA (hc := Blk.cell (i := 2) (h182.1) rfl) rfl rfl ?_)))))))))
      refine hwp_o rfl (hwq_yes rfl rfl ?_)
      obtain ⟨a223, e224, hy207⟩ := bs hy207
      obtain ⟨p226, x225⟩ := atI_some' e224
      obtain ⟨b227, o228, ce229, hA230, hl231, hd232, rfl, r234⟩ := h166.elem x225
      refine g_iaE (hA := hA230) (hj := (Int.toNat_of_nonneg p226).symm) (hlt := hl231) rfl rfl rfl ?_
      refine hwp_o rfl (hwq_yes rfl rfl (g_ldA (hc := cat0 hd232) rfl rfl ?_))
      refine hwp_o rfl (hwq_yes rfl rfl (g_mv rfl rfl (hwp_o rfl (hwq_yes rfl rfl ?_))))
      obtain ⟨n235, e236, hy207⟩ := bs hy207
      have r237 := (chkI_rng e236)
      refine g_adE (he := e236) rfl rfl rfl ?_
      refine hwp_o rfl (hwq_yes rfl rfl (g_mv rfl rfl (hwp_o rfl (hwq_yes rfl rfl (g_fa rfl rfl (hwp_o rfl (hwq_yes rfl rfl (g_ldA (hc := Blk.cell (i := 0) (h182.1) rfl) rfl rfl ?_))))))))
      refine hwp_o rfl (hwq_yes rfl rfl ?_)
      obtain ⟨a238, e239, hy207⟩ := bs hy207
      obtain ⟨p241, x240⟩ := atI_some' e239
      obtain ⟨b242, o243, ce244, hA245, hl246, hd247, rfl, r249⟩ := h166.elem x240
      refine g_iaE (hA := hA245) (hj := (Int.toNat_of_nonneg p241).symm) (hlt := hl246) rfl rfl rfl ?_
      refine hwp_o rfl (hwq_yes rfl rfl (g_ldA (hc := cat0 hd247) rfl rfl ?_))
      refine hwp_o rfl (hwq_yes rfl rfl (hwq_split (fun _ _ => ev_lss rfl rfl) rfl (fun c250 => ?_) (fun c250 => ?_)))
      ·
       replace hy207 := ip hy207 c250
       refine h_pt rfl rfl rfl rfl (h_z ?_)
       obtain rfl := sm hy207
       replace hB := (hB.st S181).st S184
       replace h8 := (h8.st S181).st S184
       replace h11 := (h11.st S181).st S184
       replace h14 := (h14.st S181).st S184
       replace h123 := (h123.st S181).st S184
       exact ⟨(), _, ⟨rfl, rfl, rfl, rfl, rfl, rfl, rfl, rfl, rfl, rfl, rfl, trivial⟩, hB, h24, h8, h11, h14, h17, h166, h123, h182⟩
      ·
       replace hy207 := im hy207 c250
       refine h_pt rfl rfl rfl rfl (h_z ?_)
       obtain rfl := sm hy207
       replace hB := (hB.st S181).st S184
       replace h8 := (h8.st S181).st S184
       replace h11 := (h11.st S181).st S184
       replace h14 := (h14.st S181).st S184
       replace h123 := (h123.st S181).st S184
       exact ⟨(), _, ⟨rfl, rfl, rfl, rfl, rfl, rfl, rfl, rfl, rfl, rfl, rfl, trivial⟩, hB, h24, h8, h11, h14, h17, h166, h123, h182⟩
     ·
      replace hy207 := im hy207 c222
      refine h_mv rfl rfl rfl (h_no rfl rfl rfl rfl rfl (h_no rfl rfl rfl rfl rfl (h_no rfl rfl rfl rfl rfl (h_no rfl rfl rfl rfl rfl (h_no rfl rfl rfl rfl rfl (h_no rfl rfl rfl rfl rfl (h_no rfl rfl rfl rfl rfl (h_no rfl rfl rfl rfl rfl (h_no rfl rfl rfl rfl rfl (h_no rfl rfl rfl rfl rfl (h_no rfl rfl rfl rfl rfl (h_no rfl rfl rfl rfl rfl (h_no rfl rfl rfl rfl rfl (h_pf rfl rfl rfl rfl ?_))))))))))))))
      refine h_z ?_
      obtain rfl := sm hy207
      replace hB := (hB.st S181).st S184
      replace h8 := (h8.st S181).st S184
      replace h11 := (h11.st S181).st S184
      replace h14 := (h14.st S181).st S184
      replace h123 := (h123.st S181).st S184
      exact ⟨(), _, ⟨rfl, rfl, rfl, rfl, rfl, rfl, rfl, rfl, rfl, rfl, rfl, trivial⟩, hB, h24, h8, h11, h14, h17, h166, h123, h182⟩
    replace hB := (hB.st S181).st S184
    replace h8 := (h8.st S181).st S184
    replace h11 := (h11.st S181).st S184
    replace h14 := (h14.st S181).st S184
    replace h123 := (h123.st S181).st S184
    replace h166 := (h166.st S181).st S184
    rintro l251 w252 ⟨x209, O253, hs254, hB, h24, h8, h11, h14, h17, h166, h123, h182⟩
    refine ewp_sub _ hs254 ?_
    refine ewp_cond rfl (fun c255 => ?_) (fun c255 => ?_)
    ·
     replace hf159 := ip hf159 c255
     refine ewp_seq (ewp_drawX [] O253 ?_)
     refine x_pre (fuel := 1) [] [(0, true), (1, true), (2, true), (3, true), (4, true), (5, true), (6, true), (7, true), (8, true), (9, true), (10, true)] (by kernel_rfl) rfl ?_
     refine h_mv rfl rfl rfl (h_fa rfl rfl rfl (h_ldC (hc := fun w' ⟨O', hq⟩ => Blk.cell (i := 0) ((h182.st hq (by decide)).1) rfl) rfl rfl rfl ?_))
     refine h_mv rfl rfl rfl (h_fa rfl rfl rfl (h_ldC (hc := fun w' ⟨O', hq⟩ => Blk.cell (i := 2) ((h182.st hq (by decide)).1) rfl) rfl rfl rfl ?_))
     obtain ⟨a256, e257, hf159⟩ := bs hf159
     obtain ⟨p259, x258⟩ := atI_some' e257
     obtain ⟨b260, o261, ce262, hA263, hF266, hl264, hd265, rfl, r267⟩ := h166.elemF x258
     refine h_iaE (hA := hA263) (hj := (Int.toNat_of_nonneg p259).symm) (hlt := hl264) rfl rfl rfl rfl ?_
     refine h_ldC (hc := fun w' ⟨O', hq⟩ => cat0 (cellsAt_agree (hq.agree (i := 3) (by decide)) hF266 hd265)) rfl rfl rfl ?_
     refine h_mv rfl rfl rfl ?_
     obtain ⟨n268, e269, hf159⟩ := bs hf159
     have r270 := (chkI_rng e269)
     refine h_adE (he := e269) rfl rfl rfl rfl ?_
     obtain ⟨a271, e272, hf159⟩ := bs hf159
     obtain ⟨p274, x273⟩ := atI_some' e272
     obtain ⟨b275, o276, ce277, hA278, hF281, hl279, hd280, rfl, r282⟩ := h166.elemF x273
     refine h_iaE (hA := hA278) (hj := (Int.toNat_of_nonneg p274).symm) (hlt := hl279) rfl rfl rfl rfl ?_
     refine hwp_nilT ?_
     refine x_one (i := 11) (by kernel_rfl) rfl ?_
     refine l_setE rfl h166 (a := n268) (vInt r270) hA278 rfl rfl (lt_of_get x273) fun w283 S284 h166 => ?_
     refine x_end (by kernel_rfl) ?_
     refine x_nil (by kernel_rfl) ?_
     refine ewp_region (o_as rfl rfl (o_z ?_))
     obtain rfl := sm hf159
     refine (?_ : Exists _)
     replace hB := hB.st S284
     replace h8 := h8.st S284
     replace h11 := h11.st S284
     replace h14 := h14.st S284
     replace h17 := h17.st S284
     replace h24 := h24.st S284
     replace h123 := h123.st S284
     exact ⟨_, (), rfl, ⟨rfl, rfl, rfl, rfl, rfl, rfl, rfl, rfl, trivial⟩, _, hB, h24, h8, h11, h14, h17, h166, h123⟩
    ·
     replace hf159 := im' hf159 c255
     refine ewp_skip ?_
     obtain rfl := sm hf159
     refine (?_ : Exists _)
     exact ⟨_, (), rfl, ⟨rfl, rfl, rfl, rfl, rfl, rfl, rfl, rfl, trivial⟩, _, hB, h24, h8, h11, h14, h17, h166, h123⟩
   rintro l285 w286 ⟨s289, x290, rfl, hs288, O287, hB, h24, h8, h11, h14, h17, h166, h123⟩
   replace hf137 := fin_done hf137
   obtain rfl := sm hf137
   refine (?_ : Exists _)
   exact ⟨_, (), rfl, ⟨(subs_lk hs288 _ _ rfl), (subs_lk hs288 _ _ rfl), (subs_lk hs288 _ _ rfl), (subs_lk hs288 _ _ rfl), (subs_lk hs288 _ _ rfl), trivial⟩, _, hB, h24, h8, h11, h14, h17, h166, h123⟩
  ·
   replace hf137 := im' hf137 c146
   refine ewp_exit ?_
   obtain rfl := sm hf137
   refine (?_ : Exists _)
   exact ⟨_, (), hbrk139 _ rfl, ⟨rfl, trivial⟩, _, hB, h144⟩
 replace hB := hB.st S122
 rintro l291 w292 ⟨s295, x296, rfl, hs294, O293, hB, h144⟩
 replace hm := fin_done hm
 refine ewp_sub _ hs294 ?_
 refine ewp_seq (ewp_region (o_mv rfl rfl (o_as rfl rfl (o_z ?_))))
 refine ewp_ret ?_
 obtain ⟨O297, S298, h144⟩ := h144.freeze
 obtain rfl := sm hm
 replace hB := hB.st S298
 exact ret1v rfl (res_tmp rfl) ⟨hB.ext, (Vb.mono (F := Fr 0 w292 O297) h144 hB.out)⟩
noncomputable def m_base_Cost (x0 : Tsk) (x1 : List Int) (x2 : List Int) : Option (Int × Bool) :=
  bnd (rng (ρ := Int × Bool) (fun (k36 : Nat) (a37 : Int) (s34 : (List Int) × Int) => bnd (m_base_Apply x0 s34.1 a37) fun q59 => if (!q59.2) = true then (some (.ret (0, false))) else (bnd (atI x0.ops a37) fun a73 => bnd (chkI (s34.2 + a73.cost)) fun n94 => some (.next (q59.1, n94)))) x2 0 (x1, 0)) fun res32 => fin res32 fun (s101 : (List Int) × Int) => bnd (bnd (m_base_Holds x0.goal s101.1) fun q107 => if q107 = true then some true else some false : Option Bool) fun y103 => some (s101.2, y103)
theorem c_base_Cost {w : World} {A : Nat → Prop} (hA : ∀ k, A k → k < w.heap.size) {vx0 : Value} {x0 : Tsk} (hx0 : Vb w A vx0 x0) {vx1 : Value} {x1 : List Int} (hx1 : Vb w A vx1 x1) {vx2 : Value} {x2 : List Int} (hx2 : Vb w A vx2 x2) {r : Int × Bool} (hm : m_base_Cost x0 x1 x2 = some r) :
    Fn Try.prog 43 [vx0, vx1, vx2] w fun v w' => Ext w w' ∧ T2 w' (upA A w w') v r := by
 obtain ⟨O, hB, hA0⟩ := enter hA
 replace hx0 := hx0.mono hA0
 obtain ⟨cs4, rfl, v5, v6, v7, v8, rfl, h9, h12, h15, h18⟩ := hx0
 obtain ⟨A10, c11, rfl⟩ := h9.form
 obtain ⟨A13, c14, rfl⟩ := h12.form
 obtain ⟨A16, c17, rfl⟩ := h15.form
 obtain ⟨A19, c20, rfl⟩ := h18.form
 replace hx1 := hx1.mono hA0
 obtain ⟨A21, c22, rfl⟩ := hx1.form
 replace hx2 := hx2.mono hA0
 obtain ⟨A23, c24, rfl⟩ := hx2.form
 refine fn_enter Try.func43 rfl Try.ntmps43 rfl ?_
 unfold m_base_Cost at hm
 refine ewp_seq (ewp_region (l_box 2 O rfl rfl fun g25 w26 O27 S28 h29 => ?_))
 replace h29 : Lc 2 w26 O27 g25 26 [(.slice A10 x0.vars.length c11), (.slice A13 x0.init.length c14), (.slice A16 x0.goal.length c17), (.slice A19 x0.ops.length c20)] := h29
 refine o_as rfl rfl (o_as rfl rfl (o_z ?_))
 refine ewp_seq (ewp_region (o_as rfl rfl (o_z ?_)))
 refine ewp_seq (ewp_seq (ewp_region (o_mv rfl rfl (o_ln rfl rfl ?_))))
 replace hx2 := hx2.st S28
 have l31 : x2.length ≤ 9223372036854775807 := Nat.le_trans hx2.len.2.1 hx2.len.2.2
 have r30 : inI64 (x2.length : Int) := rngNat l31
 refine o_mv rfl rfl (o_z ?_)
 obtain ⟨res32, hL33, hm⟩ := bs hm
 refine ewp_join (aft res32 (fun (s34 : (List Int) × Int) (x35 : (Option Addr × Nat)) => [(1, (.slice x35.1 s34.1.length x35.2)), (3, (.pointer (some ⟨g25, 0, none⟩))), (8, (.int .i64 s34.2))]) (fun s34 x35 w' => ∃ O' : Lab, Bs w A w' O' ∧ Vb w' (Fr 0 w' O') (.slice x35.1 s34.1.length x35.2) s34.1 ∧ Lc 2 w' O' g25 26 [(.slice A10 x0.vars.length c11), (.slice A13 x0.init.length c14), (.slice A16 x0.goal.length c17), (.slice A19 x0.ops.length c20)] ∧ Vb w' (Fr 0 w' O') (.slice A10 x0.vars.length c11) x0.vars ∧ Vb w' (Fr 0 w' O') (.slice A13 x0.init.length c14) x0.init ∧ Vb w' (Fr 0 w' O') (.slice A16 x0.goal.length c17) x0.goal ∧ Vb w' (Fr 0 w' O') (.slice A19 x0.ops.length c20) x0.ops ∧ inI64 s34.2)) ?_ ?_
 ·
  refine ewp_block ?_
  replace hB := hB.st S28
  replace hx1 := hx1.st S28
  replace h9 := h9.st S28
  replace h12 := h12.st S28
  replace h15 := h15.st S28
  replace h18 := h18.st S28
  refine ewp_rng (σ := (List Int) × Int) (X := (Option Addr × Nat)) (x2.length) hL33 rfl l31 (fun (s34 : (List Int) × Int) (x35 : (Option Addr × Nat)) => [(1, (.slice x35.1 s34.1.length x35.2)), (3, (.pointer (some ⟨g25, 0, none⟩))), (8, (.int .i64 s34.2)), (13, (.slice A23 x2.length c24))]) _ (fun s34 x35 w' => ∃ O' : Lab, Bs w A w' O' ∧ Vb w' (Fr 0 w' O') (.slice x35.1 s34.1.length x35.2) s34.1 ∧ Lc 2 w' O' g25 26 [(.slice A10 x0.vars.length c11), (.slice A13 x0.init.length c14), (.slice A16 x0.goal.length c17), (.slice A19 x0.ops.length c20)] ∧ Vb w' (Fr 0 w' O') (.slice A10 x0.vars.length c11) x0.vars ∧ Vb w' (Fr 0 w' O') (.slice A13 x0.init.length c14) x0.init ∧ Vb w' (Fr 0 w' O') (.slice A16 x0.goal.length c17) x0.goal ∧ Vb w' (Fr 0 w' O') (.slice A19 x0.ops.length c20) x0.ops ∧ Vb w' (Fr 0 w' O') (.slice A23 x2.length c24) x2 ∧ inI64 s34.2) _ (A21, c22) ⟨O27, hB, hx1, h29, h9, h12, h15, h18, hx2, (show inI64 (0) from by decide)⟩ ⟨rfl, rfl, rfl, rfl, rfl, rfl, trivial⟩ (fun _ _ => ⟨rfl, rfl⟩) (fun _ _ => ⟨rfl, rfl, rfl, trivial⟩) (fun _ _ _ ⟨O', hB, h49, h29, h9, h12, h15, h18, hx2, r50⟩ => ⟨O', hB, h49, h29, h9, h12, h15, h18, r50⟩) ⟨rfl, rfl, rfl⟩ ⟨rfl, rfl⟩ ?_
  rintro k36 a37 s34 x35 w38 cc40 hx41 ⟨O39, hB, h49, h29, h9, h12, h15, h18, hx2, r50⟩ hf42 hret43 hbrk44
  have rk36 : inI64 (k36 : Int) := rngK hx41 l31
  refine ewp_seq (ewp_region ?_)
  obtain ⟨b51, o52, ce53, hA54, hl55, hd56, rfl, r58⟩ := hx2.elem' hx41
  refine o_iaE (hA := hA54) (hj := rfl) (hlt := hl55) rfl rfl rfl ?_
  refine o_ld (hc := cat0 hd56) rfl rfl ?_
  refine o_as rfl rfl (o_z ?_)
  refine ewp_seq (ewp_region (o_la (hl := rfl) (hc := (h29.1).cellsAt) rfl rfl ?_))
  refine o_mv rfl rfl (o_mv rfl rfl ?_)
  obtain ⟨q59, e60, hf42⟩ := bs hf42
  refine l_call (O := O39) (R := fun w' F v => T2 w' F v q59) (c_base_Apply Fr.lt (Vb.ofAgg (cs := [(.slice A10 x0.vars.length c11), (.slice A13 x0.init.length c14), (.slice A16 x0.goal.length c17), (.slice A19 x0.ops.length c20)]) (x := x0) rfl ⟨_, _, _, _, rfl, h9, h12, h15, h18⟩) h49 r58 e60) rfl rfl fun v65 w61 O62 S63 h64 => ?_
  obtain ⟨v66, v67, rfl, h68, h69⟩ := h64
  obtain ⟨A70, c71, rfl⟩ := h68.form
  obtain rfl := h69.bool
  refine o_mv rfl rfl (o_ex rfl rfl rfl (o_ex rfl rfl rfl (o_as rfl rfl (o_as rfl rfl (o_z ?_)))))
  refine ewp_seq (ewp_seq (ewp_region (o_mv rfl rfl (o_nn rfl rfl (o_z ?_)))))
  refine ewp_cond rfl (fun c72 => ?_) (fun c72 => ?_)
  ·
   replace hf42 := ip hf42 c72
   refine ewp_seq (ewp_region (o_as rfl rfl (o_as rfl rfl (o_z ?_))))
   refine ewp_ret ?_
   obtain rfl := sm hf42
   obtain rfl := hret43 _ rfl
   obtain rfl := sm (fin_ret hm)
   replace hB := hB.st S63
   exact ret2 rfl (res_tmp rfl) (res_tmp rfl) ⟨hB.ext, _, _, rfl, (vInt (show inI64 (0) from by decide)), vBool⟩
  ·
   replace hf42 := im' hf42 c72
   refine ewp_skip (ewp_seq (ewp_region (o_mv rfl rfl (o_as rfl rfl (o_z ?_)))))
   refine ewp_region (o_mv rfl rfl (o_fa rfl rfl ?_))
   replace h29 := h29.st S63
   refine o_ld (hc := Blk.cell (i := 3) (h29.1) rfl) rfl rfl ?_
   refine o_mv rfl rfl ?_
   obtain ⟨a73, e74, hf42⟩ := bs hf42
   obtain ⟨p76, x75⟩ := atI_some' e74
   replace h18 := h18.st S63
   obtain ⟨b77, o78, ce79, hA80, hl81, hd82, v84, v85, rfl, h86, h89, r92, z93⟩ := h18.elem' x75
   obtain ⟨A87, c88, rfl⟩ := h86.form
   obtain ⟨A90, c91, rfl⟩ := h89.form
   refine o_iaE (hA := hA80) (hj := (Int.toNat_of_nonneg p76).symm) (hlt := hl81) rfl rfl rfl ?_
   refine o_fa rfl rfl (o_ld (hc := cat1 hd82) rfl rfl ?_)
   obtain ⟨n94, e95, hf42⟩ := bs hf42
   have r96 := (chkI_rng e95)
   refine o_adE (he := e95) rfl rfl rfl ?_
   refine o_as rfl rfl (o_z ?_)
   obtain rfl := sm hf42
   refine (?_ : Exists _)
   replace hB := hB.st S63
   replace hx2 := hx2.st S63
   replace h9 := h9.st S63
   replace h12 := h12.st S63
   replace h15 := h15.st S63
   exact ⟨_, (A70, c71), rfl, ⟨rfl, rfl, rfl, rfl, rfl, rfl, trivial⟩, _, hB, h68, h29, h9, h12, h15, h18, hx2, r96⟩
 replace hB := hB.st S28
 replace h9 := h9.st S28
 replace h12 := h12.st S28
 replace h15 := h15.st S28
 replace h18 := h18.st S28
 rintro l97 w98 ⟨s101, x102, rfl, hs100, O99, hB, h49, h29, h9, h12, h15, h18, r50⟩
 replace hm := fin_done hm
 refine ewp_sub _ hs100 ?_
 refine ewp_seq ?_
 obtain ⟨y103, hy104, hm⟩ := bs hm
 refine ewp_join (fun l' w' => ∃ (x106 : Unit) (O' : Lab), subs l' [(6, (.int .i64 s101.2)), (7, (.bool y103))] ∧ Bs w A w' O') ?_ ?_
 ·
  refine ewp_region (o_mv rfl rfl (o_fa rfl rfl (o_ld (hc := Blk.cell (i := 2) (h29.1) rfl) rfl rfl ?_)))
  refine o_mv rfl rfl ?_
  obtain ⟨q107, e108, hy104⟩ := bs hy104
  refine l_callA (O := O99) (A := All w98) (R := fun w' F v => Vb w' F v q107) (c_base_Holds (fun _ h => h) (Vb.mono (F := Fr 0 w98 O99) h15 Fr.lt) (Vb.mono (F := Fr 0 w98 O99) h49 Fr.lt) e108) rfl rfl fun v113 w109 O110 S111 h112 => ?_
  obtain rfl := h112.bool
  cases q107
  case false =>
   replace hy104 := iF hy104
   refine o_as rfl rfl (o_as rfl rfl (o_z ?_))
   obtain rfl := sm hy104
   replace hB := hB.st S111
   exact ⟨(), _, ⟨rfl, rfl, trivial⟩, hB⟩
  replace hy104 := iT hy104
  refine o_as rfl rfl (o_as rfl rfl (o_z ?_))
  obtain rfl := sm hy104
  replace hB := hB.st S111
  exact ⟨(), _, ⟨rfl, rfl, trivial⟩, hB⟩
 rintro l114 w115 ⟨x106, O116, hs117, hB⟩
 refine ewp_sub _ hs117 ?_
 refine ewp_ret ?_
 obtain rfl := sm hm
 exact ret2 rfl (res_tmp rfl) (res_tmp rfl) ⟨hB.ext, _, _, rfl, (vInt r50), vBool⟩
end
section
section
variable {α σ ρ : Type}
theorem fin_d {s : σ} {f : σ → Option ρ} : fin (.done s) f = f s := rfl
theorem if_t {x y : α} : (if true = true then x else y) = x := rfl
theorem if_f {x y : α} : (if false = true then x else y) = y := rfl
theorem rng_inv_from {f : Nat → α → σ → Option (Ctl σ ρ)} {I : Nat → σ → Prop} {R : ρ → Prop} : ∀ (ys : List α) (j : Nat) (s : σ), I j s →
    (∀ k x s, ys[k]? = some x → I (j + k) s → (∃ s', f (j + k) x s = some (.next s') ∧ I (j + k + 1) s') ∨ (∃ r, f (j + k) x s = some (.ret r) ∧ R r)) →
    (∃ s', rng f ys j s = some (.done s') ∧ I (j + ys.length) s') ∨ ∃ r, rng f ys j s = some (.ret r) ∧ R r
  | [], j, s, h0, _ => .inl ⟨s, rfl, h0⟩
  | y :: ys, j, s, h0, h => by
    rcases h 0 y s rfl h0 with ⟨s', h1, h2⟩ | ⟨r, h1, h2⟩
    · have h1' : f j y s = some (.next s') := h1
      simp only [rng, h1']
      rcases rng_inv_from (I := I) (R := R) ys (j + 1) s' h2 (fun k x s hk hI => by
        have := h (k + 1) x s (by simpa using hk) (by rwa [show j + (k + 1) = j + 1 + k from by omega])
        rwa [show j + (k + 1) = j + 1 + k from by omega] at this) with ⟨s2, h3, h4⟩ | h3
      · exact .inl ⟨s2, h3, by rw [List.length_cons, show j + (ys.length + 1) = j + 1 + ys.length from by omega]; exact h4⟩
      · exact .inr h3
    · have h1' : f j y s = some (.ret r) := h1
      simp only [rng, h1']
      exact .inr ⟨r, rfl, h2⟩
theorem rng_inv {f : Nat → α → σ → Option (Ctl σ ρ)} {xs : List α} {s₀ : σ} (I : Nat → σ → Prop) (R : ρ → Prop) (h0 : I 0 s₀)
    (h : ∀ k x s, xs[k]? = some x → I k s → (∃ s', f k x s = some (.next s') ∧ I (k + 1) s') ∨ (∃ r, f k x s = some (.ret r) ∧ R r)) :
    (∃ s', rng f xs 0 s₀ = some (.done s') ∧ I xs.length s') ∨ ∃ r, rng f xs 0 s₀ = some (.ret r) ∧ R r := by
  have := rng_inv_from (f := f) (I := I) (R := R) xs 0 s₀ h0 (fun k x s hk hI => by rw [Nat.zero_add] at hI ⊢; exact h k x s hk hI)
  rwa [Nat.zero_add] at this
/-- A loop that runs to its end. -/
theorem rng_all {f : Nat → α → σ → Option (Ctl σ ρ)} {xs : List α} {s₀ : σ} (I : Nat → σ → Prop) (h0 : I 0 s₀) (h : ∀ k x s, xs[k]? = some x → I k s → ∃ s', f k x s = some (.next s') ∧ I (k + 1) s') :
    ∃ s', rng f xs 0 s₀ = some (.done s') ∧ I xs.length s' := by
  rcases rng_inv I (fun _ => False) h0 (fun k x s hk hI => .inl (h k x s hk hI)) with h | ⟨_, _, h⟩
  · exact h
  · exact h.elim
/-- A loop whose state is known in each round. -/
theorem rng_fun {f : Nat → α → σ → Option (Ctl σ ρ)} {xs : List α} (g : Nat → σ) (h : ∀ k x, xs[k]? = some x → f k x (g k) = some (.next (g (k + 1)))) : rng f xs 0 (g 0) = some (.done (g xs.length)) := by
  obtain ⟨s', h1, h2⟩ := rng_all (f := f) (xs := xs) (s₀ := g 0) (fun k s => s = g k) rfl (fun k x s hk hI => ⟨_, by rw [hI]; exact h k x hk, rfl⟩)
  rw [h1, h2]
theorem rng_from {f : Nat → α → σ → Option (Ctl σ ρ)} {xs : List α} {s₀ : σ} (g : Nat → σ) (h0 : s₀ = g 0) (h : ∀ k x, xs[k]? = some x → f k x (g k) = some (.next (g (k + 1)))) : rng f xs 0 s₀ = some (.done (g xs.length)) := by
  rw [h0]; exact rng_fun g h
theorem rngN_fun {f : Nat → σ → Option (Ctl σ ρ)} {N : Nat} (g : Nat → σ) (h : ∀ k, k < N → f k (g k) = some (.next (g (k + 1)))) : rngN f N (g 0) = some (.done (g N)) := by
  have := rng_fun (f := fun _ k s => f k s) (xs := List.range N) g (fun k x hk => by
    obtain ⟨hlt, rfl⟩ := List.getElem?_eq_some_iff.1 hk
    simpa using h k (by simpa using hlt))
  rwa [List.length_range] at this
theorem rngN_from {f : Nat → σ → Option (Ctl σ ρ)} {N : Nat} {s₀ : σ} (g : Nat → σ) (h0 : s₀ = g 0) (h : ∀ k, k < N → f k (g k) = some (.next (g (k + 1)))) : rngN f N s₀ = some (.done (g N)) := by
  rw [h0]; exact rngN_fun g h
end
end
section
open Go Go.RowKit
theorem states_eq {vars : List Int} (h0 : ∀ (i : Nat) n, vars[i]? = some n → 0 ≤ n ∧ n ≤ 64) (hb : ∀ k, (statesL (vars.take k)).length ≤ 1000000) (hvn : vars.length ≤ 1000) : m_base_States vars = some (statesL vars) := by
  unfold m_base_States
  rw [rng_from (fun k => statesL (vars.take k)) ?_ ?_]
  · rw [bnd_some, fin_d, List.take_length]
  · rfl
  intro k n hn
  obtain ⟨N, rfl⟩ := Int.eq_ofNat_of_zero_le (h0 k n hn).1
  have hN := (h0 k _ hn).2
  have hk := lt_of_get hn
  have hlen := hb k
  rw [rng_from (fun i => ((statesL (vars.take k)).take i).flatMap (exts N)) ?_ ?_]
  · rw [bnd_some, fin_d, List.take_length, statesL_step hn]; rfl
  · rfl
  intro i s hs
  have hsl := statesL_mem vars k (by omega) s (List.mem_of_getElem? hs)
  have hfl := grows_len N ((statesL (vars.take k)).take i)
  have hfl2 : ((statesL (vars.take k)).take i).length * N ≤ 1000000 * 64 := Nat.mul_le_mul (by rw [List.length_take]; omega) (by omega)
  rw [natI_eq, bnd_some, rngN_from (fun x => ((statesL (vars.take k)).take i).flatMap (exts N) ++ exts x s) ?_ ?_]
  · rw [bnd_some, fin_d, flat_step _ hs]
  · simp [exts]
  intro x hx
  rw [appI_eq (by simp; omega) (by simp; omega), bnd_some, appI_eq (by simp; omega) (by simp; omega), bnd_some, appI_eq (by simp only [List.length_append, exts_len, List.length_singleton]; omega) (by simp only [List.length_append, exts_len, List.length_singleton]; omega), bnd_some, exts_step]
  simp
theorem states_small {t : Tsk} (h : SmallOk t) : m_base_States t.vars = some (statesL t.vars) :=
  states_eq (fun i n hn => by have := h.ok.vars i n hn; omega) (fun k => by have := h.states k; omega) (by have := h.1; omega)
end
section
open Go Go.RowKit
/-- The state after an operator's effects. -/
def effsOn (s : List Int) : List Eff → List Int → List Int
  | [], out => out
  | e :: r, out => effsOn s r (if holdsB e.cond s = true then out.set e.var.toNat e.val else out)
theorem effsOn_append (s : List Int) : ∀ (a b : List Eff) (out : List Int), effsOn s (a ++ b) out = effsOn s b (effsOn s a out)
  | [], _, _ => rfl
  | e :: a, b, out => by simp [effsOn, effsOn_append s a b]
theorem effsOn_length (s : List Int) : ∀ (a : List Eff) (out : List Int), (effsOn s a out).length = out.length
  | [], _ => rfl
  | e :: a, out => by
    rw [effsOn, effsOn_length s a]
    split <;> simp
theorem effsOn_step (s : List Int) {l : List Eff} {k : Nat} {e : Eff} (h : l[k]? = some e) (out : List Int) : effsOn s (l.take (k + 1)) out = if holdsB e.cond s = true then (effsOn s (l.take k) out).set e.var.toNat e.val else effsOn s (l.take k) out := by
  rw [List.take_add_one, h, effsOn_append]; rfl
/-- The effects name variables of the state. -/
def EffsIn (s : List Int) (l : List Eff) : Prop := ∀ (i : Nat) e, l[i]? = some e → 0 ≤ e.var ∧ e.var < s.length
def succ (o : Opr) (s : List Int) : List Int := effsOn s o.effs s
end
section
open Go Go.RowKit
theorem holds_eq (f : List Fct) (s : List Int) : m_base_Holds f s = some (holdsB f s) := rfl
theorem effs_run {ρ : Type} {s : List Int} {effs : List Eff} (he : EffsIn s effs) (m : List Fct → List Int → Option Bool) (hm : ∀ f s, m f s = some (holdsB f s)) (u : List Int) (hu : u.length = s.length) :
    rng (ρ := ρ) (fun (_ : Nat) (e : Eff) (out : List Int) => bnd (m e.cond s) fun q => if q = true then bnd (atI out e.var) fun _ => some (.next (out.set (e.var).toNat e.val)) else some (.next out)) effs 0 u = some (.done (effsOn s effs u)) := by
  rw [rng_from (fun k => effsOn s (effs.take k) u) ?_ ?_, List.take_length]
  · rfl
  intro k e hk
  rw [hm, bnd_some, effsOn_step s hk]
  have hin := he k e hk
  have hl := effsOn_length s (effs.take k) u
  by_cases hb : holdsB e.cond s = true
  · rw [if_pos hb, if_pos hb]
    obtain ⟨j, hj⟩ := Int.eq_ofNat_of_zero_le hin.1
    rw [hj, atI_eq, List.getElem?_eq_getElem (by omega), bnd_some]
  · rw [if_neg hb, if_neg hb]
theorem apply_eq {t : Tsk} {s : List Int} {j : Nat} {o : Opr} (ho : t.ops[j]? = some o) (hp : holdsB o.pre s = true) (hl : s.length ≤ 1000000) (he : EffsIn s o.effs) : m_base_Apply t s (j : Int) = some (succ o s, true) := by
  have hj := lt_of_get ho
  unfold m_base_Apply
  rw [if_neg (by omega), if_neg (by omega), atI_eq, ho, bnd_some, holds_eq, bnd_some, hp, if_t, bnd_some, if_f, appI_eq (by simp; omega) (by simp; omega), bnd_some, bnd_some, List.nil_append, effs_run he m_base_Holds holds_eq s rfl, bnd_some, fin_d]
  rfl
theorem TaskOk.effs {t : Tsk} (h : TaskOk t) {s : List Int} (hs : StateOk t.vars s) : ∀ (i : Nat) o, t.ops[i]? = some o → EffsIn s o.effs := fun i o ho j e he => by
  obtain ⟨h1, _, y, hy, _⟩ := ((h.2.2.2.2.2 i o ho).2.2.2.2.2 j e he).2
  refine ⟨h1, ?_⟩
  have := lt_of_get hy
  rw [hs.1]
  simp only at h1 this
  omega
theorem effsOn_ok {vars s : List Int} : ∀ (l : List Eff), (∀ e ∈ l, EffOk vars e) → ∀ (u : List Int), StateOk vars u → StateOk vars (effsOn s l u)
  | [], _, _, hu => hu
  | e :: l, he, u, hu => by
    refine effsOn_ok l (fun e' h' => he e' (List.mem_cons_of_mem _ h')) _ ?_
    split
    · obtain ⟨_, h1, h2, y, hy, h3⟩ := he e List.mem_cons_self
      refine ⟨by rw [List.length_set]; exact hu.1, fun i x n hx hn => ?_⟩
      rw [List.getElem?_set] at hx
      by_cases hi : e.var.toNat = i
      · subst hi
        rw [if_pos rfl] at hx
        split at hx
        · obtain rfl := Option.some.inj hx
          simp only at hy h2 h3
          rw [hy] at hn
          obtain rfl := Option.some.inj hn
          exact ⟨h2, h3⟩
        · cases hx
      · rw [if_neg hi] at hx
        exact hu.2 i x n hx hn
    · exact hu
theorem succ_ok {t : Tsk} (h : TaskOk t) {s : List Int} (hs : StateOk t.vars s) {k : Nat} {o : Opr} (ho : t.ops[k]? = some o) : StateOk t.vars (succ o s) :=
  effsOn_ok o.effs (fun e he => by obtain ⟨j, hj⟩ := List.getElem?_of_mem he; exact (h.2.2.2.2.2 k o ho).2.2.2.2.2 j e hj) s hs
theorem apply_all {t : Tsk} (h : TaskOk t) {s : List Int} (hs : StateOk t.vars s) {k : Nat} {o : Opr} (ho : t.ops[k]? = some o) : m_base_Apply t s (k : Int) = some (if holdsB o.pre s = true then (succ o s, true) else ([], false)) := by
  have hk := lt_of_get ho
  by_cases hp : holdsB o.pre s = true
  · rw [apply_eq ho hp (by have := hs.1; have := h.1; omega) (h.effs hs k o ho), if_pos hp]
  · unfold m_base_Apply
    rw [if_neg (by omega), if_neg (by omega), atI_eq, ho, bnd_some, holds_eq, bnd_some, if_neg hp, if_neg hp, bnd_some, if_t]
theorem flat_get {n : Nat} (hn : 0 < n) : ∀ (l : List (List Int)) (q : Nat), (l.flatMap (exts n))[q]? = (l[q / n]?).map (· ++ [((q % n : Nat) : Int)])
  | [], q => by simp
  | a :: l, q => by
    rw [List.flatMap_cons]
    by_cases hq : q < n
    · rw [List.getElem?_append_left (by rw [exts_len]; exact hq), Nat.div_eq_of_lt hq, Nat.mod_eq_of_lt hq]
      simp [exts, hq]
    · rw [List.getElem?_append_right (by rw [exts_len]; omega), exts_len, flat_get hn l (q - n)]
      obtain ⟨r, rfl⟩ : ∃ r, q = r + n := ⟨q - n, by omega⟩
      rw [Nat.add_sub_cancel, Nat.add_div_right _ hn, Nat.add_mod_right]
      simp
theorem states_inj {vars : List Int} (hv : ∀ (i : Nat) n, vars[i]? = some n → 1 ≤ n) : ∀ (k : Nat), k ≤ vars.length → ∀ (i j : Nat) (s : List Int), (statesL (vars.take k))[i]? = some s → (statesL (vars.take k))[j]? = some s → i = j
  | 0, _, i, j, s, h1, h2 => by
    have e1 := lt_of_get h1
    have e2 := lt_of_get h2
    simp [statesL] at e1 e2
    omega
  | k + 1, hk, i, j, s, h1, h2 => by
    obtain ⟨n, hn⟩ := some_of_lt (l := vars) (k := k) (by omega)
    have hn1 := hv k n hn
    rw [statesL_step hn] at h1 h2
    unfold grows at h1 h2
    rw [flat_get (by omega)] at h1 h2
    obtain ⟨p, hp, rfl⟩ := Option.map_eq_some_iff.1 h1
    obtain ⟨p', hp', e⟩ := Option.map_eq_some_iff.1 h2
    obtain ⟨e1, e2⟩ := List.append_inj' e rfl
    subst e1
    have := states_inj hv k (by omega) _ _ _ hp hp'
    have e3 : j % n.toNat = i % n.toNat := by
      have := List.singleton_inj.1 e2
      omega
    have d1 := Nat.div_add_mod i n.toNat
    have d2 := Nat.div_add_mod j n.toNat
    rw [this, ← e3] at d1
    omega
theorem states_uniq {t : Tsk} (h : TaskOk t) {i j : Nat} {s : List Int} (h1 : (statesL t.vars)[i]? = some s) (h2 : (statesL t.vars)[j]? = some s) : i = j := by
  have := states_inj (vars := t.vars) (fun i n hn => (h.vars i n hn).1) t.vars.length (Nat.le_refl _) i j s
  rw [List.take_length] at this
  exact this h1 h2
theorem rank_at {t : Tsk} (h : SmallOk t) {s : List Int} (hs : StateOk t.vars s) : ∃ i : Nat, m_base_Rank t.vars s = some (i : Int) ∧ (statesL t.vars)[i]? = some s := by
  unfold m_base_Rank
  obtain ⟨r, h1, i, rfl, h2⟩ := rng_all (ρ := Int) (f := fun (k11 : Nat) (a12 : Int) (s9 : Int) => bnd (t.vars[k11]?) fun a24 => bnd (chkI (s9 * a24)) fun n34 => bnd (chkI (n34 + a12)) fun n45 => some (.next n45)) (xs := s) (s₀ := 0) (fun k r => ∃ i : Nat, r = (i : Int) ∧ (statesL (t.vars.take k))[i]? = some (s.take k)) ⟨0, rfl, by simp [statesL]⟩ (fun k x r hk hI => by
    obtain ⟨i, rfl, hi⟩ := hI
    have hlt := lt_of_get hk
    obtain ⟨n, hn⟩ := some_of_lt (l := t.vars) (k := k) (by rw [← hs.1]; exact hlt)
    have hn1 := h.ok.vars k n hn
    obtain ⟨hx1, hx2⟩ := hs.2 k x n hk hn
    obtain ⟨x, rfl⟩ := Int.eq_ofNat_of_zero_le hx1
    obtain ⟨n, rfl⟩ := Int.eq_ofNat_of_zero_le (by omega : 0 ≤ n)
    have hget : (statesL (t.vars.take (k + 1)))[i * n + x]? = some (s.take (k + 1)) := by
      rw [statesL_step hn]
      show ((statesL (t.vars.take k)).flatMap (exts ((n : Int)).toNat))[i * n + x]? = _
      rw [show ((n : Int)).toNat = n from by omega, flat_get (by omega)]
      have e1 : (i * n + x) / n = i := by
        rw [Nat.mul_comm, Nat.mul_add_div (by omega), Nat.div_eq_of_lt (by omega)]; omega
      have e2 : (i * n + x) % n = x := by
        rw [Nat.mul_comm, Nat.mul_add_mod, Nat.mod_eq_of_lt (by omega)]
      rw [e1, e2, hi, List.take_add_one, hk]; rfl
    have hb := lt_of_get hget
    have hb2 := h.states (k + 1)
    have e3 : (i : Int) * (n : Int) = ((i * n : Nat) : Int) := by simp
    rw [hn, bnd_some, e3, chkI_eq (by unfold inI64; omega), bnd_some, chkI_eq (by unfold inI64; omega), bnd_some]
    exact ⟨_, rfl, i * n + x, by omega, hget⟩)
  rw [List.take_length, hs.1, List.take_length] at h2
  exact ⟨i, by rw [h1, bnd_some, fin_d], h2⟩
/-- A step from a state to another, both by rank. -/
def EdgeOk (t : Tsk) (e : Edg) : Prop := ∃ (i k j : Nat) (s : List Int) (o : Opr), e = ⟨i, k, j⟩ ∧ (statesL t.vars)[i]? = some s ∧ t.ops[k]? = some o ∧ holdsB o.pre s = true ∧ (statesL t.vars)[j]? = some (succ o s)
theorem edges_eq {t : Tsk} (h : SmallOk t) : ∃ es, m_base_Edges t = some es ∧ ∀ e, e ∈ es ↔ EdgeOk t e := by
  have hlen : (statesL t.vars).length ≤ 512 := by have := h.states t.vars.length; rwa [List.take_length] at this
  have hops := h.2.1
  have uniq : ∀ {i i' : Nat} {s : List Int}, (statesL t.vars)[i]? = some s → (statesL t.vars)[i']? = some s → i = i' := fun h1 h2 => states_uniq h.ok h1 h2
  unfold m_base_Edges
  rw [states_small h, bnd_some]
  obtain ⟨es, h1, h2, h3⟩ := rng_all (ρ := List Edg) (f := fun (k38 : Nat) (a39 : List Int) (s36 : (List Edg)) => bnd (rng (ρ := Ctl (List Edg) (List Edg)) (fun (k70 : Nat) (_ : Opr) (s68 : (List Edg)) => bnd (m_base_Apply t a39 (k70 : Int)) fun q85 => if q85.2 = true then (bnd (m_base_Rank t.vars q85.1) fun q99 => bnd (appI 24 s68 [(⟨(k38 : Int), (k70 : Int), q99⟩ : Edg)]) fun u107 => some (.next u107)) else (some (.next s68))) t.ops 0 s36) fun res66 => fin res66 fun (s123 : (List Edg)) => some (.next s123)) (xs := statesL t.vars) (s₀ := [])
    (fun n acc => acc.length ≤ n * 20 ∧ ∀ e, e ∈ acc ↔ EdgeOk t e ∧ e.src < (n : Int)) ⟨by simp, fun e => ⟨fun he => by simp at he, fun ⟨⟨i, _, _, _, _, hE, _⟩, hlt⟩ => by subst hE; simp only at hlt; omega⟩⟩ (fun n s acc hn hI => by
      obtain ⟨i1, i2⟩ := hI
      have hnlt := lt_of_get hn
      have hs : StateOk t.vars s := mem_statesL.1 (List.mem_of_getElem? hn)
      obtain ⟨es, g1, g2, g3⟩ := rng_all (ρ := Ctl (List Edg) (List Edg)) (f := fun (k70 : Nat) (_ : Opr) (s68 : (List Edg)) => bnd (m_base_Apply t s (k70 : Int)) fun q85 => if q85.2 = true then (bnd (m_base_Rank t.vars q85.1) fun q99 => bnd (appI 24 s68 [(⟨(n : Int), (k70 : Int), q99⟩ : Edg)]) fun u107 => some (.next u107)) else (some (.next s68))) (xs := t.ops) (s₀ := acc)
        (fun m acc' => acc'.length ≤ n * 20 + m ∧ ∀ e, e ∈ acc' ↔ EdgeOk t e ∧ (e.src < (n : Int) ∨ e.src = (n : Int) ∧ e.op < (m : Int))) ⟨by omega, fun e => by
          rw [i2]
          constructor
          · rintro ⟨a, b⟩; exact ⟨a, .inl b⟩
          · rintro ⟨a, b | ⟨b, c⟩⟩
            · exact ⟨a, b⟩
            · obtain ⟨i, k, j, s', o, rfl, _⟩ := a
              simp at c; omega⟩ (fun m o acc' hm hI => by
          obtain ⟨j1, j2⟩ := hI
          have hmlt := lt_of_get hm
          rw [apply_all h.ok hs hm, bnd_some]
          by_cases hp : holdsB o.pre s = true
          · obtain ⟨r, hr, hr2⟩ := rank_at h (succ_ok h.ok hs hm)
            rw [if_pos hp, if_t, hr, bnd_some, appI_eq (by simp; omega) (by simp; omega), bnd_some]
            refine ⟨_, rfl, by simp; omega, fun e => ?_⟩
            rw [List.mem_append, j2]
            constructor
            · rintro (⟨a, b⟩ | hmem)
              · refine ⟨a, ?_⟩
                rcases b with b | ⟨b, c⟩
                · exact .inl b
                · exact .inr ⟨b, by omega⟩
              · obtain rfl : e = ⟨(n : Int), (m : Int), (r : Int)⟩ := by simpa using hmem
                exact ⟨⟨n, m, r, s, o, rfl, hn, hm, hp, hr2⟩, .inr ⟨rfl, by simp; omega⟩⟩
            · rintro ⟨a, b⟩
              obtain ⟨i, k, j, s', o', rfl, a1, a2, a3, a4⟩ := a
              simp only at b
              by_cases hc : i = n ∧ k = m
              · obtain ⟨rfl, rfl⟩ := hc
                obtain rfl : s' = s := by rw [hn] at a1; exact (Option.some.inj a1).symm
                obtain rfl : o' = o := by rw [hm] at a2; exact (Option.some.inj a2).symm
                obtain rfl := uniq a4 hr2
                exact .inr (by simp)
              · exact .inl ⟨⟨i, k, j, s', o', rfl, a1, a2, a3, a4⟩, by simp only; omega⟩
          · rw [if_neg hp]
            refine ⟨_, if_neg (by simp), by omega, fun e => ?_⟩
            rw [j2]
            constructor
            · rintro ⟨a, b⟩
              refine ⟨a, ?_⟩
              rcases b with b | ⟨b, c⟩
              · exact .inl b
              · exact .inr ⟨b, by omega⟩
            · rintro ⟨a, b⟩
              obtain ⟨i, k, j, s', o', rfl, a1, a2, a3, a4⟩ := a
              simp only at b
              by_cases hc : i = n ∧ k = m
              · obtain ⟨rfl, rfl⟩ := hc
                obtain rfl : s' = s := by rw [hn] at a1; exact (Option.some.inj a1).symm
                obtain rfl : o' = o := by rw [hm] at a2; exact (Option.some.inj a2).symm
                exact absurd a3 hp
              · exact ⟨⟨i, k, j, s', o', rfl, a1, a2, a3, a4⟩, by simp only; omega⟩)
      rw [g1, bnd_some, fin_d]
      refine ⟨_, rfl, by omega, fun e => ?_⟩
      rw [g3]
      constructor
      · rintro ⟨a, b⟩
        exact ⟨a, by rcases b with b | ⟨b, _⟩ <;> omega⟩
      · rintro ⟨a, b⟩
        refine ⟨a, ?_⟩
        obtain ⟨i, k, j, s', o', rfl, a1, a2, a3, a4⟩ := a
        simp only at b ⊢
        have := lt_of_get a2
        omega)
  refine ⟨es, by rw [h1, bnd_some, fin_d], fun e => ?_⟩
  rw [h3]
  refine ⟨fun a => a.1, fun a => ⟨a, ?_⟩⟩
  obtain ⟨i, k, j, s', o', rfl, a1, a2, a3, a4⟩ := a
  have := lt_of_get a1
  simp only; omega
end
section
open Go Go.RowKit
/-- A plan leads from a state to another at a cost. -/
inductive PlanR (t : Tsk) : List Int → List Int → List Int → Int → Prop
  | nil {s : List Int} : PlanR t s [] s 0
  | cons {s rest s' : List Int} {k : Nat} {o : Opr} {C : Int} : t.ops[k]? = some o → holdsB o.pre s = true → PlanR t (succ o s) rest s' C → PlanR t s ((k : Int) :: rest) s' (o.cost + C)
theorem tholds_eq (f : List Fct) (s : List Int) : m_task_Holds f s = some (holdsB f s) := rfl
theorem cost_loop {t : Tsk} (h : TaskOk t) {s plan s' : List Int} {C : Int} (hr : PlanR t s plan s' C) : ∀ (j : Nat) (c : Int), StateOk t.vars s → 0 ≤ c → c + plan.length * 1048576 ≤ 1000000000000000 →
    rng (ρ := Int × Bool) (fun (_ : Nat) (a34 : Int) (s31 : (List Int) × Int) => bnd (m_base_Apply t s31.1 a34) fun q56 => if (!q56.2) = true then (some (.ret (0, false))) else (bnd (atI t.ops a34) fun a70 => bnd (chkI (s31.2 + a70.cost)) fun n91 => some (.next (q56.1, n91)))) plan j (s, c) = some (.done (s', c + C)) := by
  induction hr with
  | nil => intro j c _ _ _; simp [rng]
  | @cons s rest s' k o C ho hp hr ih =>
    intro j c hs hc hb
    simp only [List.length_cons] at hb
    have hoo := h.2.2.2.2.2 k o ho
    have h1 := hoo.1
    have h2 := hoo.2.1
    have e2 : (bnd (m_base_Apply t s (k : Int)) fun q56 => if (!q56.2) = true then (some (.ret (0, false))) else (bnd (atI t.ops (k : Int)) fun a70 => bnd (chkI (c + a70.cost)) fun n91 => some (.next (q56.1, n91))) : Option (Ctl (List Int × Int) (Int × Bool))) = some (.next (succ o s, c + o.cost)) := by
      rw [apply_all h hs ho, if_pos hp, bnd_some, if_neg (by simp), atI_eq, ho, bnd_some, chkI_eq (by unfold inI64; omega), bnd_some]
    simp only [rng, e2]
    rw [ih (j + 1) (c + o.cost) (succ_ok h hs ho) (by omega) (by omega), Int.add_assoc]
theorem cost_eq {t : Tsk} (h : TaskOk t) {s plan s' : List Int} {C : Int} (hs : StateOk t.vars s) (hr : PlanR t s plan s' C) (hl : plan.length ≤ 1000) : m_base_Cost t s plan = some (C, holdsB t.goal s') := by
  unfold m_base_Cost
  rw [cost_loop h hr 0 0 hs (by omega) (by omega), bnd_some, fin_d, holds_eq, bnd_some, Int.zero_add]
  cases holdsB t.goal s' <;> rfl
end
section
section
variable {α σ ρ β : Type}
theorem lop_wf' {f : σ → Option (Ctl σ ρ)} (I : σ → Prop) (B : σ → Prop) (R : ρ → Prop) (μ : σ → Nat) (h : ∀ s, I s → (∃ s', f s = some (.next s') ∧ I s' ∧ μ s' < μ s) ∨ (∃ s', f s = some (.brk s') ∧ B s') ∨ ∃ r, f s = some (.ret r) ∧ R r) :
    ∀ s, I s → (∃ s', lop f s = some (.done s') ∧ B s') ∨ ∃ r, lop f s = some (.ret r) ∧ R r := by
  have key : ∀ (n : Nat) s, I s → μ s < n → (∃ s', lop f s = some (.done s') ∧ B s') ∨ ∃ r, lop f s = some (.ret r) ∧ R r := by
    intro n
    induction n with
    | zero => intro s _ hn; omega
    | succ n ih =>
      intro s hI hn
      rw [lop_eq]
      rcases h s hI with ⟨s', h1, h2, h3⟩ | ⟨s', h1, h2⟩ | ⟨r, h1, h2⟩
      · rw [h1]; exact ih s' h2 (by omega)
      · rw [h1]; exact .inl ⟨s', rfl, h2⟩
      · rw [h1]; exact .inr ⟨r, rfl, h2⟩
  exact fun s hI => key (μ s + 1) s hI (by omega)
/-- A loop, and what is said of what comes behind it. -/
theorem lop_ex {f : σ → Option (Ctl σ ρ)} {s₀ : σ} {k : Fin σ ρ → Option β} {P : β → Prop} (I : σ → Prop) (B : σ → Prop) (R : ρ → Prop) (μ : σ → Nat) (h0 : I s₀)
    (h : ∀ s, I s → (∃ s', f s = some (.next s') ∧ I s' ∧ μ s' < μ s) ∨ (∃ s', f s = some (.brk s') ∧ B s') ∨ ∃ r, f s = some (.ret r) ∧ R r)
    (hb : ∀ s, B s → ∃ r, k (.done s) = some r ∧ P r) (hr : ∀ q, R q → ∃ r, k (.ret q) = some r ∧ P r) : ∃ r, bnd (lop f s₀) k = some r ∧ P r := by
  rcases lop_wf' I B R μ h s₀ h0 with ⟨s, h1, h2⟩ | ⟨q, h1, h2⟩
  · rw [h1, bnd_some]; exact hb s h2
  · rw [h1, bnd_some]; exact hr q h2
theorem lop_bnd {f : σ → Option (Ctl σ ρ)} {s₀ : σ} {k : Fin σ ρ → Option β} {r : Option β} (I : σ → Prop) (B : σ → Prop) (μ : σ → Nat) (h0 : I s₀)
    (h : ∀ s, I s → (∃ s', f s = some (.next s') ∧ I s' ∧ μ s' < μ s) ∨ (∃ s', f s = some (.brk s') ∧ B s')) (hb : ∀ s, B s → k (.done s) = r) : bnd (lop f s₀) k = r := by
  rcases lop_wf' I B (fun _ => False) μ (fun s hI => (h s hI).imp id .inl) s₀ h0 with ⟨s, h1, h2⟩ | ⟨q, _, h2⟩
  · rw [h1, bnd_some]; exact hb s h2
  · exact h2.elim
theorem rng_ex {f : Nat → α → σ → Option (Ctl σ ρ)} {xs : List α} {s₀ : σ} {k : Fin σ ρ → Option β} {P : β → Prop} (I : Nat → σ → Prop) (R : ρ → Prop) (h0 : I 0 s₀)
    (h : ∀ i x s, xs[i]? = some x → I i s → (∃ s', f i x s = some (.next s') ∧ I (i + 1) s') ∨ ∃ q, f i x s = some (.ret q) ∧ R q)
    (hb : ∀ s, I xs.length s → ∃ r, k (.done s) = some r ∧ P r) (hr : ∀ q, R q → ∃ r, k (.ret q) = some r ∧ P r) : ∃ r, bnd (rng f xs 0 s₀) k = some r ∧ P r := by
  have key : ∀ (ys : List α) (j : Nat) (s : σ), (∀ i, ys[i]? = xs[j + i]?) → j + ys.length = xs.length → I j s → ∃ r, bnd (rng f ys j s) k = some r ∧ P r := by
    intro ys
    induction ys with
    | nil => intro j s _ hl hI; exact hb s (by simp at hl; rw [← hl]; exact hI)
    | cons y ys ih =>
      intro j s hg hl hI
      have hy : xs[j]? = some y := by have := hg 0; simpa using this.symm
      simp only [rng]
      rcases h j y s hy hI with ⟨s', h1, h2⟩ | ⟨q, h1, h2⟩
      · rw [h1]
        exact ih (j + 1) s' (fun i => by have := hg (i + 1); rw [show j + 1 + i = j + (i + 1) from by omega, ← this]; simp) (by simp at hl; omega) h2
      · rw [h1, bnd_some]; exact hr q h2
  exact key xs 0 s₀ (fun i => by rw [Nat.zero_add]) (by omega) h0
theorem rng_bnd {f : Nat → α → σ → Option (Ctl σ ρ)} {xs : List α} {s₀ : σ} {k : Fin σ ρ → Option β} {r : Option β} (I : Nat → σ → Prop) (h0 : I 0 s₀)
    (h : ∀ i x s, xs[i]? = some x → I i s → ∃ s', f i x s = some (.next s') ∧ I (i + 1) s') (hb : ∀ s, I xs.length s → k (.done s) = r) : bnd (rng f xs 0 s₀) k = r := by
  obtain ⟨s, h1, h2⟩ := rng_all I h0 h
  rw [h1, bnd_some]
  exact hb s h2
end
end
end Go.Proofs.Ytgnmjmcjadpmhaa

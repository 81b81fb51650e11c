/- Own text: contract of (*Generator).build: the tree of some operators. -/
import Derived.Test.YtfbcjknlihopcaaFact
import Derived.Test.YtfbcjknlihopcaaCheck2
namespace Go.Proofs.Ytfbcjknlihopcaa
open Go Go.RowKit
attribute [local irreducible] ewp owp hwp hwq hws Ev Evg Fn retPost loud loudS Res1
def preOf (t : Tsk) (op : Int) : List Fct := match t.ops[op.toNat]? with | some o => o.pre | none => []
def tests (t : Tsk) (ops : List Int) (v : Nat) : Bool := ops.any fun op => (factOn (preOf t op) (v : Int)).isSome
/-- The first variable from v on that is tested. -/
def nextF (t : Tsk) (ops : List Int) : Nat → Nat → Nat
  | 0, v => v
  | k + 1, v => if tests t ops v = true then v else nextF t ops k (v + 1)
def nextV (t : Tsk) (ops : List Int) (v : Nat) : Nat := nextF t ops (t.vars.length - v) v
def valB (t : Tsk) (u : Nat) (x : Nat) (op : Int) : Bool := match factOn (preOf t op) (u : Int) with | some f => decide (f.val = (x : Int)) | none => false
def restB (t : Tsk) (u : Nat) (op : Int) : Bool := (factOn (preOf t op) (u : Int)).isNone
def mkT (t : Tsk) : Nat → List Int → Nat → Tr
  | 0, _, _ => .nil
  | fuel + 1, ops, v =>
    if ops.isEmpty then .nil
    else if nextV t ops v = t.vars.length then .leaf ops
    else .node (nextV t ops v) (t.vars[nextV t ops v]?.getD 0).toNat (fun x => mkT t fuel (ops.filter (valB t (nextV t ops v) x)) (nextV t ops v + 1)) (mkT t fuel (ops.filter (restB t (nextV t ops v))) (nextV t ops v + 1))
theorem nextF_spec (t : Tsk) (ops : List Int) : ∀ (k v : Nat), v ≤ nextF t ops k v ∧ nextF t ops k v ≤ v + k ∧ (∀ u, v ≤ u → u < nextF t ops k v → tests t ops u = false) ∧ (nextF t ops k v < v + k → tests t ops (nextF t ops k v) = true)
  | 0, v => by simp [nextF]; intro u h1 h2; omega
  | k + 1, v => by
    by_cases h : tests t ops v = true
    · simp only [nextF, h, if_true]
      exact ⟨Nat.le_refl _, by omega, fun u h1 h2 => by omega, fun _ => trivial⟩
    · obtain ⟨h1, h2, h3, h4⟩ := nextF_spec t ops k (v + 1)
      simp only [nextF, h]
      refine ⟨by simp; omega, by simp; omega, fun u hu1 hu2 => ?_, fun hlt => h4 (by simp at hlt; omega)⟩
      by_cases he : u = v
      · subst he; simpa using h
      · exact h3 u (by omega) (by simpa using hu2)
theorem nextV_eq (t : Tsk) (ops : List Int) {v u : Nat} (h1 : v ≤ u) (h2 : u ≤ t.vars.length) (h3 : ∀ x, v ≤ x → x < u → tests t ops x = false) (h4 : u < t.vars.length → tests t ops u = true) : nextV t ops v = u := by
  obtain ⟨g1, g2, g3, g4⟩ := nextF_spec t ops (t.vars.length - v) v
  unfold nextV
  rcases Nat.lt_trichotomy (nextF t ops (t.vars.length - v) v) u with h | h | h
  · have := h3 _ g1 h
    rw [g4 (by omega)] at this; cases this
  · exact h
  · have := g3 u h1 h
    rw [h4 (by omega)] at this; cases this
/-- What the operators need to be. -/
def OpsIn (t : Tsk) (ops : List Int) : Prop := ∀ op ∈ ops, 0 ≤ op ∧ op < t.ops.length
def FitsVals (t : Tsk) : Prop := ∀ (i : Nat) o, t.ops[i]? = some o → ∀ (v : Nat) f, factOn o.pre (v : Int) = some f → v < t.vars.length → 0 ≤ f.val ∧ ∃ n, t.vars[v]? = some n ∧ f.val < n
/-- The rows by value, and the row of the rest, as they grow. -/
structure ByInv (w : World) (base gby : Nat) (vals : List Value) (rv : Value) (L : Nat → List Int) (R : List Int) (m : Nat) : Prop where
  len : vals.length = m
  blk : Blk w gby 22 vals
  own : ∀ (i : Nat) (u : Value), vals[i]? = some u → Own w base (fun _ => False) 3 u (L i)
  rest : Own w base (fun _ => False) 3 rv R
  apart : ∀ (i j : Nat) (u u' : Value), i ≠ j → vals[i]? = some u → vals[j]? = some u' → ∀ g, u.ownBlock = some g → u'.ownBlock ≠ some g
  apartR : ∀ (i : Nat) (u : Value), vals[i]? = some u → ∀ g, u.ownBlock = some g → rv.ownBlock ≠ some g
theorem ByInv.ext {w w' : World} {base gby : Nat} {vals : List Value} {rv : Value} {L : Nat → List Int} {R : List Int} {m : Nat} (h : ByInv w base gby vals rv L R m) (hE : Ext w w') : ByInv w' base gby vals rv L R m :=
  ⟨h.len, h.blk.ext hE, fun i u hu => (h.own i u hu).ext hE fun _ hk => hk.elim, h.rest.ext hE fun _ hk => hk.elim, h.apart, h.apartR⟩
theorem ByInv.putRest {w w' : World} {base gby : Nat} {vals : List Value} {rv rv' : Value} {L : Nat → List Int} {R R' : List Int} {m : Nat} (h : ByInv w base gby vals rv L R m) (hK : Kept w w' rv) (ho : Own w' base (fun _ => False) 3 rv' R')
    (hat : rv'.ownBlock = rv.ownBlock ∨ ∃ g, rv'.ownBlock = some g ∧ w.heap.size ≤ g) : ByInv w' base gby vals rv' L R' m := by
  refine ⟨h.len, hK.blk h.blk (h.rest.blk_ne h.blk (by decide)), fun i u hu => (h.own i u hu).kept hK (fun _ hk => hk.elim) (h.apartR i u hu), ho, h.apart, fun i u hu g hg he => ?_⟩
  rcases hat with hat | ⟨g', hat, hge⟩
  · exact h.apartR i u hu g hg (hat ▸ he)
  · have := ((h.own i u hu).lt g hg).2
    rw [hat] at he; injection he with he; omega
theorem ByInv.putVal {w w' w'' : World} {base gby : Nat} {vals : List Value} {rv u v' : Value} {L : Nat → List Int} {R : List Int} {m i : Nat} {xs : List Int} (h : ByInv w base gby vals rv L R m) (hu : vals[i]? = some u) (hK : Kept w w' u) (ho : Own w' base (fun _ => False) 3 v' xs)
    (hat : v'.ownBlock = u.ownBlock ∨ ∃ g, v'.ownBlock = some g ∧ w.heap.size ≤ g) (hU : Upd w' w'' gby 22 (vals.set i v')) : ByInv w'' base gby (vals.set i v') rv (fun j => if j = i then xs else L j) R m := by
  have hi : i < vals.length := (List.getElem?_eq_some_iff.1 hu).1
  have key : ∀ {v : Value} {ys : List Int}, Own w' base (fun _ => False) 3 v ys → Own w'' base (fun _ => False) 3 v ys := fun hv => by
    have hne := hv.blk_ne (hK.blk h.blk ((h.own i u hu).blk_ne h.blk (by decide))) (by decide)
    exact hv.agree (fun _ hk => hk.elim) fun g hg => hU.other g fun he => hne (he ▸ hg)
  have sep : ∀ {y : Value} {ys : List Int}, Own w base (fun _ => False) 3 y ys → (∀ g, u.ownBlock = some g → y.ownBlock ≠ some g) → ∀ g, v'.ownBlock = some g → y.ownBlock ≠ some g := fun hy hsep g hg he => by
    rcases hat with hat | ⟨g', hat, hge⟩
    · exact hsep g (hat ▸ hg) he
    · have := (hy.lt g he).2
      rw [hat] at hg; injection hg with hg; omega
  refine ⟨by rw [List.length_set]; exact h.len, hU.blk, fun j y hy => ?_, key (h.rest.kept hK (fun _ hk => hk.elim) fun g hg he => h.apartR i u hu g he hg), fun j k y y' hjk hy hy' g hg => ?_, fun j y hy g hg => ?_⟩
  · by_cases hj : j = i
    · subst hj
      rw [List.getElem?_set_self hi] at hy
      injection hy with hy; subst hy
      rw [if_pos rfl]; exact key ho
    · rw [List.getElem?_set_ne (Ne.symm hj)] at hy
      rw [if_neg hj]
      exact key ((h.own j y hy).kept hK (fun _ hk => hk.elim) (h.apart j i y u hj hy hu))
  · by_cases hj : j = i
    · subst hj
      rw [List.getElem?_set_self hi] at hy
      injection hy with hy; subst hy
      rw [List.getElem?_set_ne hjk] at hy'
      exact sep (h.own k y' hy') (h.apart j k u y' hjk hu hy') g hg
    · rw [List.getElem?_set_ne (Ne.symm hj)] at hy
      by_cases hk : k = i
      · subst hk
        rw [List.getElem?_set_self hi] at hy'
        injection hy' with hy'; subst hy'
        intro he
        exact sep (h.own j y hy) (h.apart k j u y (Ne.symm hj) hu hy) g he hg
      · rw [List.getElem?_set_ne (Ne.symm hk)] at hy'
        exact h.apart j k y y' hjk hy hy' g hg
  · by_cases hj : j = i
    · subst hj
      rw [List.getElem?_set_self hi] at hy
      injection hy with hy; subst hy
      exact sep h.rest (h.apartR j u hu) g hg
    · rw [List.getElem?_set_ne (Ne.symm hj)] at hy
      exact h.apartR j y hy g hg
instance : Rp Tr where
  isAgg := false
  size := 1
  R w F cs T := ∃ q, cs = [.pointer q] ∧ TrR w F T (.pointer q)
  len := by rintro w F cs x ⟨v, rfl, _⟩; rfl
  one := by rintro w F cs x ⟨v, rfl, h⟩ u hu; simp at hu; subst hu; rfl
  agree := by rintro w w' F cs x ⟨v, rfl, h⟩ ha; exact ⟨v, rfl, TrR.agree ha h⟩
  mono := by rintro w F G cs x ⟨v, rfl, h⟩ ha; exact ⟨v, rfl, TrR.mono ha h⟩
/-- What was allowed, and what is new. -/
def more (F : Nat → Prop) (w w' : World) : Nat → Prop := fun k => F k ∨ w.heap.size ≤ k ∧ k < w'.heap.size
theorem filter_step {p : Int → Bool} {l : List Int} {k : Nat} {x : Int} (h : l[k]? = some x) : (l.take (k + 1)).filter p = (l.take k).filter p ++ if p x = true then [x] else [] := by
  rw [List.take_add_one, h, List.filter_append]
  cases hp : p x <;> simp [hp]
theorem made_nils (n : Nat) : (madeCells (Value.slice none 0 0).cells (n * 1)).toList = List.replicate n (.slice none 0 0) := made_one _ n rfl
theorem genBuild (t : Tsk) (hdom : VarsOk t) (hfv : FitsVals t) (hvl : t.vars.length ≤ 64) : ∀ (fuel : Nat) (w : World) (gv opsv : Value) (ops : List Int) (v : Nat) (F : Nat → Prop), GenB w (All w) gv t → Vb w F opsv ops → (∀ k, F k → k < w.heap.size) → OpsIn t ops → ops.length ≤ 4096 →
    v ≤ t.vars.length → t.vars.length < fuel + v → Fn Try.prog 31 [gv, opsv, .int .i64 (v : Int)] w fun p w' => TrR w' (more F w w') (mkT t fuel ops v) p ∧ Ext w w' := by
  intro fuel
  induction fuel with
  | zero => intro w gv opsv ops v F _ _ _ _ _ h1 h2; omega
  | succ fuel ih =>
    intro w gv opsv ops v F hg0 hops hF hin hlen hvn hfuel
    obtain ⟨gb, a, b, c, d, rp, rfl, hgb, hbg, hvars, hinit, hgoal, hopsv⟩ := id hg0
    obtain ⟨Av, cv, rfl⟩ := hvars.form
    obtain ⟨Ax, cx, rfl⟩ := hops.form
    refine fn_enter Try.func31 rfl Try.ntmps31 rfl ?_
    repeat (first | refine ewp_seq ?_ | refine ewp_block ?_ | refine ewp_region ?_ | refine ewp_skip ?_ | refine ewp_exit ?_ | refine ewp_ret ?_ | refine ewp_true rfl ?_ | refine ewp_false rfl ?_)
    refine owp_box rfl rfl fun w1 hN1 => ?_
    refine owp_box rfl rfl fun w2 hN2 => ?_
    have hE2 : Ext w w2 := hN1.ext.trans' hN2.ext
    have hb1 : Blk w2 w.heap.size 35 [.pointer (some ⟨gb, 0, none⟩)] := hN1.blk.ext hN2.ext
    have hb2 : Blk w2 w1.heap.size 3 [.int .i64 (v : Int)] := hN2.blk
    have hg12 : w1.heap.size ≠ w.heap.size := by rw [hN1.size]; omega
    have hg2w : w.heap.size ≤ w1.heap.size := hN1.ext.size
    have hz1 : w1.heap.size = w.heap.size + 1 := hN1.size
    have hz2 : w2.heap.size = w1.heap.size + 1 := hN2.size
    (refine o_as rfl rfl ?_ <;> (first | refine owp_nilT ?_ | refine owp_nilB ?_ | refine owp_nilBB ?_ | refine owp_nil ?_))
    repeat (first | refine ewp_seq ?_ | refine ewp_block ?_ | refine ewp_region ?_ | refine ewp_skip ?_ | refine ewp_exit ?_ | refine ewp_ret ?_ | refine ewp_true rfl ?_ | refine ewp_false rfl ?_)
    by_cases hemp : ops.length = 0
    · have : ops = [] := List.eq_nil_of_length_eq_zero hemp
      subst this
      ((repeat (first | refine ewp_seq ?_ | refine ewp_block ?_ | refine ewp_region ?_ | refine ewp_skip ?_ | refine ewp_exit ?_ | refine ewp_ret ?_ | refine ewp_true rfl ?_ | refine ewp_false rfl ?_)) <;> (refine o_mv rfl rfl ?_ <;> refine o_ln rfl rfl ?_ <;> (first | refine o_eeT rfl rfl rfl ?_ | refine o_eeF rfl rfl rfl ?_) <;> (first | refine owp_nilT ?_ | refine owp_nilB ?_ | refine owp_nilBB ?_ | refine owp_nil ?_)) <;> (repeat (first | refine ewp_seq ?_ | refine ewp_block ?_ | refine ewp_region ?_ | refine ewp_skip ?_ | refine ewp_exit ?_ | refine ewp_ret ?_ | refine ewp_true rfl ?_ | refine ewp_false rfl ?_)) <;> (refine o_as rfl rfl ?_ <;> (first | refine owp_nilT ?_ | refine owp_nilB ?_ | refine owp_nilBB ?_ | refine owp_nil ?_)) <;> (repeat (first | refine ewp_seq ?_ | refine ewp_block ?_ | refine ewp_region ?_ | refine ewp_skip ?_ | refine ewp_exit ?_ | refine ewp_ret ?_ | refine ewp_true rfl ?_ | refine ewp_false rfl ?_)))
      exact ret1 rfl rfl ⟨rfl, hE2⟩
    have hemp' : ops.isEmpty = false := by cases ops <;> simp at *
    (refine o_mv rfl rfl ?_ <;> refine o_ln rfl rfl ?_ <;> (first | refine o_eeT rfl rfl rfl ?_ | refine o_eeF rfl rfl rfl ?_) <;> (first | refine owp_nilT ?_ | refine owp_nilB ?_ | refine owp_nilBB ?_ | refine owp_nil ?_))
    refine ewp_false rfl (ewp_skip ?_)
    refine ewp_cut (fun l' w' => ∃ u : Nat, subs l' [(1, .slice Ax ops.length cx), (3, .pointer (some ⟨w.heap.size, 0, none⟩)), (5, .pointer (some ⟨w1.heap.size, 0, none⟩))] ∧ Ext w w' ∧ Blk w' w.heap.size 35 [.pointer (some ⟨gb, 0, none⟩)] ∧ Blk w' w1.heap.size 3 [.int .i64 (u : Int)] ∧
      v ≤ u ∧ u ≤ t.vars.length ∧ (∀ x, v ≤ x → x < u → tests t ops x = false) ∧ (u < t.vars.length → tests t ops u = true)) ?_ ?_
    · repeat (first | refine ewp_seq ?_ | refine ewp_block ?_ | refine ewp_region ?_ | refine ewp_skip ?_ | refine ewp_exit ?_ | refine ewp_ret ?_ | refine ewp_true rfl ?_ | refine ewp_false rfl ?_)
      refine ewp_for (fun _ : Nat => [(1, .slice Ax ops.length cx), (3, .pointer (some ⟨w.heap.size, 0, none⟩)), (5, .pointer (some ⟨w1.heap.size, 0, none⟩))]) (fun u w' => Ext w w' ∧ Blk w' w.heap.size 35 [.pointer (some ⟨gb, 0, none⟩)] ∧ Blk w' w1.heap.size 3 [.int .i64 (u : Int)] ∧
        v ≤ u ∧ u ≤ t.vars.length ∧ ∀ x, v ≤ x → x < u → tests t ops x = false) (fun u => t.vars.length - u) v ⟨hE2, hb1, hb2, Nat.le_refl _, hvn, fun x h1 h2 => by omega⟩ ⟨rfl, rfl, rfl, trivial⟩ ?_
      rintro u w3 ⟨hE3, hb1, hb2, hvu, hun, hno⟩
      have hb3 := hbg.ext hE3
      repeat (first | refine ewp_seq ?_ | refine ewp_block ?_ | refine ewp_region ?_ | refine ewp_skip ?_ | refine ewp_exit ?_ | refine ewp_ret ?_ | refine ewp_true rfl ?_ | refine ewp_false rfl ?_)
      refine ewp_draw (Ext w3) [(0, true), (1, true), (2, true), (3, true), (4, true), (5, true), (6, true), (7, true), (8, true), (9, true), (10, true), (11, false), (12, true), (13, true)] (by kernel_rfl) rfl (by kernel_rfl) (Below.refl _ _) ?_
      by_cases hlt : u < t.vars.length
      · (refine h_ldE rfl rfl rfl ?_ <;> refine h_ldE rfl rfl rfl ?_ <;> refine h_nc rfl rfl rfl ?_ <;> refine h_fa rfl rfl rfl ?_ <;> refine h_fa rfl rfl rfl ?_ <;> refine h_ldE rfl rfl rfl ?_ <;> refine h_ln rfl rfl rfl ?_ <;> (first | refine h_ltT rfl rfl rfl rfl ?_ | refine h_ltF rfl rfl rfl rfl ?_ | refine h_ltS rfl rfl rfl rfl (fun _ => ?_) fun _ => ?_) <;> refine h_mv rfl rfl rfl ?_ <;> (refine hwp_o rfl ?_; (first | (refine hwq_yes rfl rfl ?_; refine g_mv rfl rfl ?_) | refine hwq_no rfl rfl rfl rfl ?_)) <;> (refine hwp_o rfl ?_; (first | (refine hwq_yes rfl rfl ?_; refine g_mf rfl rfl rfl ?_) | refine hwq_no rfl rfl rfl rfl ?_)))
        refine hwp_loud rfl ?_
        refine owp_yes rfl rfl ?_
        have hV3 : V w3 (.slice Ax ops.length cx) ops := Vb.mono (Vb.agree hops (hE3.agree hF)) fun k hk => Nat.lt_of_lt_of_le (hF k hk) hE3.size
        have hex : (∃ x ∈ ops, (factOn (preOf t x) (u : Int)).isSome = true) ↔ tests t ops u = true := by unfold tests; rw [List.any_eq_true]
        refine owp_callB rfl rfl (containsFuncInts (g := 45) (caps := [.pointer (some ⟨w.heap.size, 0, none⟩), .pointer (some ⟨w1.heap.size, 0, none⟩)]) (p := fun op => (factOn (preOf t op) (u : Int)).isSome = true) hV3 ?_) ?_ ?_
        · intro vx x w' hx hE' hvx
          obtain ⟨hvx, _⟩ := hvx
          obtain rfl : vx = .int .i64 x := by simpa using hvx
          obtain ⟨hx0, hx1⟩ := hin x hx
          obtain ⟨j, rfl⟩ := Int.eq_ofNat_of_zero_le hx0
          obtain ⟨o, ho⟩ := some_of_lt (l := t.ops) (k := j) (by omega)
          refine (genBuild1 (hg0.ext (hE3.trans' hE')) ho (hb1.ext hE') (hb2.ext hE')).mono fun r w'' ⟨hr, hE''⟩ => ⟨?_, hE''⟩
          rw [hr, bof_b]
          simp [preOf, ho]
        · intro w4 hp hE4
          refine owp_loud hE4 ?_
          ((refine hwp_o rfl ?_; (first | (refine hwq_yes rfl rfl ?_; (first | refine g_nt rfl rfl ?_ | refine g_nf rfl rfl ?_ | refine g_nn rfl rfl ?_)) | refine hwq_no rfl rfl rfl rfl ?_)) <;> (first | refine h_pt rfl rfl rfl rfl ?_ | refine h_pf rfl rfl rfl rfl ?_) <;> (first | refine hwp_nilT ?_ | refine hwp_nilB ?_ | refine hwp_nil ?_))
          repeat (first | refine ewp_seq ?_ | refine ewp_block ?_ | refine ewp_region ?_ | refine ewp_skip ?_ | refine ewp_exit ?_ | refine ewp_ret ?_ | refine ewp_true rfl ?_ | refine ewp_false rfl ?_)
          exact ⟨u, ⟨rfl, rfl, rfl, trivial⟩, hE3.trans' hE4, hb1.ext hE4, hb2.ext hE4, hvu, hun, hno, fun _ => hex.1 hp⟩
        · intro w4 hp hE4
          refine owp_loud hE4 ?_
          ((refine hwp_o rfl ?_; (first | (refine hwq_yes rfl rfl ?_; (first | refine g_nt rfl rfl ?_ | refine g_nf rfl rfl ?_ | refine g_nn rfl rfl ?_)) | refine hwq_no rfl rfl rfl rfl ?_)) <;> (first | refine h_pt rfl rfl rfl rfl ?_ | refine h_pf rfl rfl rfl rfl ?_) <;> (first | refine hwp_nilT ?_ | refine hwp_nilB ?_ | refine hwp_nil ?_))
          repeat (first | refine ewp_seq ?_ | refine ewp_block ?_ | refine ewp_region ?_ | refine ewp_skip ?_ | refine ewp_exit ?_ | refine ewp_ret ?_ | refine ewp_true rfl ?_ | refine ewp_false rfl ?_)
          replace hb1 := hb1.ext hE4
          replace hb2 := hb2.ext hE4
          (refine o_ld rfl rfl ?_ <;> (first | refine o_ic rfl rfl ?_ | refine o_ad rfl rfl rfl ?_))
          refine owp_store rfl rfl hb2 rfl (Nat.le_refl _) (by simp [Value.cells, Value.oneCell']) fun w5 hU => ?_
          ((first | refine owp_nilT ?_ | refine owp_nilB ?_ | refine owp_nilBB ?_ | refine owp_nil ?_))
          refine ⟨u + 1, ⟨rfl, rfl, rfl, trivial⟩, ⟨(hE3.trans' hE4).trans (hU.below hg2w), hb1.keep (hU.other _ (fun h => hg12 h.symm)), hU.blk, by omega, by omega, fun x h1 h2 => ?_⟩, by omega⟩
          by_cases he : x = u
          · subst he
            cases hq : tests t ops x
            · rfl
            · exact absurd (hex.2 hq) hp
          · exact hno x h1 (by omega)
      · (refine h_ldE rfl rfl rfl ?_ <;> refine h_ldE rfl rfl rfl ?_ <;> refine h_nc rfl rfl rfl ?_ <;> refine h_fa rfl rfl rfl ?_ <;> refine h_fa rfl rfl rfl ?_ <;> refine h_ldE rfl rfl rfl ?_ <;> refine h_ln rfl rfl rfl ?_ <;> (first | refine h_ltT rfl rfl rfl rfl ?_ | refine h_ltF rfl rfl rfl rfl ?_ | refine h_ltS rfl rfl rfl rfl (fun _ => ?_) fun _ => ?_) <;> refine h_mv rfl rfl rfl ?_ <;> (refine hwp_o rfl ?_; (first | (refine hwq_yes rfl rfl ?_; refine g_mv rfl rfl ?_) | refine hwq_no rfl rfl rfl rfl ?_)) <;> (refine hwp_o rfl ?_; (first | (refine hwq_yes rfl rfl ?_; refine g_mf rfl rfl rfl ?_) | refine hwq_no rfl rfl rfl rfl ?_)))
        refine hwp_loud rfl ?_
        refine owp_no rfl rfl rfl rfl ?_
        refine owp_loud (Below.refl _ _) ?_
        ((refine hwp_o rfl ?_; (first | (refine hwq_yes rfl rfl ?_; (first | refine g_nt rfl rfl ?_ | refine g_nf rfl rfl ?_ | refine g_nn rfl rfl ?_)) | refine hwq_no rfl rfl rfl rfl ?_)) <;> (first | refine h_pt rfl rfl rfl rfl ?_ | refine h_pf rfl rfl rfl rfl ?_) <;> (first | refine hwp_nilT ?_ | refine hwp_nilB ?_ | refine hwp_nil ?_))
        repeat (first | refine ewp_seq ?_ | refine ewp_block ?_ | refine ewp_region ?_ | refine ewp_skip ?_ | refine ewp_exit ?_ | refine ewp_ret ?_ | refine ewp_true rfl ?_ | refine ewp_false rfl ?_)
        exact ⟨u, ⟨rfl, rfl, rfl, trivial⟩, hE3, hb1, hb2, hvu, hun, hno, fun h => absurd h hlt⟩
    rintro l' w3 ⟨u, hsub, hE3, hb1, hb2, hvu, hun, hno, hyes⟩
    refine ewp_sub _ hsub ?_
    clear hsub
    have hnx : nextV t ops v = u := nextV_eq t ops hvu hun hno hyes
    have hb3 := hbg.ext hE3
    have hV3 : Vb w3 F (.slice Ax ops.length cx) ops := Vb.agree hops (hE3.agree hF)
    repeat (first | refine ewp_seq ?_ | refine ewp_block ?_ | refine ewp_region ?_ | refine ewp_skip ?_ | refine ewp_exit ?_ | refine ewp_ret ?_ | refine ewp_true rfl ?_ | refine ewp_false rfl ?_)
    refine ewp_draw (· = w3) [(0, true), (1, true), (2, true), (3, true), (4, true), (5, true), (6, true), (7, true)] (by kernel_rfl) rfl (by kernel_rfl) rfl ?_
    by_cases hlast : u = t.vars.length
    · (refine h_ldA rfl rfl rfl ?_ <;> refine h_ldA rfl rfl rfl ?_ <;> refine h_nc rfl rfl rfl ?_ <;> refine h_fa rfl rfl rfl ?_ <;> refine h_fa rfl rfl rfl ?_ <;> refine h_ldA rfl rfl rfl ?_ <;> refine h_ln rfl rfl rfl ?_ <;> (first | refine h_eeT rfl rfl rfl rfl ?_ | refine h_eeF rfl rfl rfl rfl ?_ | refine h_eeS rfl rfl rfl rfl (fun _ => ?_) fun _ => ?_) <;> (first | refine hwp_nilT ?_ | refine hwp_nilB ?_ | refine hwp_nil ?_)) <;> (repeat (first | refine ewp_seq ?_ | refine ewp_block ?_ | refine ewp_region ?_ | refine ewp_skip ?_ | refine ewp_exit ?_ | refine ewp_ret ?_ | refine ewp_true rfl ?_ | refine ewp_false rfl ?_))
      (refine o_mv rfl rfl ?_ <;> refine o_bd rfl rfl rfl ?_)
      refine owp_box rfl rfl fun w4 hN4 => ?_
      (refine o_as rfl rfl ?_ <;> (first | refine owp_nilT ?_ | refine owp_nilB ?_ | refine owp_nilBB ?_ | refine owp_nil ?_))
      repeat (first | refine ewp_seq ?_ | refine ewp_block ?_ | refine ewp_region ?_ | refine ewp_skip ?_ | refine ewp_exit ?_ | refine ewp_ret ?_ | refine ewp_true rfl ?_ | refine ewp_false rfl ?_)
      have hE4 : Ext w w4 := hE3.trans' hN4.ext
      have hT : mkT t (fuel + 1) ops v = .leaf ops := by simp only [mkT, hemp', hnx, hlast]; simp
      rw [hT]
      refine ret1 rfl rfl ⟨⟨w3.heap.size, .slice Ax ops.length cx, rfl, .inr ⟨hE3.size, hN4.blk.lt⟩, hN4.blk, ?_⟩, hE4⟩
      exact Vb.mono (Vb.agree hV3 (hN4.ext.agree fun k hk => Nat.lt_of_lt_of_le (hF k hk) hE3.size)) fun k hk => .inl hk
    have hun' : u < t.vars.length := by omega
    obtain ⟨n, hn⟩ := some_of_lt hun'
    have hn1 := hdom u n hn
    obtain ⟨m, rfl⟩ := Int.eq_ofNat_of_zero_le (show 0 ≤ n by omega)
    have hT : mkT t (fuel + 1) ops v = .node u m (fun x => mkT t fuel (ops.filter (valB t u x)) (u + 1)) (mkT t fuel (ops.filter (restB t u)) (u + 1)) := by
      simp only [mkT, hemp', hnx, hlast, hn]; simp
    rw [hT]
    clear hT hnx
    (refine h_ldA rfl rfl rfl ?_ <;> refine h_ldA rfl rfl rfl ?_ <;> refine h_nc rfl rfl rfl ?_ <;> refine h_fa rfl rfl rfl ?_ <;> refine h_fa rfl rfl rfl ?_ <;> refine h_ldA rfl rfl rfl ?_ <;> refine h_ln rfl rfl rfl ?_ <;> (first | refine h_eeT rfl rfl rfl rfl ?_ | refine h_eeF rfl rfl rfl rfl ?_ | refine h_eeS rfl rfl rfl rfl (fun _ => ?_) fun _ => ?_) <;> (first | refine hwp_nilT ?_ | refine hwp_nilB ?_ | refine hwp_nil ?_)) <;> (repeat (first | refine ewp_seq ?_ | refine ewp_block ?_ | refine ewp_region ?_ | refine ewp_skip ?_ | refine ewp_exit ?_ | refine ewp_ret ?_ | refine ewp_true rfl ?_ | refine ewp_false rfl ?_))
    obtain ⟨bv, ov, ce, rfl, hbv, _, hdv, rfl, _⟩ := hvars.elem hn
    refine ewp_draw (Ext w3) [(0, true), (1, true), (2, true), (3, true), (4, true), (5, true), (6, true), (7, true), (8, false), (9, true)] (by kernel_rfl) rfl (by kernel_rfl) (Below.refl _ _) ?_
    have hb1s := hb1
    have hb2s := hb2
    replace hb1 : ∀ w', Ext w3 w' → Blk w' w.heap.size 35 [.pointer (some ⟨gb, 0, none⟩)] := fun w' h => hb1s.ext h
    replace hb2 : ∀ w', Ext w3 w' → Blk w' w1.heap.size 3 [.int .i64 (u : Int)] := fun w' h => hb2s.ext h
    have hb3s := hb3
    replace hb3 : ∀ w', Ext w3 w' → Blk w' gb 68 [.slice (some ⟨bv, ov, none⟩) t.vars.length cv, b, c, d, .pointer rp] := fun w' h => hb3s.ext h
    have hd1 : ∀ w', Ext w3 w' → cellsAt w' bv (ov + u * 1) [.int .i64 (m : Int)] := fun w' h => cells_ext hdv hbv (hE3.trans' h)
    ((first | refine h_ldB rfl rfl rfl ?_ | refine h_ldC rfl rfl rfl ?_) <;> refine h_nc rfl rfl rfl ?_ <;> refine h_fa rfl rfl rfl ?_ <;> refine h_fa rfl rfl rfl ?_ <;> (first | refine h_ldB rfl rfl rfl ?_ | refine h_ldC rfl rfl rfl ?_) <;> (first | refine h_ldB rfl rfl rfl ?_ | refine h_ldC rfl rfl rfl ?_) <;> refine h_ia rfl rfl rfl rfl ?_ <;> (first | refine h_ldB rfl rfl rfl ?_ | refine h_ldC rfl rfl rfl ?_))
    refine hwp_loud rfl ?_
    refine owp_make rfl rfl (by omega) (by omega) rfl fun w4 hN4 => ?_
    refine owp_loud hN4.ext ?_
    (refine h_as rfl rfl rfl ?_ <;> (first | refine hwp_nilT ?_ | refine hwp_nilB ?_ | refine hwp_nil ?_))
    have hE4 : Ext w w4 := hE3.trans' hN4.ext
    have hw23 : w2.heap.size ≤ w3.heap.size := by have := hb2s.lt; omega
    replace hb1 := hb1s.ext hN4.ext
    replace hb2 := hb2s.ext hN4.ext
    clear hb3 hd1
    repeat (first | refine ewp_seq ?_ | refine ewp_block ?_ | refine ewp_region ?_ | refine ewp_skip ?_ | refine ewp_exit ?_ | refine ewp_ret ?_ | refine ewp_true rfl ?_ | refine ewp_false rfl ?_)
    ((repeat (first | refine ewp_seq ?_ | refine ewp_block ?_ | refine ewp_region ?_ | refine ewp_skip ?_ | refine ewp_exit ?_ | refine ewp_ret ?_ | refine ewp_true rfl ?_ | refine ewp_false rfl ?_)) <;> (refine o_as rfl rfl ?_ <;> (first | refine owp_nilT ?_ | refine owp_nilB ?_ | refine owp_nilBB ?_ | refine owp_nil ?_)) <;> (repeat (first | refine ewp_seq ?_ | refine ewp_block ?_ | refine ewp_region ?_ | refine ewp_skip ?_ | refine ewp_exit ?_ | refine ewp_ret ?_ | refine ewp_true rfl ?_ | refine ewp_false rfl ?_)) <;> (refine o_mv rfl rfl ?_ <;> refine o_ln rfl rfl ?_ <;> refine o_mv rfl rfl ?_ <;> (first | refine owp_nilT ?_ | refine owp_nilB ?_ | refine owp_nilBB ?_ | refine owp_nil ?_)) <;> (repeat (first | refine ewp_seq ?_ | refine ewp_block ?_ | refine ewp_region ?_ | refine ewp_skip ?_ | refine ewp_exit ?_ | refine ewp_ret ?_ | refine ewp_true rfl ?_ | refine ewp_false rfl ?_)))
    have hby0 : ByInv w4 w2.heap.size w3.heap.size (List.replicate m (.slice none 0 0)) (.slice none 0 0) (fun i => ((ops.take 0).filter (valB t u i))) ((ops.take 0).filter (restB t u)) m := by
      have hget : ∀ (i : Nat) (x : Value), (List.replicate m (Value.slice none 0 0))[i]? = some x → x = .slice none 0 0 := fun i x h => by
        rw [List.getElem?_replicate] at h; split at h <;> simp at h; exact h.symm
      refine ⟨by simp, by have := hN4.blk; rwa [made_nils] at this, fun i x h => ?_, by simpa using Own.nil _ _ _ _, fun i j x y _ hx _ g hg => ?_, fun i x hx g hg => ?_⟩
      · rw [hget i x h]; simpa using Own.nil _ _ _ _
      · rw [hget i x hx] at hg; simp [Value.ownBlock] at hg
      · rw [hget i x hx] at hg; simp [Value.ownBlock] at hg
    refine ewp_range ops.length (by omega) (fun x : List Value × Value => [(1, .slice Ax ops.length cx), (3, .pointer (some ⟨w.heap.size, 0, none⟩)), (5, .pointer (some ⟨w1.heap.size, 0, none⟩)), (7, .slice (some ⟨w3.heap.size, 0, none⟩) m m), (8, x.2), (55, .slice Ax ops.length cx)])
      (fun k x w' => Ext w w' ∧ Blk w' w.heap.size 35 [.pointer (some ⟨gb, 0, none⟩)] ∧ Blk w' w1.heap.size 3 [.int .i64 (u : Int)] ∧ ByInv w' w2.heap.size w3.heap.size x.1 x.2 (fun i => ((ops.take k).filter (valB t u i))) ((ops.take k).filter (restB t u)) m) (List.replicate m (.slice none 0 0), .slice none 0 0)
      ⟨hE4, hb1, hb2, hby0⟩ ⟨rfl, rfl, rfl, rfl, rfl, rfl, rfl, rfl, trivial⟩ (fun _ => ⟨rfl, rfl⟩) ⟨rfl, rfl, rfl⟩ ⟨rfl, rfl⟩ ?_ ?_
    · rintro k ⟨vals, rv⟩ w5 hk ⟨hE5, hb1, hb2, hby⟩
      dsimp only at hby
      obtain ⟨x, hx⟩ := some_of_lt hk
      obtain ⟨hx0, hx1⟩ := hin x (List.mem_of_getElem? hx)
      obtain ⟨j, rfl⟩ := Int.eq_ofNat_of_zero_le hx0
      obtain ⟨o, ho⟩ := some_of_lt (l := t.ops) (k := j) (by omega)
      have hpre : preOf t (j : Int) = o.pre := by simp [preOf, ho]
      obtain ⟨b2, o2, ce, rfl, hbF, _, hd0, rfl, hxin⟩ := hops.elem hx
      have hd1 := cells_ext hd0 (hF _ hbF) hE5
      ((repeat (first | refine ewp_seq ?_ | refine ewp_block ?_ | refine ewp_region ?_ | refine ewp_skip ?_ | refine ewp_exit ?_ | refine ewp_ret ?_ | refine ewp_true rfl ?_ | refine ewp_false rfl ?_)) <;> (refine o_ia rfl rfl rfl ?_ <;> refine o_ld rfl rfl ?_ <;> refine o_as rfl rfl ?_ <;> (first | refine owp_nilT ?_ | refine owp_nilB ?_ | refine owp_nilBB ?_ | refine owp_nil ?_)) <;> (repeat (first | refine ewp_seq ?_ | refine ewp_block ?_ | refine ewp_region ?_ | refine ewp_skip ?_ | refine ewp_exit ?_ | refine ewp_ret ?_ | refine ewp_true rfl ?_ | refine ewp_false rfl ?_)) <;> (refine o_ld rfl rfl ?_ <;> refine o_mv rfl rfl ?_ <;> refine o_ld rfl rfl ?_) <;> (repeat (first | refine ewp_seq ?_ | refine ewp_block ?_ | refine ewp_region ?_ | refine ewp_skip ?_ | refine ewp_exit ?_ | refine ewp_ret ?_ | refine ewp_true rfl ?_ | refine ewp_false rfl ?_)))
      refine owp_call rfl rfl (genFact (hg0.ext hE5) ho) ?_
      rintro _ w6 ⟨rfl, hE6⟩
      replace hb1 := hb1.ext hE6
      replace hb2 := hb2.ext hE6
      replace hby := hby.ext hE6
      have hE06 : Ext w w6 := hE5.trans' hE6
      have hkl : ((ops.take k).filter (restB t u)).length ≤ 4096 := Nat.le_trans (List.length_filter_le _ _) (by rw [List.length_take]; omega)
      cases hf : factOn o.pre (u : Int) with
      | none =>
        simp only [factV]
        (refine o_mv rfl rfl ?_ <;> refine o_ex rfl rfl rfl ?_ <;> refine o_ex rfl rfl rfl ?_)
        refine owp_local rfl rfl rfl (by simp [Value.cells, Value.oneCell']) fun w7 hN7 => ?_
        replace hb1 := hb1.ext hN7.ext
        replace hb2 := hb2.ext hN7.ext
        replace hby := hby.ext hN7.ext
        have hE7 : Ext w w7 := hE06.trans' hN7.ext
        (refine o_as rfl rfl ?_ <;> (first | refine owp_nilT ?_ | refine owp_nilB ?_ | refine owp_nilBB ?_ | refine owp_nil ?_))
        repeat (first | refine ewp_seq ?_ | refine ewp_block ?_ | refine ewp_region ?_ | refine ewp_skip ?_ | refine ewp_exit ?_ | refine ewp_ret ?_ | refine ewp_true rfl ?_ | refine ewp_false rfl ?_)
        ((repeat (first | refine ewp_seq ?_ | refine ewp_block ?_ | refine ewp_region ?_ | refine ewp_skip ?_ | refine ewp_exit ?_ | refine ewp_ret ?_ | refine ewp_true rfl ?_ | refine ewp_false rfl ?_)) <;> (refine o_mv rfl rfl ?_ <;> (first | refine owp_nilT ?_ | refine owp_nilB ?_ | refine owp_nilBB ?_ | refine owp_nil ?_)) <;> (repeat (first | refine ewp_seq ?_ | refine ewp_block ?_ | refine ewp_region ?_ | refine ewp_skip ?_ | refine ewp_exit ?_ | refine ewp_ret ?_ | refine ewp_true rfl ?_ | refine ewp_false rfl ?_)))
        (refine o_mv rfl rfl ?_ <;> refine o_mv rfl rfl ?_)
        have hl2 := hb2.lt
        refine owp_append1x (a := (j : Int)) rfl rfl rfl hby.rest (fun _ h => h.elim) (by omega) ⟨rfl, hxin⟩ (by decide) (by decide) (by omega) (by omega) ⟨rfl, rfl⟩ fun rv' w8 ho8 hK8 hat => ?_
        have hB8 : Below w2.heap.size w7 w8 := hby.rest.fits (Nat.le_refl _) (by omega) hK8
        have hby8 := hby.putRest hK8 ho8 hat
        (refine o_as rfl rfl ?_ <;> (first | refine owp_nilT ?_ | refine owp_nilB ?_ | refine owp_nilBB ?_ | refine owp_nil ?_))
        repeat (first | refine ewp_seq ?_ | refine ewp_block ?_ | refine ewp_region ?_ | refine ewp_skip ?_ | refine ewp_exit ?_ | refine ewp_ret ?_ | refine ewp_true rfl ?_ | refine ewp_false rfl ?_)
        refine ⟨(vals, rv'), ⟨rfl, rfl, rfl, rfl, rfl, rfl, rfl, rfl, trivial⟩, hE7.trans (hB8.mono (by omega)), hb1.keep (hB8.block _ (by omega)), hb2.keep (hB8.block _ (by omega)), ?_⟩
        have e1 : ∀ i, (ops.take (k + 1)).filter (valB t u i) = (ops.take k).filter (valB t u i) := fun i => by rw [filter_step hx]; simp [valB, hpre, hf]
        have e2 : (ops.take (k + 1)).filter (restB t u) = (ops.take k).filter (restB t u) ++ [(j : Int)] := by rw [filter_step hx]; simp [restB, hpre, hf]
        dsimp only
        rw [e2]
        simp only [e1]
        exact hby8
      | some f =>
        obtain ⟨hf0, n', hn', hf1⟩ := hfv j o ho u f hf hun'
        rw [hn] at hn'; injection hn' with hn'; subst hn'
        obtain ⟨x0, hj1⟩ := Int.eq_ofNat_of_zero_le hf0
        have hx0m : x0 < m := by omega
        obtain ⟨u0, hu0⟩ := some_of_lt (l := vals) (k := x0) (by rw [hby.len]; exact hx0m)
        simp only [factV]
        (refine o_mv rfl rfl ?_ <;> refine o_ex rfl rfl rfl ?_ <;> refine o_ex rfl rfl rfl ?_)
        refine owp_local rfl rfl rfl (by simp [Value.cells, Value.oneCell']) fun w7 hN7 => ?_
        replace hb1 := hb1.ext hN7.ext
        replace hb2 := hb2.ext hN7.ext
        replace hby := hby.ext hN7.ext
        have hE7 : Ext w w7 := hE06.trans' hN7.ext
        have hbf := hN7.blk
        (refine o_as rfl rfl ?_ <;> (first | refine owp_nilT ?_ | refine owp_nilB ?_ | refine owp_nilBB ?_ | refine owp_nil ?_))
        repeat (first | refine ewp_seq ?_ | refine ewp_block ?_ | refine ewp_region ?_ | refine ewp_skip ?_ | refine ewp_exit ?_ | refine ewp_ret ?_ | refine ewp_true rfl ?_ | refine ewp_false rfl ?_)
        ((repeat (first | refine ewp_seq ?_ | refine ewp_block ?_ | refine ewp_region ?_ | refine ewp_skip ?_ | refine ewp_exit ?_ | refine ewp_ret ?_ | refine ewp_true rfl ?_ | refine ewp_false rfl ?_)) <;> (refine o_mv rfl rfl ?_ <;> (first | refine owp_nilT ?_ | refine owp_nilB ?_ | refine owp_nilBB ?_ | refine owp_nil ?_)) <;> (repeat (first | refine ewp_seq ?_ | refine ewp_block ?_ | refine ewp_region ?_ | refine ewp_skip ?_ | refine ewp_exit ?_ | refine ewp_ret ?_ | refine ewp_true rfl ?_ | refine ewp_false rfl ?_)))
        have hl2 := hb2.lt
        have hown0 := hby.own x0 u0 hu0
        have hkl0 : ((ops.take k).filter (valB t u x0)).length ≤ 4096 := Nat.le_trans (List.length_filter_le _ _) (by rw [List.length_take]; omega)
        refine ewp_draw (fun w' => Blk w' w6.heap.size 28 [.int .i64 f.var, .int .i64 f.val] ∧ Blk w' w3.heap.size 22 vals) [(0, true), (1, true), (2, true), (3, true), (4, true), (5, true), (6, true), (7, true), (8, true), (9, false), (10, false), (11, true), (12, false)] (by kernel_rfl) rfl (by kernel_rfl) ⟨hbf, hby.blk⟩ ?_
        have hb1s := hb1
        have hb2s := hb2
        clear hb2
        replace hb1 : ∀ w', (Blk w' w6.heap.size 28 [.int .i64 f.var, .int .i64 f.val] ∧ Blk w' w3.heap.size 22 vals) → Blk w' w6.heap.size 28 [.int .i64 f.var, .int .i64 f.val] := fun _ h => h.1
        have hc1 : ∀ w', (Blk w' w6.heap.size 28 [.int .i64 f.var, .int .i64 f.val] ∧ Blk w' w3.heap.size 22 vals) → w'.cell? ⟨w3.heap.size, 0 + x0 * 1, none⟩ = some u0 := fun _ h => h.2.cell (by rw [Nat.zero_add, Nat.mul_one]; exact hu0)
        (refine h_mv rfl rfl rfl ?_ <;> refine h_fa rfl rfl rfl ?_ <;> (first | refine h_ldB rfl rfl rfl ?_ | refine h_ldC rfl rfl rfl ?_) <;> refine h_mv rfl rfl rfl ?_ <;> refine h_fa rfl rfl rfl ?_ <;> (first | refine h_ldB rfl rfl rfl ?_ | refine h_ldC rfl rfl rfl ?_) <;> refine h_ia rfl rfl rfl rfl ?_ <;> (first | refine h_ldB rfl rfl rfl ?_ | refine h_ldC rfl rfl rfl ?_) <;> refine h_mv rfl rfl rfl ?_)
        refine hwp_loud rfl ?_
        refine owp_slice rfl rfl rfl (by simp [Value.cells]) (by decide) rfl fun w8 hN8 => ?_
        refine owp_loud ⟨hbf.ext hN8.ext, hby.blk.ext hN8.ext⟩ ?_
        refine hwp_loud rfl ?_
        refine owp_append (α := Int) (A := some ⟨w7.heap.size, 0, none⟩) (c := 1) (ys := [(j : Int)]) (cells := [.int .i64 (j : Int)]) rfl rfl (hown0.ext hN8.ext fun _ h => h.elim) (fun _ h => h.elim) (by have := hN8.size; omega) (.single ⟨rfl, hxin⟩) (fun _ => ⟨_, _, rfl, hN8.blk.cellsAt⟩) (by decide) (by rw [List.length_singleton]; omega) (by rw [List.length_singleton]; omega) rfl fun v' w9 ho9 hg9 hat => ?_
        have hK9 : Kept w7 w9 u0 := ⟨hg9.os.trans hN8.ext.os, hg9.tape.trans hN8.ext.tape, hg9.output.trans hN8.ext.output, Nat.le_trans hN8.ext.size hg9.size, fun k hk hne => by rw [hg9.block k (Nat.lt_of_lt_of_le hk hN8.ext.size) (fun he => hne he.symm), hN8.ext.block k hk]⟩
        have hbf9 := hK9.blk hbf (hown0.blk_ne hbf (by decide))
        have hby9 := hK9.blk hby.blk (hown0.blk_ne hby.blk (by decide))
        have hB9 : Below w2.heap.size w7 w9 := hown0.fits (Nat.le_refl _) (by omega) hK9
        refine owp_loud ⟨hbf9, hby9⟩ ?_
        (refine h_ia rfl rfl rfl rfl ?_)
        refine hwp_loud rfl ?_
        obtain ⟨A9, c9, rfl⟩ := ho9.form
        refine owp_store (g := w3.heap.size) (o := 0 + x0 * 1) rfl rfl hby9 rfl (by rw [hby.len]; show 0 + x0 * 1 + 1 ≤ m; omega) (by simp [Value.cells, Value.oneCell']) fun w10 hU => ?_
        have hset : setFrom vals (0 + x0 * 1) [.slice A9 (List.filter (valB t u x0) (List.take k ops) ++ [(j : Int)]).length c9] = vals.set x0 (.slice A9 (List.filter (valB t u x0) (List.take k ops) ++ [(j : Int)]).length c9) := by rw [Nat.zero_add, Nat.mul_one]; rfl
        have hU' : Upd w9 w10 w3.heap.size 22 (vals.set x0 (.slice A9 (List.filter (valB t u x0) (List.take k ops) ++ [(j : Int)]).length c9)) := hset ▸ hU
        have hby10 := hby.putVal hu0 hK9 ho9 (by
          rcases hat with hat | hat
          · exact .inl hat
          · exact .inr ⟨_, hat, hN8.ext.size⟩) hU'
        have hB10 : Below w2.heap.size w9 w10 := hU.below hw23
        refine owp_loudE ?_
        ((first | refine hwp_nilT ?_ | refine hwp_nilB ?_ | refine hwp_nil ?_))
        repeat (first | refine ewp_seq ?_ | refine ewp_block ?_ | refine ewp_region ?_ | refine ewp_skip ?_ | refine ewp_exit ?_ | refine ewp_ret ?_ | refine ewp_true rfl ?_ | refine ewp_false rfl ?_)
        refine ⟨(vals.set x0 (.slice A9 (List.filter (valB t u x0) (List.take k ops) ++ [(j : Int)]).length c9), rv), ⟨rfl, rfl, rfl, rfl, rfl, rfl, rfl, rfl, trivial⟩, hE7.trans ((hB9.trans hB10).mono (by omega)), hb1s.keep ((hB9.trans hB10).block _ (by omega)), hb2s.keep ((hB9.trans hB10).block _ (by omega)), ?_⟩
        have e1 : ∀ i, (ops.take (k + 1)).filter (valB t u i) = if i = x0 then (ops.take k).filter (valB t u x0) ++ [(j : Int)] else (ops.take k).filter (valB t u i) := fun i => by
          rw [filter_step hx]
          by_cases hi : i = x0
          · subst hi; simp [valB, hpre, hf, hj1]
          · have : ¬ (f.val = (i : Int)) := by omega
            simp [valB, hpre, hf, hi, this]
        have e2 : (ops.take (k + 1)).filter (restB t u) = (ops.take k).filter (restB t u) := by rw [filter_step hx]; simp [restB, hpre, hf]
        dsimp only
        rw [e2]
        simp only [e1]
        exact hby10
    rintro ⟨vals, rv⟩ w5 ⟨hE5, hb1, hb2, hby⟩
    dsimp only at hby
    rw [List.take_length] at hby
    have hl2 := hb2.lt
    have hb1s := hb1
    have hb2s := hb2
    have hflt : ∀ p : Int → Bool, OpsIn t (ops.filter p) ∧ (ops.filter p).length ≤ 4096 := fun p => ⟨fun x hx => hin x (List.mem_filter.1 hx).1, Nat.le_trans (List.length_filter_le _ _) hlen⟩
    have hrv : Vb w5 (fun k => rv.ownBlock = some k) rv (ops.filter (restB t u)) := hby.rest.vb.mono fun k hk => hk.resolve_left id
    repeat (first | refine ewp_seq ?_ | refine ewp_block ?_ | refine ewp_region ?_ | refine ewp_skip ?_ | refine ewp_exit ?_ | refine ewp_ret ?_ | refine ewp_true rfl ?_ | refine ewp_false rfl ?_)
    refine ewp_draw (Ext w5) [(0, true), (1, true), (2, true), (3, true), (4, true), (5, false), (6, true), (7, false), (8, true)] (by kernel_rfl) rfl (by kernel_rfl) (Below.refl _ _) ?_
    (refine h_ldE rfl rfl rfl ?_ <;> refine h_ldE rfl rfl rfl ?_ <;> refine h_mv rfl rfl rfl ?_ <;> refine h_ldE rfl rfl rfl ?_ <;> (first | refine h_ic rfl rfl rfl ?_ | refine h_ad rfl rfl rfl rfl ?_))
    refine hwp_loud rfl ?_
    refine owp_call rfl rfl (ih w5 _ rv _ (u + 1) (fun k => rv.ownBlock = some k) (hg0.ext hE5) hrv (fun k hk => (hby.rest.lt k hk).2) (hflt _).1 (hflt _).2 (by omega) (by omega)) ?_
    rintro p6 w6 ⟨hT6, hE6⟩
    obtain ⟨q6, rfl⟩ := hT6.form
    refine owp_loud hE6 ?_
    (refine h_bd rfl rfl rfl rfl ?_)
    refine hwp_loud rfl ?_
    refine owp_box rfl rfl fun w7 hN7 => ?_
    refine owp_loud (hE6.trans' hN7.ext) ?_
    (refine h_as rfl rfl rfl ?_ <;> (first | refine hwp_nilT ?_ | refine hwp_nilB ?_ | refine hwp_nil ?_))
    have hnode : Blk w7 w6.heap.size 88 [.slice none 0 0, .bool false, .int .i64 (u : Int), .slice none 0 0, .pointer q6] := hN7.blk
    have hby6 := hby.ext hE6
    repeat (first | refine ewp_seq ?_ | refine ewp_block ?_ | refine ewp_region ?_ | refine ewp_skip ?_ | refine ewp_exit ?_ | refine ewp_ret ?_ | refine ewp_true rfl ?_ | refine ewp_false rfl ?_)
    ((repeat (first | refine ewp_seq ?_ | refine ewp_block ?_ | refine ewp_region ?_ | refine ewp_skip ?_ | refine ewp_exit ?_ | refine ewp_ret ?_ | refine ewp_true rfl ?_ | refine ewp_false rfl ?_)) <;> (refine o_mv rfl rfl ?_ <;> refine o_ln rfl rfl ?_ <;> refine o_mv rfl rfl ?_ <;> (first | refine owp_nilT ?_ | refine owp_nilB ?_ | refine owp_nilBB ?_ | refine owp_nil ?_)) <;> (repeat (first | refine ewp_seq ?_ | refine ewp_block ?_ | refine ewp_region ?_ | refine ewp_skip ?_ | refine ewp_exit ?_ | refine ewp_ret ?_ | refine ewp_true rfl ?_ | refine ewp_false rfl ?_)))
    refine ewp_range m (by omega) (fun x : Value => [(3, .pointer (some ⟨w.heap.size, 0, none⟩)), (5, .pointer (some ⟨w1.heap.size, 0, none⟩)), (13, .pointer (some ⟨w6.heap.size, 0, none⟩)), (94, .slice (some ⟨w3.heap.size, 0, none⟩) m m)])
      (fun k x w' => Ext w6 w' ∧ Blk w' w6.heap.size 88 [.slice none 0 0, .bool false, .int .i64 (u : Int), x, .pointer q6] ∧ ∃ G : Nat → Prop, (∀ k, G k → k < w'.heap.size ∧ w2.heap.size ≤ k) ∧ ¬ G w6.heap.size ∧ Own w' w7.heap.size G 66 x ((List.range k).map fun i => mkT t fuel (ops.filter (valB t u i)) (u + 1))) (.slice none 0 0)
      ⟨hN7.ext, hnode, fun _ => False, fun _ h => h.elim, id, Own.nil _ _ _ _⟩ ⟨rfl, rfl, rfl, rfl, rfl, rfl, trivial⟩ (fun _ => ⟨rfl, rfl⟩) ⟨rfl, rfl, rfl⟩ ⟨rfl, rfl⟩ ?_ ?_
    · rintro k xv w8 hk ⟨hE8, hnd, G, hG, hGn, hown⟩
      obtain ⟨u0, hu0⟩ := some_of_lt (l := vals) (k := k) (by rw [hby.len]; exact hk)
      have hby8 := hby6.ext hE8
      have hE58 : Ext w5 w8 := hE6.trans' hE8
      have hE08 : Ext w w8 := hE5.trans' hE58
      have hc1 : w8.cell? ⟨w3.heap.size, 0 + k * 1, none⟩ = some u0 := hby8.blk.cell (by rw [Nat.zero_add, Nat.mul_one]; exact hu0)
      have hown0 := hby8.own k u0 hu0
      obtain ⟨Ak, ck, rfl⟩ := hown0.form
      obtain ⟨Ax', cx', rfl⟩ := hown.form
      have hz78 : w7.heap.size ≤ w8.heap.size := by have := hnd.lt; have := hN7.size; omega
      ((repeat (first | refine ewp_seq ?_ | refine ewp_block ?_ | refine ewp_region ?_ | refine ewp_skip ?_ | refine ewp_exit ?_ | refine ewp_ret ?_ | refine ewp_true rfl ?_ | refine ewp_false rfl ?_)) <;> (refine o_ia rfl rfl rfl ?_ <;> refine o_ld rfl rfl ?_ <;> refine o_as rfl rfl ?_ <;> (first | refine owp_nilT ?_ | refine owp_nilB ?_ | refine owp_nilBB ?_ | refine owp_nil ?_)) <;> (repeat (first | refine ewp_seq ?_ | refine ewp_block ?_ | refine ewp_region ?_ | refine ewp_skip ?_ | refine ewp_exit ?_ | refine ewp_ret ?_ | refine ewp_true rfl ?_ | refine ewp_false rfl ?_)))
      refine ewp_draw (fun w' => Blk w' w6.heap.size 88 [.slice none 0 0, .bool false, .int .i64 (u : Int), .slice Ax' ((List.range k).map fun i => mkT t fuel (ops.filter (valB t u i)) (u + 1)).length cx', .pointer q6] ∧ Blk w' w.heap.size 35 [.pointer (some ⟨gb, 0, none⟩)] ∧ Blk w' w1.heap.size 3 [.int .i64 (u : Int)]) [(0, true), (1, true), (2, true), (3, true), (4, true), (5, true), (6, true), (7, true), (8, true), (9, false), (10, false), (11, false), (12, true), (13, true), (14, false)] (by kernel_rfl) rfl (by kernel_rfl) ⟨hnd, hb1s.ext hE58, hb2s.ext hE58⟩ ?_
      have hS8 : ∀ w', Ext w8 w' → Blk w' w6.heap.size 88 [.slice none 0 0, .bool false, .int .i64 (u : Int), .slice Ax' ((List.range k).map fun i => mkT t fuel (ops.filter (valB t u i)) (u + 1)).length cx', .pointer q6] ∧ Blk w' w.heap.size 35 [.pointer (some ⟨gb, 0, none⟩)] ∧ Blk w' w1.heap.size 3 [.int .i64 (u : Int)] := fun w' h => ⟨hnd.ext h, (hb1s.ext hE58).ext h, (hb2s.ext hE58).ext h⟩
      clear hb1 hb2 hc1
      have hb1 : ∀ w', (Blk w' w6.heap.size 88 [.slice none 0 0, .bool false, .int .i64 (u : Int), .slice Ax' ((List.range k).map fun i => mkT t fuel (ops.filter (valB t u i)) (u + 1)).length cx', .pointer q6] ∧ Blk w' w.heap.size 35 [.pointer (some ⟨gb, 0, none⟩)] ∧ Blk w' w1.heap.size 3 [.int .i64 (u : Int)]) → Blk w' w6.heap.size 88 [.slice none 0 0, .bool false, .int .i64 (u : Int), .slice Ax' ((List.range k).map fun i => mkT t fuel (ops.filter (valB t u i)) (u + 1)).length cx', .pointer q6] := fun _ h => h.1
      have hb2 : ∀ w', (Blk w' w6.heap.size 88 [.slice none 0 0, .bool false, .int .i64 (u : Int), .slice Ax' ((List.range k).map fun i => mkT t fuel (ops.filter (valB t u i)) (u + 1)).length cx', .pointer q6] ∧ Blk w' w.heap.size 35 [.pointer (some ⟨gb, 0, none⟩)] ∧ Blk w' w1.heap.size 3 [.int .i64 (u : Int)]) → Blk w' w.heap.size 35 [.pointer (some ⟨gb, 0, none⟩)] := fun _ h => h.2.1
      have hb3 : ∀ w', (Blk w' w6.heap.size 88 [.slice none 0 0, .bool false, .int .i64 (u : Int), .slice Ax' ((List.range k).map fun i => mkT t fuel (ops.filter (valB t u i)) (u + 1)).length cx', .pointer q6] ∧ Blk w' w.heap.size 35 [.pointer (some ⟨gb, 0, none⟩)] ∧ Blk w' w1.heap.size 3 [.int .i64 (u : Int)]) → Blk w' w1.heap.size 3 [.int .i64 (u : Int)] := fun _ h => h.2.2
      (refine h_mv rfl rfl rfl ?_ <;> refine h_mv rfl rfl rfl ?_ <;> refine h_nc rfl rfl rfl ?_ <;> refine h_fa rfl rfl rfl ?_ <;> (first | refine h_ldB rfl rfl rfl ?_ | refine h_ldC rfl rfl rfl ?_) <;> (first | refine h_ldB rfl rfl rfl ?_ | refine h_ldC rfl rfl rfl ?_) <;> refine h_mv rfl rfl rfl ?_ <;> (first | refine h_ldB rfl rfl rfl ?_ | refine h_ldC rfl rfl rfl ?_) <;> (first | refine h_ic rfl rfl rfl ?_ | refine h_ad rfl rfl rfl rfl ?_))
      refine hwp_loud rfl ?_
      have hu0v : Vb w8 (fun q => (Value.slice Ak (ops.filter (valB t u k)).length ck).ownBlock = some q) (.slice Ak (ops.filter (valB t u k)).length ck) (ops.filter (valB t u k)) := hown0.vb.mono fun q hq => hq.resolve_left id
      refine owp_call rfl rfl (ih w8 _ _ _ (u + 1) _ (hg0.ext hE08) hu0v (fun q hq => (hown0.lt q hq).2) (hflt _).1 (hflt _).2 (by omega) (by omega)) ?_
      rintro p9 w9 ⟨hT9, hE9⟩
      obtain ⟨q9, rfl⟩ := hT9.form
      refine owp_loud (hS8 w9 hE9) ?_
      refine hwp_loud rfl ?_
      refine owp_slice rfl rfl rfl (by simp [Value.cells]) (by decide) rfl fun w10 hN10 => ?_
      have hE10 : Ext w8 w10 := hE9.trans' hN10.ext
      refine owp_loud (hS8 w10 hE10) ?_
      have hG' : ∀ q, (G q ∨ (Value.slice Ak (ops.filter (valB t u k)).length ck).ownBlock = some q ∨ w8.heap.size ≤ q ∧ q < w9.heap.size) → q < w9.heap.size ∧ w2.heap.size ≤ q := fun q hq => by
        have h9 := hE9.size
        have h6 := hE6.size
        have h7 := hN7.size
        rcases hq with hq | hq | hq
        · have := hG q hq; exact ⟨by omega, this.2⟩
        · have := hown0.lt q hq; exact ⟨by omega, this.1⟩
        · exact ⟨hq.2, by omega⟩
      have hGx : ∀ g, (Value.slice Ax' ((List.range k).map fun i => mkT t fuel (ops.filter (valB t u i)) (u + 1)).length cx').ownBlock = some g → ¬ (G g ∨ (Value.slice Ak (ops.filter (valB t u k)).length ck).ownBlock = some g ∨ w8.heap.size ≤ g ∧ g < w9.heap.size) := fun g hg h => by
        rcases h with h | h | h
        · obtain ⟨_, _, _, h3⟩ := hown; exact h3 g hg h
        · exact hown.own_ne hown0 (by decide) g hg h
        · have := (hown.lt g hg).2; omega
      have hownG : Own w9 w7.heap.size (fun q => G q ∨ (Value.slice Ak (ops.filter (valB t u k)).length ck).ownBlock = some q ∨ w8.heap.size ≤ q ∧ q < w9.heap.size) 66 _ _ := (hown.ext hE9 fun q hq => (hG q hq).1).mono (fun q hq => .inl hq) hGx
      have hch : Chunks w10 (fun q => G q ∨ (Value.slice Ak (ops.filter (valB t u k)).length ck).ownBlock = some q ∨ w8.heap.size ≤ q ∧ q < w9.heap.size) [.pointer q9] [mkT t fuel (ops.filter (valB t u k)) (u + 1)] :=
        .single (show Rp.R w10 _ [.pointer q9] _ from ⟨q9, rfl, TrR.agree (hN10.ext.agree fun q hq => (hG' q hq).1) (TrR.mono (fun q hq => by
          rcases hq with hq | hq
          · exact .inr (.inl hq)
          · exact .inr (.inr hq)) hT9)⟩)
      refine hwp_loud rfl ?_
      have hmk : ((List.range k).map fun i => mkT t fuel (ops.filter (valB t u i)) (u + 1)).length ≤ 64 := by simp; omega
      refine owp_append (α := Tr) (A := some ⟨w9.heap.size, 0, none⟩) (c := 1) (ys := [mkT t fuel (ops.filter (valB t u k)) (u + 1)]) (cells := [.pointer q9]) rfl rfl (hownG.ext hN10.ext fun q hq => (hG' q hq).1) (fun q hq => Nat.lt_of_lt_of_le (hG' q hq).1 hN10.ext.size) (by have := hE10.size; omega) hch (fun _ => ⟨_, _, rfl, hN10.blk.cellsAt⟩) (by decide) (by rw [List.length_singleton]; omega) (by rw [List.length_singleton]; omega) rfl fun v' w11 ho11 hg11 hat => ?_
      have hown10 := hown.ext hE10 fun q hq => (hG q hq).1
      have hK11 : Kept w8 w11 (.slice Ax' ((List.range k).map fun i => mkT t fuel (ops.filter (valB t u i)) (u + 1)).length cx') := ⟨hg11.os.trans hE10.os, hg11.tape.trans hE10.tape, hg11.output.trans hE10.output, Nat.le_trans hE10.size hg11.size, fun q hq hne => by rw [hg11.block q (Nat.lt_of_lt_of_le hq hE10.size) (fun he => hne he.symm), hE10.block q hq]⟩
      have hB11 : Below w7.heap.size w8 w11 := hown.fits (Nat.le_refl _) hz78 hK11
      have hnd11 := hK11.blk hnd (hown.blk_ne hnd (by decide))
      have hz67 := hN7.size
      refine owp_loud ⟨hnd11, (hb1s.ext hE58).keep (hB11.block _ (by have := hE6.size; omega)), (hb2s.ext hE58).keep (hB11.block _ (by have := hE6.size; omega))⟩ ?_
      (refine h_nc rfl rfl rfl ?_ <;> refine h_fa rfl rfl rfl ?_)
      refine hwp_loud rfl ?_
      obtain ⟨A11, c11, rfl⟩ := ho11.form
      refine owp_store (g := w6.heap.size) rfl rfl hnd11 rfl (show 0 + 3 + 1 ≤ 5 by decide) (by simp [Value.cells, Value.oneCell']) fun w12 hU => ?_
      refine owp_loudE ?_
      ((first | refine hwp_nilT ?_ | refine hwp_nilB ?_ | refine hwp_nil ?_))
      repeat (first | refine ewp_seq ?_ | refine ewp_block ?_ | refine ewp_region ?_ | refine ewp_skip ?_ | refine ewp_exit ?_ | refine ewp_ret ?_ | refine ewp_true rfl ?_ | refine ewp_false rfl ?_)
      refine ⟨_, ⟨rfl, rfl, rfl, rfl, rfl, rfl, trivial⟩, ?_, hU.blk, (fun q => G q ∨ (Value.slice Ak (ops.filter (valB t u k)).length ck).ownBlock = some q ∨ w8.heap.size ≤ q ∧ q < w9.heap.size), ?_, ?_, ?_⟩
      · exact hE8.trans ((hB11.mono (by omega)).trans (hU.below (Nat.le_refl _)))
      · intro q hq
        have := hG' q hq
        have h1 := hN10.ext.size
        have h2 := hg11.size
        exact ⟨by rw [hU.size]; omega, this.2⟩
      · rintro (h | h | h)
        · exact hGn h
        · exact hown0.blk_ne hnd (by decide) h
        · have := hnd.lt; omega
      · rw [List.range_succ, List.map_append]
        have hne : (Value.slice A11 (((List.range k).map fun i => mkT t fuel (ops.filter (valB t u i)) (u + 1)) ++ [mkT t fuel (ops.filter (valB t u k)) (u + 1)]).length c11).ownBlock ≠ some w6.heap.size := ho11.blk_ne hnd11 (by decide)
        exact ho11.agree (hU.agree (by
          rintro (h | h | h)
          · exact hGn h
          · exact hown0.blk_ne hnd (by decide) h
          · have := hnd.lt; omega)) fun g hg => hU.other g fun he => hne (he ▸ hg)
    rintro xv w8 ⟨hE8, hnd, G, hG, hGn, hown⟩
    repeat (first | refine ewp_seq ?_ | refine ewp_block ?_ | refine ewp_region ?_ | refine ewp_skip ?_ | refine ewp_exit ?_ | refine ewp_ret ?_ | refine ewp_true rfl ?_ | refine ewp_false rfl ?_)
    ((repeat (first | refine ewp_seq ?_ | refine ewp_block ?_ | refine ewp_region ?_ | refine ewp_skip ?_ | refine ewp_exit ?_ | refine ewp_ret ?_ | refine ewp_true rfl ?_ | refine ewp_false rfl ?_)) <;> (refine o_mv rfl rfl ?_ <;> refine o_as rfl rfl ?_ <;> (first | refine owp_nilT ?_ | refine owp_nilB ?_ | refine owp_nilBB ?_ | refine owp_nil ?_)) <;> (repeat (first | refine ewp_seq ?_ | refine ewp_block ?_ | refine ewp_region ?_ | refine ewp_skip ?_ | refine ewp_exit ?_ | refine ewp_ret ?_ | refine ewp_true rfl ?_ | refine ewp_false rfl ?_)))
    have hE08 : Ext w w8 := hE5.trans' (hE6.trans' hE8)
    obtain ⟨Ax', cx', rfl⟩ := hown.form
    have hxl : ((List.range m).map fun i => mkT t fuel (ops.filter (valB t u i)) (u + 1)).length = m := by simp
    rw [hxl] at hnd
    refine ret1 rfl rfl ⟨⟨w6.heap.size, Ax', cx', q6, rfl, .inr ⟨by have := hE5.size; have := hE6.size; omega, hnd.lt⟩, hnd, ?_, fun i hi => ?_⟩, hE08⟩
    · refine TrR.mono (fun q hq => ?_) (TrR.agree (hE8.agree fun q hq => ?_) hT6)
      · rcases hq with hq | hq
        · have := hby.rest.lt q hq; have := hE6.size; have := hE8.size; exact .inr ⟨by omega, by omega⟩
        · have := hE8.size; have := hE5.size; exact .inr ⟨by omega, by omega⟩
      · rcases hq with hq | hq
        · have := hby.rest.lt q hq; have := hE6.size; omega
        · exact hq.2
    · have hvb := hown.vb
      obtain ⟨b9, o9, cs9, hA, hF9, _, hc9, q9, rfl, hT9⟩ := hvb.elem (k := i) (x := mkT t fuel (ops.filter (valB t u i)) (u + 1)) (by rw [List.getElem?_map, List.getElem?_range hi]; rfl)
      have hsub : ∀ q, (G q ∨ (Value.slice Ax' ((List.range m).map fun i => mkT t fuel (ops.filter (valB t u i)) (u + 1)).length cx').ownBlock = some q) → more F w w8 q := fun q hq => by
        rcases hq with hq | hq
        · have := hG q hq; exact .inr ⟨by omega, this.1⟩
        · have h1 := hown.lt q hq; have := hN7.size; have := hE6.size; exact .inr ⟨by omega, h1.2⟩
      exact ⟨b9, o9, q9, hA, hsub _ hF9, by have := hc9.1; rwa [show i * Rp.size Tr = i from Nat.mul_one i] at this, TrR.mono hsub hT9⟩
end Go.Proofs.Ytfbcjknlihopcaa

/- Own text: contracts of (*Generator).fact and of the function literal in build. -/
import Derived.Test.YtfbcjknlihopcaaFind
namespace Go.Proofs.Ytfbcjknlihopcaa
open Go Go.RowKit
attribute [local irreducible] ewp owp hwp hwq hws Ev Evg Fn retPost loud loudS Res1
/-- A generator whose tree is not looked at. -/
def GenB (w : World) (F : Nat → Prop) (gv : Value) (t : Tsk) : Prop :=
  ∃ gb a b c d rp, gv = .pointer (some ⟨gb, 0, none⟩) ∧ F gb ∧ Blk w gb 68 [a, b, c, d, .pointer rp] ∧ Vb w F a t.vars ∧ Vb w F b t.init ∧ Vb w F c t.goal ∧ Vb w F d t.ops
theorem GenB.agree {w w' : World} {F : Nat → Prop} {gv : Value} {t : Tsk} (h : GenB w F gv t) (ha : Agree F w w') : GenB w' F gv t := by
  obtain ⟨gb, a, b, c, d, r, h1, h2, h3, h4, h5, h6, h7⟩ := h
  exact ⟨gb, a, b, c, d, r, h1, h2, h3.keep (ha gb h2), h4.agree ha, h5.agree ha, h6.agree ha, h7.agree ha⟩
theorem GenB.mono {w : World} {F G : Nat → Prop} {gv : Value} {t : Tsk} (h : GenB w F gv t) (ha : ∀ k, F k → G k) : GenB w G gv t := by
  obtain ⟨gb, a, b, c, d, r, h1, h2, h3, h4, h5, h6, h7⟩ := h
  exact ⟨gb, a, b, c, d, r, h1, ha _ h2, h3, h4.mono ha, h5.mono ha, h6.mono ha, h7.mono ha⟩
theorem GenB.ext {w w' : World} {gv : Value} {t : Tsk} (h : GenB w (All w) gv t) (hE : Ext w w') : GenB w' (All w') gv t := (h.agree (hE.agree fun _ h => h)).mono fun k hk => Nat.lt_of_lt_of_le hk hE.size
def factOn (l : List Fct) (v : Int) : Option Fct := l.find? fun f => decide (f.var = v)
def factV : Option Fct → Value
  | some f => .tuple #[.agg #[.int .i64 f.var, .int .i64 f.val], .bool true]
  | none => .tuple #[.agg #[.int .i64 0, .int .i64 0], .bool false]
theorem find_some {α : Type} (p : α → Bool) : ∀ {l : List α} {k : Nat} {x : α}, l[k]? = some x → p x = true → (∀ i, i < k → ∀ y, l[i]? = some y → p y = false) → l.find? p = some x
  | [], _, _, h, _, _ => by simp at h
  | y :: l, 0, x, h, hp, _ => by
    have : y = x := by simpa using h
    subst this; simp [hp]
  | y :: l, k + 1, x, h, hp, hn => by
    have hy := hn 0 (by omega) y rfl
    rw [List.find?_cons, hy]
    exact find_some p (k := k) (by simpa using h) hp fun i hi z hz => hn (i + 1) (by omega) z (by simpa using hz)
theorem find_none {α : Type} (p : α → Bool) {l : List α} (hn : ∀ i, i < l.length → ∀ y, l[i]? = some y → p y = false) : l.find? p = none := by
  rw [List.find?_eq_none]
  intro x hx
  obtain ⟨i, hi⟩ := List.getElem?_of_mem hx
  simp [hn i (lt_of_some hi) x hi]
theorem genFact {w : World} {gv : Value} {t : Tsk} {j : Nat} {o : Opr} {v : Int} (hg : GenB w (All w) gv t) (ho : t.ops[j]? = some o) :
    Fn Try.prog 46 [gv, .int .i64 (j : Int), .int .i64 v] w fun r w' => r = factV (factOn o.pre v) ∧ Ext w w' := by
  obtain ⟨gb, a, b, c, d, rp, rfl, hgb, hb0, hvars, hinit, hgoal, hops⟩ := hg
  obtain ⟨Ao, co, rfl⟩ := hops.form
  obtain ⟨b2, o2, ce, rfl, hbl, hjl, hd0, p, q, rfl, hp, hq, hc, hnm⟩ := hops.elem ho
  obtain ⟨Ap, cp, rfl⟩ := hp.form
  have hpl := hp.len
  refine fn_enter Try.func46 rfl Try.ntmps46 rfl ?_
  repeat (first | refine ewp_seq ?_ | refine ewp_block ?_ | refine ewp_region ?_ | refine ewp_skip ?_ | refine ewp_exit ?_ | refine ewp_ret ?_ | refine ewp_true rfl ?_ | refine ewp_false rfl ?_)
  refine owp_alloc rfl fun w1 hN1 => ?_
  have hres := hN1.blk
  have hE1 : Ext w w1 := hN1.ext
  have hb1 := hb0.ext hE1
  have hd1 := cells_ext hd0 hbl hE1
  (refine o_as rfl rfl ?_ <;> (first | refine owp_nilT ?_ | refine owp_nilB ?_ | refine owp_nilBB ?_ | refine owp_nil ?_))
  repeat (first | refine ewp_seq ?_ | refine ewp_block ?_ | refine ewp_region ?_ | refine ewp_skip ?_ | refine ewp_exit ?_ | refine ewp_ret ?_ | refine ewp_true rfl ?_ | refine ewp_false rfl ?_)
  ((repeat (first | refine ewp_seq ?_ | refine ewp_block ?_ | refine ewp_region ?_ | refine ewp_skip ?_ | refine ewp_exit ?_ | refine ewp_ret ?_ | refine ewp_true rfl ?_ | refine ewp_false rfl ?_)) <;> (refine o_mv rfl rfl ?_ <;> refine o_nc rfl rfl ?_ <;> refine o_fa rfl rfl ?_ <;> refine o_fa rfl rfl ?_ <;> refine o_ld rfl rfl ?_ <;> refine o_mv rfl rfl ?_ <;> refine o_ia rfl rfl rfl ?_ <;> refine o_fa rfl rfl ?_ <;> refine o_ld rfl rfl ?_ <;> refine o_ln rfl rfl ?_ <;> refine o_mv rfl rfl ?_ <;> (first | refine owp_nilT ?_ | refine owp_nilB ?_ | refine owp_nilBB ?_ | refine owp_nil ?_)) <;> (repeat (first | refine ewp_seq ?_ | refine ewp_block ?_ | refine ewp_region ?_ | refine ewp_skip ?_ | refine ewp_exit ?_ | refine ewp_ret ?_ | refine ewp_true rfl ?_ | refine ewp_false rfl ?_)))
  refine ewp_range o.pre.length (by omega) (fun _ : Unit => [(2, .int .i64 v), (6, .pointer (some ⟨w.heap.size, 0, none⟩)), (18, .slice Ap o.pre.length cp)]) (fun k _ w' => Ext w1 w' ∧ ∀ i, i < k → ∀ f, o.pre[i]? = some f → decide (f.var = v) = false) ()
    ⟨Below.refl _ _, fun i hi => by omega⟩ ⟨rfl, rfl, rfl, rfl, rfl, trivial⟩ (fun _ => ⟨rfl, rfl⟩) ⟨rfl, rfl, rfl⟩ ⟨rfl, rfl⟩ ?_ ?_
  · rintro k _ w2 hk ⟨hE2, hh⟩
    obtain ⟨f, hf⟩ := some_of_lt hk
    obtain ⟨b3, o3, ce, rfl, _, _, hd1, rfl, hr1, hr2⟩ := (hp.ext (hE1.trans' hE2)).elem hf
    ((repeat (first | refine ewp_seq ?_ | refine ewp_block ?_ | refine ewp_region ?_ | refine ewp_skip ?_ | refine ewp_exit ?_ | refine ewp_ret ?_ | refine ewp_true rfl ?_ | refine ewp_false rfl ?_)) <;> (refine o_ia rfl rfl rfl ?_ <;> refine o_la rfl rfl ?_) <;> (repeat (first | refine ewp_seq ?_ | refine ewp_block ?_ | refine ewp_region ?_ | refine ewp_skip ?_ | refine ewp_exit ?_ | refine ewp_ret ?_ | refine ewp_true rfl ?_ | refine ewp_false rfl ?_)))
    refine owp_local rfl rfl rfl (by simp [Value.cells, Value.oneCell']) fun w3 hN3 => ?_
    have hb2 := hN3.blk
    have hE3 : Ext w1 w3 := hE2.trans' hN3.ext
    replace hres := hres.ext hE3
    ((first | refine owp_nilT ?_ | refine owp_nilB ?_ | refine owp_nilBB ?_ | refine owp_nil ?_))
    repeat (first | refine ewp_seq ?_ | refine ewp_block ?_ | refine ewp_region ?_ | refine ewp_skip ?_ | refine ewp_exit ?_ | refine ewp_ret ?_ | refine ewp_true rfl ?_ | refine ewp_false rfl ?_)
    ((repeat (first | refine ewp_seq ?_ | refine ewp_block ?_ | refine ewp_region ?_ | refine ewp_skip ?_ | refine ewp_exit ?_ | refine ewp_ret ?_ | refine ewp_true rfl ?_ | refine ewp_false rfl ?_)) <;> (refine o_fa rfl rfl ?_ <;> refine o_ld rfl rfl ?_ <;> refine o_mv rfl rfl ?_ <;> (first | refine o_eeT rfl rfl rfl ?_ | refine o_eeF rfl rfl rfl ?_ | refine o_eeS rfl rfl rfl (fun _ => ?_) fun _ => ?_) <;> (first | refine owp_nilT ?_ | refine owp_nilB ?_ | refine owp_nilBB ?_ | refine owp_nil ?_)) <;> (repeat (first | refine ewp_seq ?_ | refine ewp_block ?_ | refine ewp_region ?_ | refine ewp_skip ?_ | refine ewp_exit ?_ | refine ewp_ret ?_ | refine ewp_true rfl ?_ | refine ewp_false rfl ?_)))
    · (refine o_la rfl rfl ?_)
      refine owp_store rfl rfl hres rfl (Nat.le_refl _) (by simp [Value.cells, Value.oneCell']) fun w4 hU => ?_
      (refine o_as rfl rfl ?_ <;> (first | refine owp_nilT ?_ | refine owp_nilB ?_ | refine owp_nilBB ?_ | refine owp_nil ?_))
      repeat (first | refine ewp_seq ?_ | refine ewp_block ?_ | refine ewp_region ?_ | refine ewp_skip ?_ | refine ewp_exit ?_ | refine ewp_ret ?_ | refine ewp_true rfl ?_ | refine ewp_false rfl ?_)
      refine ret2 rfl (res_cell rfl rfl hU.blk.cellsAt) (res_tmp rfl) ⟨?_, hE1.trans ((hE3.mono hE1.size).trans (hU.below (Nat.le_refl _)))⟩
      rw [factOn, find_some _ hf (by simpa using ‹f.var = v›) hh]
      rfl
    · exact ⟨(), ⟨rfl, rfl, rfl, rfl, rfl, trivial⟩, hE3, upto_step hh fun f' hf' => by rw [hf] at hf'; injection hf' with hf'; subst hf'; simpa using ‹¬ f.var = v›⟩
  rintro _ w2 ⟨hE2, hh⟩
  replace hres := hres.ext hE2
  repeat (first | refine ewp_seq ?_ | refine ewp_block ?_ | refine ewp_region ?_ | refine ewp_skip ?_ | refine ewp_exit ?_ | refine ewp_ret ?_ | refine ewp_true rfl ?_ | refine ewp_false rfl ?_)
  (refine o_bd rfl rfl rfl ?_)
  refine owp_store rfl rfl hres rfl (Nat.le_refl _) (by simp [Value.cells, Value.oneCell', setParts]) fun w4 hU => ?_
  (refine o_as rfl rfl ?_ <;> (first | refine owp_nilT ?_ | refine owp_nilB ?_ | refine owp_nilBB ?_ | refine owp_nil ?_))
  repeat (first | refine ewp_seq ?_ | refine ewp_block ?_ | refine ewp_region ?_ | refine ewp_skip ?_ | refine ewp_exit ?_ | refine ewp_ret ?_ | refine ewp_true rfl ?_ | refine ewp_false rfl ?_)
  refine ret2 rfl (res_cell rfl rfl hU.blk.cellsAt) (res_tmp rfl) ⟨?_, hE1.trans ((hE2.mono hE1.size).trans (hU.below (Nat.le_refl _)))⟩
  rw [factOn, find_none _ hh]
  rfl
theorem genBuild1 {w : World} {gv : Value} {t : Tsk} {j : Nat} {o : Opr} {v : Int} {g1 g2 : Nat} {r1 r2 : TypeId} (hg : GenB w (All w) gv t) (ho : t.ops[j]? = some o) (h1 : Blk w g1 r1 [gv]) (h2 : Blk w g2 r2 [.int .i64 v]) :
    Fn Try.prog 45 ([.int .i64 (j : Int)] ++ [.pointer (some ⟨g1, 0, none⟩), .pointer (some ⟨g2, 0, none⟩)]) w fun r w' => r = .bool (factOn o.pre v).isSome ∧ Ext w w' := by
  have hb1 := h1
  have hb2 := h2
  refine fn_enter Try.func45 rfl Try.ntmps45 rfl ?_
  ((repeat (first | refine ewp_seq ?_ | refine ewp_block ?_ | refine ewp_region ?_ | refine ewp_skip ?_ | refine ewp_exit ?_ | refine ewp_ret ?_ | refine ewp_true rfl ?_ | refine ewp_false rfl ?_)) <;> (refine o_as rfl rfl ?_ <;> (first | refine owp_nilT ?_ | refine owp_nilB ?_ | refine owp_nilBB ?_ | refine owp_nil ?_)) <;> (repeat (first | refine ewp_seq ?_ | refine ewp_block ?_ | refine ewp_region ?_ | refine ewp_skip ?_ | refine ewp_exit ?_ | refine ewp_ret ?_ | refine ewp_true rfl ?_ | refine ewp_false rfl ?_)) <;> (refine o_ld rfl rfl ?_ <;> refine o_mv rfl rfl ?_ <;> refine o_ld rfl rfl ?_) <;> (repeat (first | refine ewp_seq ?_ | refine ewp_block ?_ | refine ewp_region ?_ | refine ewp_skip ?_ | refine ewp_exit ?_ | refine ewp_ret ?_ | refine ewp_true rfl ?_ | refine ewp_false rfl ?_)))
  refine owp_call rfl rfl (genFact hg ho) ?_
  rintro _ w1 ⟨rfl, hE1⟩
  cases hf : factOn o.pre v with
  | none =>
    simp only [factV]
    (refine o_mv rfl rfl ?_ <;> refine o_ex rfl rfl rfl ?_ <;> refine o_ex rfl rfl rfl ?_)
    refine owp_local rfl rfl rfl (by simp [Value.cells, Value.oneCell']) fun w2 hN2 => ?_
    (refine o_as rfl rfl ?_ <;> (first | refine owp_nilT ?_ | refine owp_nilB ?_ | refine owp_nilBB ?_ | refine owp_nil ?_))
    repeat (first | refine ewp_seq ?_ | refine ewp_block ?_ | refine ewp_region ?_ | refine ewp_skip ?_ | refine ewp_exit ?_ | refine ewp_ret ?_ | refine ewp_true rfl ?_ | refine ewp_false rfl ?_)
    ((repeat (first | refine ewp_seq ?_ | refine ewp_block ?_ | refine ewp_region ?_ | refine ewp_skip ?_ | refine ewp_exit ?_ | refine ewp_ret ?_ | refine ewp_true rfl ?_ | refine ewp_false rfl ?_)) <;> (refine o_mv rfl rfl ?_ <;> refine o_as rfl rfl ?_ <;> (first | refine owp_nilT ?_ | refine owp_nilB ?_ | refine owp_nilBB ?_ | refine owp_nil ?_)) <;> (repeat (first | refine ewp_seq ?_ | refine ewp_block ?_ | refine ewp_region ?_ | refine ewp_skip ?_ | refine ewp_exit ?_ | refine ewp_ret ?_ | refine ewp_true rfl ?_ | refine ewp_false rfl ?_)))
    exact ret1 rfl rfl ⟨rfl, hE1.trans' hN2.ext⟩
  | some f =>
    simp only [factV]
    (refine o_mv rfl rfl ?_ <;> refine o_ex rfl rfl rfl ?_ <;> refine o_ex rfl rfl rfl ?_)
    refine owp_local rfl rfl rfl (by simp [Value.cells, Value.oneCell']) fun w2 hN2 => ?_
    (refine o_as rfl rfl ?_ <;> (first | refine owp_nilT ?_ | refine owp_nilB ?_ | refine owp_nilBB ?_ | refine owp_nil ?_))
    repeat (first | refine ewp_seq ?_ | refine ewp_block ?_ | refine ewp_region ?_ | refine ewp_skip ?_ | refine ewp_exit ?_ | refine ewp_ret ?_ | refine ewp_true rfl ?_ | refine ewp_false rfl ?_)
    ((repeat (first | refine ewp_seq ?_ | refine ewp_block ?_ | refine ewp_region ?_ | refine ewp_skip ?_ | refine ewp_exit ?_ | refine ewp_ret ?_ | refine ewp_true rfl ?_ | refine ewp_false rfl ?_)) <;> (refine o_mv rfl rfl ?_ <;> refine o_as rfl rfl ?_ <;> (first | refine owp_nilT ?_ | refine owp_nilB ?_ | refine owp_nilBB ?_ | refine owp_nil ?_)) <;> (repeat (first | refine ewp_seq ?_ | refine ewp_block ?_ | refine ewp_region ?_ | refine ewp_skip ?_ | refine ewp_exit ?_ | refine ewp_ret ?_ | refine ewp_true rfl ?_ | refine ewp_false rfl ?_)))
    exact ret1 rfl rfl ⟨rfl, hE1.trans' hN2.ext⟩
end Go.Proofs.Ytfbcjknlihopcaa

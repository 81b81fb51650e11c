/- Own text: what the proof of succgenKeeps_holds uses, part 3: rules, models and their proofs, plain laws. -/
import Derived.Test.YtfbcjknlihopcaaKpB
set_option linter.unusedVariables false
set_option linter.unusedSimpArgs false
namespace Go.Proofs.Ytfbcjknlihopcaa
open Go Go.RowKit
section
open Go Go.RowKit
attribute [local irreducible] ewp owp hwp hwq hws Ev Evg Fn retPost loud loudS Res1
/-- The blocks that are new. -/
def nw (w w' : World) : Nat → Prop := fun k => w.heap.size ≤ k ∧ k < w'.heap.size
theorem chunks_fct {w : World} {F G : Nat → Prop} : ∀ {xs : List Fct} {cells : List Value}, Chunks w F cells xs → Chunks w G cells xs
  | [], _, h => h
  | _ :: _, _, ⟨cs, rest, he, hr, hc⟩ => ⟨cs, rest, he, hr, chunks_fct hc⟩
theorem chunks_int' {w : World} {F G : Nat → Prop} : ∀ {xs : List Int} {cells : List Value}, Chunks w F cells xs → Chunks w G cells xs
  | [], _, h => h
  | _ :: _, _, ⟨cs, rest, he, hr, hc⟩ => ⟨cs, rest, he, hr, chunks_int' hc⟩
theorem cloneIntsN {w : World} {sv : Value} {xs : List Int} (hs : V w sv xs) (hl : xs.length ≤ 1000000) : Fn Try.prog 34 [sv] w fun v w' => Vb w' (nw w w') v xs ∧ Ext w w' :=
  (cloneInts hs (by omega)).mono fun v w' ⟨ho, hE⟩ => ⟨by
    obtain ⟨cells, q1, q2, q3⟩ := id ho
    have ho' : Own w' w.heap.size (fun _ => False) 3 v xs := ⟨cells, q1, chunks_int' q2, fun _ _ h => h⟩
    exact ho'.vb.mono fun k hk => ho.lt k (hk.resolve_left id), hE⟩
theorem cloneFactsN {w : World} {sv : Value} {xs : List Fct} (hs : V w sv xs) (hl : xs.length ≤ 1000000) : Fn Try.prog 43 [sv] w fun v w' => Vb w' (nw w w') v xs ∧ Ext w w' :=
  (cloneFacts hs (by omega)).mono fun v w' ⟨ho, hE⟩ => ⟨by
    obtain ⟨cells, q1, q2, q3⟩ := id ho
    have ho' : Own w' w.heap.size (fun _ => False) 28 v xs := ⟨cells, q1, chunks_fct q2, fun _ _ h => h⟩
    exact ho'.vb.mono fun k hk => ho.lt k (hk.resolve_left id), hE⟩
theorem Vb.nwext {α : Type} [Rp α] {w w' w'' : World} {v : Value} {x : α} (h : Vb w' (nw w w') v x) (hE : Ext w' w'') : Vb w'' (nw w w') v x := h.agree (hE.agree fun _ hk => hk.2)
theorem genCopied {w : World} {tv : Value} {t : Tsk} (ht : V w tv t) (hl1 : t.vars.length ≤ 1000000) (hl2 : t.init.length ≤ 1000000) (hl3 : t.goal.length ≤ 1000000) (hl4 : t.ops.length ≤ 1000000)
    (hl5 : ∀ (i : Nat) o, t.ops[i]? = some o → o.pre.length ≤ 1000000 ∧ o.effs.length ≤ 1000000 ∧ ∀ (j : Nat) e, o.effs[j]? = some e → e.cond.length ≤ 1000000) :
    Fn Try.prog 30 [tv] w fun v w' => Vb w' (nw w w') v t ∧ Ext w w' := by
  obtain ⟨cs, rfl, a, b, c, d, rfl, hvars, hinit, hgoal, hops⟩ := ht
  obtain ⟨Av, cv, rfl⟩ := hvars.form
  obtain ⟨Ai, ci, rfl⟩ := hinit.form
  obtain ⟨Ag, cg, rfl⟩ := hgoal.form
  obtain ⟨Ao, co, rfl⟩ := hops.form
  refine fn_enter Try.func30 rfl Try.ntmps30 rfl ?_
  repeat (first | refine e_go ?_ | refine ewp_true rfl ?_ | refine ewp_false rfl ?_)
  refine owp_box rfl rfl fun w1 hN1 => ?_
  refine owp_alloc rfl fun w2 hN2 => ?_
  have hE2 : Ext w w2 := hN1.ext.trans' hN2.ext
  have hz1 : w1.heap.size = w.heap.size + 1 := hN1.size
  have hz2 : w2.heap.size = w1.heap.size + 1 := hN2.size
  have hb1 : Blk w2 w.heap.size 26 [.slice Av t.vars.length cv, .slice Ai t.init.length ci, .slice Ag t.goal.length cg, .slice Ao t.ops.length co] := hN1.blk.ext hN2.ext
  have hres : Blk w2 w1.heap.size 26 [.slice none 0 0, .slice none 0 0, .slice none 0 0, .slice none 0 0] := hN2.blk
  ((refine o_z ?_))
  refine ewp_cut (fun l' w' => ∃ g3 av bv cv', subs l' [(1, .pointer (some ⟨w.heap.size, 0, none⟩)), (2, .pointer (some ⟨w1.heap.size, 0, none⟩)), (3, .pointer (some ⟨g3, 0, none⟩))] ∧ Ext w2 w' ∧ w2.heap.size ≤ g3 ∧ Blk w' g3 26 [av, bv, cv', .slice none 0 0] ∧
    Vb w' (fun k => nw w2 w' k ∧ k ≠ g3) av t.vars ∧ Vb w' (fun k => nw w2 w' k ∧ k ≠ g3) bv t.init ∧ Vb w' (fun k => nw w2 w' k ∧ k ≠ g3) cv' t.goal) ?_ ?_
  · have q0 : ∀ w', Ext w2 w' → Blk w' w.heap.size 26 [.slice Av t.vars.length cv, .slice Ai t.init.length ci, .slice Ag t.goal.length cg, .slice Ao t.ops.length co] := fun w' h => hb1.ext h
    refine ewp_drawS (Ext w2) ?_
    refine hws_q (i := 0) rfl (by kernel_rfl) (by kernel_rfl) (by kernel_rfl) rfl rfl (evg fun _ _ => ev_fieldAddr rfl) (Below.refl _ _) ?_
    refine hws_q (i := 1) rfl (by kernel_rfl) (by kernel_rfl) (by kernel_rfl) rfl rfl (evg fun _ hS => ev_load1 rfl ((hb1.ext hS).cell rfl)) (Below.refl _ _) ?_
    refine hws_q (i := 3) rfl (by kernel_rfl) (by kernel_rfl) (by kernel_rfl) rfl rfl (evg fun _ _ => ev_fieldAddr rfl) (Below.refl _ _) ?_
    refine hws_q (i := 4) rfl (by kernel_rfl) (by kernel_rfl) (by kernel_rfl) rfl rfl (evg fun _ hS => ev_load1 rfl ((hb1.ext hS).cell rfl)) (Below.refl _ _) ?_
    refine hws_q (i := 6) rfl (by kernel_rfl) (by kernel_rfl) (by kernel_rfl) rfl rfl (evg fun _ _ => ev_fieldAddr rfl) (Below.refl _ _) ?_
    refine hws_q (i := 7) rfl (by kernel_rfl) (by kernel_rfl) (by kernel_rfl) rfl rfl (evg fun _ hS => ev_load1 rfl ((hb1.ext hS).cell rfl)) (Below.refl _ _) ?_
    refine hws_two (i := 2) (j := 10) (by kernel_rfl) rfl rfl ?_ ?_
    · refine owp_call rfl rfl (cloneIntsN (hvars.ext hE2) hl1) ?_
      rintro av w3 ⟨hav, hE3⟩
      refine owp_loudS hE3 ?_
      refine hws_two (i := 5) (j := 10) (by kernel_rfl) rfl rfl ?_ ?_
      · refine owp_call rfl rfl (cloneIntsN (hinit.ext (hE2.trans' hE3)) hl2) ?_
        rintro bv w4 ⟨hbv, hE4⟩
        refine owp_loudS (hE3.trans' hE4) ?_
        refine hws_two (i := 8) (j := 10) (by kernel_rfl) rfl rfl ?_ ?_
        · refine owp_call rfl rfl (cloneFactsN (hgoal.ext (hE2.trans' (hE3.trans' hE4))) hl3) ?_
          rintro cv' w5 ⟨hcv, hE5⟩
          refine owp_loudS (hE3.trans' (hE4.trans' hE5)) ?_
          refine hws_ord [(9, true), (10, false), (11, false)] (by kernel_rfl) rfl (by kernel_rfl) (hE3.trans' (hE4.trans' hE5)) ?_
          obtain ⟨Aa, ca, rfl⟩ := hav.form
          obtain ⟨Ab, cb, rfl⟩ := hbv.form
          obtain ⟨Ac, cc, rfl⟩ := hcv.form
          refine hwp_o rfl ?_
          refine hwq_ev (fun _ _ => ev_build rfl rfl) rfl ?_
          refine hwp_loud rfl ?_
          refine owp_alloc rfl fun w6 hN6 => ?_
          refine owp_loud (hE3.trans' (hE4.trans' (hE5.trans' hN6.ext))) ?_
          refine hwp_loud rfl ?_
          refine owp_store rfl rfl hN6.blk rfl (Nat.le_refl _) (by simp [Value.cells, Value.oneCell', setParts, setFrom]) fun w7 hU => ?_
          refine owp_loudE (hwp_nilT ?_)
          have hE7 : Ext w5 w7 := (hN6.upd hU).ext
          have s3 := hE3.size; have s4 := hE4.size; have s5 := hE5.size; have s7 := hE7.size
          refine ⟨w5.heap.size, _, _, _, ⟨rfl, rfl, rfl, trivial⟩, hE3.trans' (hE4.trans' (hE5.trans' hE7)), by omega, hU.blk, ?_, ?_, ?_⟩
          · exact ((((hav.nwext hE4).agree (hE5.agree fun k hk => by have := hk.2; omega)).agree (hE7.agree fun k hk => by have := hk.2; omega)).mono fun k hk => ⟨⟨by have := hk.1; omega, by have := hk.2; omega⟩, by have := hk.2; omega⟩)
          · exact ((hbv.nwext hE5).agree (hE7.agree fun k hk => by have := hk.2; omega)).mono fun k hk => ⟨⟨by have := hk.1; omega, by have := hk.2; omega⟩, by have := hk.2; omega⟩
          · exact (hcv.nwext hE7).mono fun k hk => ⟨⟨by have := hk.1; omega, by have := hk.2; omega⟩, by have := hk.2; omega⟩
        · refine owp_alloc rfl fun w5 hN => ?_
          have hE5 := hN.ext
          refine owp_loudS (hE3.trans' (hE4.trans' hE5)) ?_
          refine hws_ord [(8, false), (9, true), (11, false)] (by kernel_rfl) rfl (by kernel_rfl) (hE3.trans' (hE4.trans' hE5)) ?_
          refine hwp_loud rfl ?_
          refine owp_call rfl rfl (cloneFactsN (hgoal.ext (hE2.trans' (hE3.trans' (hE4.trans' hE5)))) hl3) ?_
          rintro cv' w6 ⟨hcv, hE6⟩
          refine owp_loud (hE3.trans' (hE4.trans' (hE5.trans' hE6))) ?_
          have hg3 := hN.blk.ext hE6
          obtain ⟨Aa, ca, rfl⟩ := hav.form
          obtain ⟨Ab, cb, rfl⟩ := hbv.form
          obtain ⟨Ac, cc, rfl⟩ := hcv.form
          refine hwp_o rfl ?_
          refine hwq_ev (fun _ _ => ev_build rfl rfl) rfl ?_
          refine hwp_loud rfl ?_
          refine owp_store rfl rfl hg3 rfl (Nat.le_refl _) (by simp [Value.cells, Value.oneCell', setParts, setFrom]) fun w7 hU => ?_
          refine owp_loudE (hwp_nilT ?_)
          have s3 := hE3.size; have s4 := hE4.size; have s5 := hE5.size; have s6 := hE6.size; have s7 := hU.size; have sN := hN.size
          refine ⟨_, _, _, _, ⟨rfl, rfl, rfl, trivial⟩, (hE3.trans' (hE4.trans' (hE5.trans' hE6))).trans (hU.below (by omega)), by omega, hU.blk, ?_, ?_, ?_⟩
          · exact (hav.agree fun k hk => (hU.other k (by have := hk.2; omega)).trans ((hE4.trans' (hE5.trans' hE6)).block k hk.2)).mono fun k hk => ⟨⟨by have := hk.1; omega, by have := hk.2; omega⟩, by have := hk.2; omega⟩
          · exact (hbv.agree fun k hk => (hU.other k (by have := hk.2; omega)).trans ((hE5.trans' hE6).block k hk.2)).mono fun k hk => ⟨⟨by have := hk.1; omega, by have := hk.2; omega⟩, by have := hk.2; omega⟩
          · exact (hcv.agree fun k hk => hU.other k (by have := hk.1; omega)).mono fun k hk => ⟨⟨by have := hk.1; omega, by have := hk.2; omega⟩, by have := hk.1; omega⟩
      · refine owp_alloc rfl fun w4 hN => ?_
        have hE4 := hN.ext
        refine owp_loudS (hE3.trans' hE4) ?_
        refine hws_ord [(5, false), (8, false), (9, true), (11, false)] (by kernel_rfl) rfl (by kernel_rfl) (hE3.trans' hE4) ?_
        refine hwp_loud rfl ?_
        refine owp_call rfl rfl (cloneIntsN (hinit.ext (hE2.trans' (hE3.trans' hE4))) hl2) ?_
        rintro bv w5 ⟨hbv, hE5⟩
        refine owp_loud (hE3.trans' (hE4.trans' hE5)) ?_
        refine hwp_loud rfl ?_
        refine owp_call rfl rfl (cloneFactsN (hgoal.ext (hE2.trans' (hE3.trans' (hE4.trans' hE5)))) hl3) ?_
        rintro cv' w6 ⟨hcv, hE6⟩
        refine owp_loud (hE3.trans' (hE4.trans' (hE5.trans' hE6))) ?_
        have hg3 := (hN.blk.ext hE5).ext hE6
        obtain ⟨Aa, ca, rfl⟩ := hav.form
        obtain ⟨Ab, cb, rfl⟩ := hbv.form
        obtain ⟨Ac, cc, rfl⟩ := hcv.form
        refine hwp_o rfl ?_
        refine hwq_ev (fun _ _ => ev_build rfl rfl) rfl ?_
        refine hwp_loud rfl ?_
        refine owp_store rfl rfl hg3 rfl (Nat.le_refl _) (by simp [Value.cells, Value.oneCell', setParts, setFrom]) fun w7 hU => ?_
        refine owp_loudE (hwp_nilT ?_)
        have s3 := hE3.size; have s4 := hE4.size; have s5 := hE5.size; have s6 := hE6.size; have s7 := hU.size; have sN := hN.size
        refine ⟨_, _, _, _, ⟨rfl, rfl, rfl, trivial⟩, (hE3.trans' (hE4.trans' (hE5.trans' hE6))).trans (hU.below (by omega)), by omega, hU.blk, ?_, ?_, ?_⟩
        · exact (hav.agree fun k hk => (hU.other k (by have := hk.2; omega)).trans ((hE4.trans' (hE5.trans' hE6)).block k hk.2)).mono fun k hk => ⟨⟨by have := hk.1; omega, by have := hk.2; omega⟩, by have := hk.2; omega⟩
        · exact (hbv.agree fun k hk => (hU.other k (by have := hk.1; omega)).trans (hE6.block k hk.2)).mono fun k hk => ⟨⟨by have := hk.1; omega, by have := hk.2; omega⟩, by have := hk.1; omega⟩
        · exact (hcv.agree fun k hk => hU.other k (by have := hk.1; omega)).mono fun k hk => ⟨⟨by have := hk.1; omega, by have := hk.2; omega⟩, by have := hk.1; omega⟩
    · refine owp_alloc rfl fun w3 hN => ?_
      have hE3 := hN.ext
      refine owp_loudS hE3 ?_
      refine hws_ord [(2, false), (5, false), (8, false), (9, true), (11, false)] (by kernel_rfl) rfl (by kernel_rfl) hE3 ?_
      refine hwp_loud rfl ?_
      refine owp_call rfl rfl (cloneIntsN (hvars.ext (hE2.trans' hE3)) hl1) ?_
      rintro av w4 ⟨hav, hE4⟩
      refine owp_loud (hE3.trans' hE4) ?_
      refine hwp_loud rfl ?_
      refine owp_call rfl rfl (cloneIntsN (hinit.ext (hE2.trans' (hE3.trans' hE4))) hl2) ?_
      rintro bv w5 ⟨hbv, hE5⟩
      refine owp_loud (hE3.trans' (hE4.trans' hE5)) ?_
      refine hwp_loud rfl ?_
      refine owp_call rfl rfl (cloneFactsN (hgoal.ext (hE2.trans' (hE3.trans' (hE4.trans' hE5)))) hl3) ?_
      rintro cv' w6 ⟨hcv, hE6⟩
      refine owp_loud (hE3.trans' (hE4.trans' (hE5.trans' hE6))) ?_
      have hg3 := ((hN.blk.ext hE4).ext hE5).ext hE6
      obtain ⟨Aa, ca, rfl⟩ := hav.form
      obtain ⟨Ab, cb, rfl⟩ := hbv.form
      obtain ⟨Ac, cc, rfl⟩ := hcv.form
      refine hwp_o rfl ?_
      refine hwq_ev (fun _ _ => ev_build rfl rfl) rfl ?_
      refine hwp_loud rfl ?_
      refine owp_store rfl rfl hg3 rfl (Nat.le_refl _) (by simp [Value.cells, Value.oneCell', setParts, setFrom]) fun w7 hU => ?_
      refine owp_loudE (hwp_nilT ?_)
      have s3 := hE3.size; have s4 := hE4.size; have s5 := hE5.size; have s6 := hE6.size; have s7 := hU.size; have sN := hN.size
      refine ⟨_, _, _, _, ⟨rfl, rfl, rfl, trivial⟩, (hE3.trans' (hE4.trans' (hE5.trans' hE6))).trans (hU.below (by omega)), by omega, hU.blk, ?_, ?_, ?_⟩
      · exact (hav.agree fun k hk => (hU.other k (by have := hk.1; omega)).trans ((hE5.trans' hE6).block k hk.2)).mono fun k hk => ⟨⟨by have := hk.1; omega, by have := hk.2; omega⟩, by have := hk.1; omega⟩
      · exact (hbv.agree fun k hk => (hU.other k (by have := hk.1; omega)).trans (hE6.block k hk.2)).mono fun k hk => ⟨⟨by have := hk.1; omega, by have := hk.2; omega⟩, by have := hk.1; omega⟩
      · exact (hcv.agree fun k hk => hU.other k (by have := hk.1; omega)).mono fun k hk => ⟨⟨by have := hk.1; omega, by have := hk.2; omega⟩, by have := hk.1; omega⟩
  · rintro l' w3 ⟨g3, av, bv, cv', hsub, hE3, hg3, hb3, hav, hbv, hcv⟩
    refine ewp_sub _ hsub ?_
    clear hsub
    replace hb1 := hb1.ext hE3
    replace hres := hres.ext hE3
    have hE03 : Ext w w3 := hE2.trans' hE3
    have hg3z : g3 < w3.heap.size := hb3.lt
    repeat (first | refine e_go ?_ | refine ewp_true rfl ?_ | refine ewp_false rfl ?_)
    ((repeat (first | refine e_go ?_ | refine ewp_true rfl ?_ | refine ewp_false rfl ?_)) <;> (refine o_fa rfl rfl ?_ <;> refine o_ld rfl rfl ?_ <;> refine o_ln rfl rfl ?_ <;> refine o_mv rfl rfl ?_ <;> (refine o_z ?_)) <;> (repeat (first | refine e_go ?_ | refine ewp_true rfl ?_ | refine ewp_false rfl ?_)))
    refine ewp_range t.ops.length (by omega) (fun _ : Unit => [(2, .pointer (some ⟨w1.heap.size, 0, none⟩)), (3, .pointer (some ⟨g3, 0, none⟩)), (20, .slice Ao t.ops.length co)])
      (fun k _ w' => Below w2.heap.size w2 w' ∧ w3.heap.size ≤ w'.heap.size ∧ (∀ q, q < w3.heap.size → q ≠ g3 → w'.heap[q]? = w3.heap[q]?) ∧ ∃ (ov : Value) (G : Nat → Prop), Blk w' g3 26 [av, bv, cv', ov] ∧ (∀ q, G q → w3.heap.size ≤ q ∧ q < w'.heap.size) ∧ Own w' w3.heap.size G 34 ov (t.ops.take k)) ()
      ⟨hE3, Nat.le_refl _, fun _ _ _ => rfl, .slice none 0 0, fun _ => False, hb3, fun _ h => h.elim, Own.nil _ _ _ _⟩ ⟨rfl, rfl, rfl, rfl, rfl, trivial⟩ (fun _ => ⟨rfl, rfl⟩) ⟨rfl, rfl, rfl⟩ ⟨rfl, rfl⟩ ?_ ?_
    · rintro k _ w4 hk ⟨hB4, hz34, hkeep, ov, G, hb3, hG, hown⟩
      have hE04 : Ext w w4 := hE2.trans (hB4.mono (by omega))
      obtain ⟨o, ho⟩ := some_of_lt hk
      obtain ⟨hp5, hq5, hc5⟩ := hl5 k o ho
      obtain ⟨b2, o2, ce, rfl, _, _, hd1, p, q, rfl, hp, hq, hc, hn⟩ := (hops.ext hE04).elem ho
      obtain ⟨Ap, cp, rfl⟩ := hp.form
      obtain ⟨Aq, cq, rfl⟩ := hq.form
      obtain ⟨Aov, cov, rfl⟩ := hown.form
      ((repeat (first | refine e_go ?_ | refine ewp_true rfl ?_ | refine ewp_false rfl ?_)) <;> (refine o_ia rfl rfl rfl ?_ <;> refine o_la rfl rfl ?_) <;> (repeat (first | refine e_go ?_ | refine ewp_true rfl ?_ | refine ewp_false rfl ?_)))
      refine owp_local rfl rfl rfl (by simp [Value.cells, Value.oneCell']) fun w5 hN5 => ?_
      have hb2 : Blk w5 w4.heap.size 34 [.string o.name, .int .i64 o.cost, .slice Ap o.pre.length cp, .slice Aq o.effs.length cq] := hN5.blk
      have hz5 := hN5.size
      ((refine o_z ?_))
      repeat (first | refine e_go ?_ | refine ewp_true rfl ?_ | refine ewp_false rfl ?_)
      clear hd1
      (refine o_fa rfl rfl ?_ <;> refine o_ld rfl rfl ?_)
      refine owp_call rfl rfl (cloneFactsN (hp.ext hN5.ext) hp5) ?_
      rintro pv w6 ⟨hpv, hE6⟩
      obtain ⟨Ap', cp', rfl⟩ := hpv.form
      replace hb2 := hb2.ext hE6
      (refine o_fa rfl rfl ?_)
      refine owp_store rfl rfl hb2 rfl (show 0 + 2 + 1 ≤ 4 by decide) (by simp [Value.cells, Value.oneCell']) fun w7 hU7 => ?_
      have hE47 : Ext w4 w7 := (hN5.ext.trans' hE6).trans (hU7.below (Nat.le_refl _))
      replace hb2 : Blk w7 w4.heap.size 34 [.string o.name, .int .i64 o.cost, .slice Ap' o.pre.length cp', .slice Aq o.effs.length cq] := hU7.blk
      have hpv7 : Vb w7 (nw w5 w6) (.slice Ap' o.pre.length cp') o.pre := hpv.agree fun q hq => hU7.other q (by have := hq.1; omega)
      ((refine o_z ?_))
      repeat (first | refine e_go ?_ | refine ewp_true rfl ?_ | refine ewp_false rfl ?_)
      ((repeat (first | refine e_go ?_ | refine ewp_true rfl ?_ | refine ewp_false rfl ?_)) <;> (refine o_as rfl rfl ?_ <;> (refine o_z ?_)) <;> (repeat (first | refine e_go ?_ | refine ewp_true rfl ?_ | refine ewp_false rfl ?_)) <;> (refine o_fa rfl rfl ?_ <;> refine o_ld rfl rfl ?_ <;> refine o_ln rfl rfl ?_ <;> refine o_mv rfl rfl ?_ <;> (refine o_z ?_)) <;> (repeat (first | refine e_go ?_ | refine ewp_true rfl ?_ | refine ewp_false rfl ?_)))
      refine ewp_range o.effs.length (by omega) (fun ev : Value => [(2, .pointer (some ⟨w1.heap.size, 0, none⟩)), (3, .pointer (some ⟨g3, 0, none⟩)), (5, .pointer (some ⟨w4.heap.size, 0, none⟩)), (6, ev), (20, .slice (some ⟨b2, o2, none⟩) t.ops.length co), (21, .int .i64 (t.ops.length : Int)), (22, .int .i64 (k : Int)), (31, .slice Aq o.effs.length cq)])
        (fun i ev w' => Ext w7 w' ∧ ∃ H : Nat → Prop, (∀ q, H q → w7.heap.size ≤ q ∧ q < w'.heap.size) ∧ Own w' w7.heap.size H 52 ev (o.effs.take i)) (.slice none 0 0)
        ⟨Below.refl _ _, fun _ => False, fun _ h => h.elim, Own.nil _ _ _ _⟩ ⟨rfl, rfl, rfl, rfl, rfl, rfl, rfl, rfl, rfl, rfl, trivial⟩ (fun _ => ⟨rfl, rfl⟩) ⟨rfl, rfl, rfl⟩ ⟨rfl, rfl⟩ ?_ ?_
      · rintro i ev w8 hi ⟨hE8, H, hH, hev⟩
        obtain ⟨e, he⟩ := some_of_lt hi
        have hce := hc5 i e he
        obtain ⟨b3, o3, ce, rfl, _, _, hd1, cv8, rfl, hcn, hr1, hr2⟩ := (hq.ext (hE47.trans' hE8)).elem he
        obtain ⟨Acn, ccn, rfl⟩ := hcn.form
        ((repeat (first | refine e_go ?_ | refine ewp_true rfl ?_ | refine ewp_false rfl ?_)) <;> (refine o_ia rfl rfl rfl ?_ <;> refine o_la rfl rfl ?_) <;> (repeat (first | refine e_go ?_ | refine ewp_true rfl ?_ | refine ewp_false rfl ?_)))
        refine owp_local rfl rfl rfl (by simp [Value.cells, Value.oneCell']) fun w9 hN9 => ?_
        have hb4 : Blk w9 w8.heap.size 52 [.slice Acn e.cond.length ccn, .int .i64 e.var, .int .i64 e.val] := hN9.blk
        have hz9 := hN9.size
        ((refine o_z ?_))
        repeat (first | refine e_go ?_ | refine ewp_true rfl ?_ | refine ewp_false rfl ?_)
        clear hd1
        (refine o_fa rfl rfl ?_ <;> refine o_ld rfl rfl ?_)
        refine owp_call rfl rfl (cloneFactsN (hcn.ext hN9.ext) hce) ?_
        rintro cw w10 ⟨hcw, hE10⟩
        obtain ⟨Acw, ccw, rfl⟩ := hcw.form
        replace hb4 := hb4.ext hE10
        (refine o_fa rfl rfl ?_)
        refine owp_store rfl rfl hb4 rfl (show 0 + 0 + 1 ≤ 3 by decide) (by simp [Value.cells, Value.oneCell']) fun w11 hU11 => ?_
        replace hb4 : Blk w11 w8.heap.size 52 [.slice Acw e.cond.length ccw, .int .i64 e.var, .int .i64 e.val] := hU11.blk
        have hE811 : Ext w8 w11 := (hN9.ext.trans' hE10).trans (hU11.below (Nat.le_refl _))
        have hE711 : Ext w7 w11 := hE8.trans' hE811
        have hcw11 : Vb w11 (nw w9 w10) (.slice Acw e.cond.length ccw) e.cond := hcw.agree fun q hq => hU11.other q (by have := hq.1; omega)
        have s10 := hE10.size
        have s11 := hU11.size
        have hne : ∀ g, ev.ownBlock = some g → ¬ (H g ∨ nw w9 w10 g) := fun g hg h => by
          have hlt := (hev.lt g hg).2
          rcases h with h | h
          · obtain ⟨_, _, _, h3⟩ := hev; exact h3 g hg h
          · have := h.1; omega
        have hev11 : Own w11 w7.heap.size (fun q => H q ∨ nw w9 w10 q) 52 ev _ := (hev.ext hE811 fun q hq => (hH q hq).2).mono (fun q hq => .inl hq) hne
        have hH11 : ∀ q, (H q ∨ nw w9 w10 q) → w7.heap.size ≤ q ∧ q < w11.heap.size := fun q hq => by
          rcases hq with hq | hq
          · have := hH q hq; omega
          · have h1 := hq.1; have h2 := hq.2; have := hE8.size; omega
        have hil : (o.effs.take i).length ≤ 1000000 := by rw [List.length_take]; omega
        ((refine o_z ?_))
        repeat (first | refine e_go ?_ | refine ewp_true rfl ?_ | refine ewp_false rfl ?_)
        (refine o_mv rfl rfl ?_ <;> refine o_la rfl rfl ?_)
        refine owp_append1 (a := e) rfl rfl rfl hev11 (fun q hq => (hH11 q hq).2) hE711.size ⟨_, rfl, _, rfl, hcw11.mono fun q hq => .inr hq, hr1, hr2⟩ (by decide) (by decide) (by omega) (by omega) ⟨rfl, rfl⟩ fun ev' w12 hev12 hK12 => ?_
        (refine o_as rfl rfl ?_ <;> (refine o_z ?_))
        repeat (first | refine e_go ?_ | refine ewp_true rfl ?_ | refine ewp_false rfl ?_)
        exact ⟨ev', ⟨rfl, rfl, rfl, rfl, rfl, rfl, rfl, rfl, rfl, rfl, trivial⟩, hE711.trans (hev11.fits (Nat.le_refl _) hE711.size hK12), _, fun q hq => ⟨(hH11 q hq).1, Nat.lt_of_lt_of_le (hH11 q hq).2 hK12.size⟩, by rw [List.take_add_one, he]; simpa using hev12⟩
      rintro ev w12 ⟨hE12, H, hH, hev⟩
      rw [List.take_length] at hev
      obtain ⟨Aev, cev, rfl⟩ := hev.form
      replace hb2 := hb2.ext hE12
      repeat (first | refine e_go ?_ | refine ewp_true rfl ?_ | refine ewp_false rfl ?_)
      (refine o_mv rfl rfl ?_ <;> refine o_fa rfl rfl ?_)
      refine owp_store rfl rfl hb2 rfl (show 0 + 3 + 1 ≤ 4 by decide) (by simp [Value.cells, Value.oneCell']) fun w13 hU13 => ?_
      replace hb2 : Blk w13 w4.heap.size 34 [.string o.name, .int .i64 o.cost, .slice Ap' o.pre.length cp', .slice Aev o.effs.length cev] := hU13.blk
      have hE413 : Ext w4 w13 := (hE47.trans' hE12).trans (hU13.below (Nat.le_refl _))
      have s6 := hE6.size
      have s7 := hU7.size
      have s12 := hE12.size
      have s13 := hU13.size
      have hb3' := hb3.ext hE413
      have hg3lt := hb3.lt
      have hpv13 : Vb w13 (nw w5 w6) (.slice Ap' o.pre.length cp') o.pre := hpv7.agree fun q hq => (hU13.other q (by have := hq.1; omega)).trans (hE12.block q (by have := hq.2; omega))
      have hev13 : Vb w13 (fun q => H q ∨ (Value.slice Aev o.effs.length cev).ownBlock = some q) (.slice Aev o.effs.length cev) o.effs := hev.vb.agree fun q hq => hU13.other q (by
        rcases hq with hq | hq
        · have := (hH q hq).1; omega
        · have := (hev.lt q hq).1; omega)
      have hne : ∀ g, (Value.slice Aov (t.ops.take k).length cov).ownBlock = some g → ¬ (G g ∨ w4.heap.size ≤ g ∧ g < w13.heap.size) := fun g hg h => by
        have hlt := (hown.lt g hg).2
        rcases h with h | h
        · obtain ⟨_, _, _, h3⟩ := hown; exact h3 g hg h
        · omega
      have hown13 : Own w13 w3.heap.size (fun q => G q ∨ w4.heap.size ≤ q ∧ q < w13.heap.size) 34 _ _ := (hown.ext hE413 fun q hq => (hG q hq).2).mono (fun q hq => .inl hq) hne
      have hG13 : ∀ q, (G q ∨ w4.heap.size ≤ q ∧ q < w13.heap.size) → w3.heap.size ≤ q ∧ q < w13.heap.size := fun q hq => by
        have := hE413.size
        rcases hq with hq | hq
        · have := hG q hq; omega
        · omega
      have hopr : Vb w13 (fun q => G q ∨ w4.heap.size ≤ q ∧ q < w13.heap.size) (.agg #[.string o.name, .int .i64 o.cost, .slice Ap' o.pre.length cp', .slice Aev o.effs.length cev]) o :=
        ⟨[.string o.name, .int .i64 o.cost, .slice Ap' o.pre.length cp', .slice Aev o.effs.length cev], rfl, _, _, rfl, hpv13.mono fun q hq => .inr (by have h1 := hq.1; have h2 := hq.2; omega), hev13.mono fun q hq => .inr (by
          rcases hq with hq | hq
          · have := hH q hq; omega
          · have := hev.lt q hq; omega), hc, hn⟩
      have hkl : (t.ops.take k).length ≤ 1000000 := by rw [List.length_take]; omega
      ((refine o_z ?_))
      repeat (first | refine e_go ?_ | refine ewp_true rfl ?_ | refine ewp_false rfl ?_)
      have hbx := hb2
      clear hb1
      have hb1 := hb3'
      (refine o_fa rfl rfl ?_ <;> refine o_ld rfl rfl ?_ <;> refine o_la rfl rfl ?_)
      refine owp_append1 (a := o) rfl rfl rfl hown13 (fun q hq => (hG13 q hq).2) (by have := hE413.size; omega) hopr (by decide) (by decide) (by omega) (by omega) ⟨rfl, rfl⟩ fun ov' w14 hov14 hK14 => ?_
      obtain ⟨Aov', cov', rfl⟩ := hov14.form
      have hb3k := hK14.blk hb3' (hown13.blk_ne hb3' (by decide))
      (refine o_fa rfl rfl ?_)
      refine owp_store rfl rfl hb3k rfl (show 0 + 3 + 1 ≤ 4 by decide) (by simp [Value.cells, Value.oneCell']) fun w15 hU15 => ?_
      ((refine o_z ?_))
      repeat (first | refine e_go ?_ | refine ewp_true rfl ?_ | refine ewp_false rfl ?_)
      have hB14 : Below w3.heap.size w13 w14 := hown13.fits (Nat.le_refl _) (by have := hE413.size; omega) hK14
      have sz14 := hK14.size
      have sz15 := hU15.size
      refine ⟨(), ⟨rfl, rfl, rfl, rfl, rfl, trivial⟩, ?_, ?_, ?_, _, (fun q => G q ∨ w4.heap.size ≤ q ∧ q < w13.heap.size), hU15.blk, fun q hq => ?_, ?_⟩
      · exact hB4.trans (((hE413.mono (by omega)).trans (hB14.mono (by omega))).trans (hU15.below (by omega)))
      · have := hE413.size; omega
      · intro q hq hne'
        rw [hU15.other q hne', hB14.block q hq, hE413.block q (by omega), hkeep q hq hne']
      · have := hG13 q hq; omega
      · have hne15 := hov14.blk_ne hb3k (by decide)
        rw [List.take_add_one, ho]
        refine hov14.agree (hU15.agree ?_) fun g hg => hU15.other g fun he => hne15 (he ▸ hg)
        rintro (h | h)
        · have := (hG g3 h).1; omega
        · omega
    rintro _ w4 ⟨hB4, hz34, hkeep, ov, G, hb3, hG, hown⟩
    rw [List.take_length] at hown
    obtain ⟨Aov, cov, rfl⟩ := hown.form
    have hresz := hres.lt
    replace hres := hres.keep (hkeep _ hresz (by omega))
    clear hb1
    have hb1 := hb3
    repeat (first | refine e_go ?_ | refine ewp_true rfl ?_ | refine ewp_false rfl ?_)
    obtain ⟨Aa, ca, rfl⟩ := hav.form
    obtain ⟨Ab, cb, rfl⟩ := hbv.form
    obtain ⟨Ac, cc, rfl⟩ := hcv.form
    (refine o_la rfl rfl ?_)
    refine owp_store rfl rfl hres rfl (Nat.le_refl _) (by simp [Value.cells, Value.oneCell']) fun w5 hU => ?_
    ((refine o_z ?_))
    repeat (first | refine e_go ?_ | refine ewp_true rfl ?_ | refine ewp_false rfl ?_)
    have hE4 : Ext w w4 := hE2.trans (hB4.mono (by omega))
    have s5 := hU.size
    have s04 := hE4.size
    have hcl : ∀ {α : Type} [Rp α] {v : Value} {x : α}, Vb w3 (fun k => nw w2 w3 k ∧ k ≠ g3) v x → Vb w5 (nw w w5) v x := fun h => (h.agree fun q hq => (hU.other q (by have := hq.1.1; omega)).trans (hkeep q hq.1.2 hq.2)).mono fun q hq => ⟨by have := hq.1.1; omega, by have := hq.1.2; omega⟩
    have hovv : Vb w5 (nw w w5) (.slice Aov t.ops.length cov) t.ops := (hown.vb.agree fun q hq => hU.other q (by
      rcases hq with hq | hq
      · have := (hG q hq).1; omega
      · have := (hown.lt q hq).1; omega)).mono fun q hq => by
        rcases hq with hq | hq
        · have := hG q hq; exact ⟨by omega, by omega⟩
        · have := hown.lt q hq; exact ⟨by omega, by omega⟩
    refine ret1v rfl (res_cell rfl rfl hU.blk.cellsAt) ⟨⟨_, rfl, _, _, _, _, rfl, hcl hav, hcl hbv, hcl hcv, hovv⟩, hE4.trans (hU.below (by omega))⟩
end
section
theorem bof_iff {p : Prop} : bof p = true ↔ p := ⟨fun h => Classical.byContradiction fun hn => (by rw [bof_f hn] at h; exact Bool.noConfusion h), bof_t⟩
theorem bof_false {p : Prop} : bof p = false ↔ ¬ p := by
  rw [← Bool.not_eq_true, bof_iff]
theorem factsOk_lt {vars : List Int} {f : List Fct} (h : FactsOk vars f) : ∀ (j i : Nat) (x y : Fct), i < j → f[i]? = some x → f[j]? = some y → x.var < y.var
  | 0, i, _, _, hij, _, _ => by omega
  | j + 1, i, x, y, hij, hx, hy => by
    by_cases he : i = j
    · subst he; exact h.2 i x y hx hy
    · obtain ⟨z, hz⟩ := some_of_lt (l := f) (k := j) (by have := lt_of_some hy; omega)
      have h1 := factsOk_lt h j i x z (by omega) hx hz
      have h2 := h.2 j z y hz hy
      omega
theorem factsOk_ge {vars : List Int} {f : List Fct} (h : FactsOk vars f) : ∀ (i : Nat) (x : Fct), f[i]? = some x → (i : Int) ≤ x.var
  | 0, x, hx => (h.1 0 x hx).1
  | i + 1, x, hx => by
    obtain ⟨z, hz⟩ := some_of_lt (l := f) (k := i) (by have := lt_of_some hx; omega)
    have h1 := factsOk_ge h i z hz
    have h2 := h.2 i z x hz hx
    omega
theorem factsOk_len {vars : List Int} {f : List Fct} (h : FactsOk vars f) : f.length ≤ vars.length := by
  rcases Nat.eq_zero_or_pos f.length with h0 | h0
  · omega
  · obtain ⟨x, hx⟩ := some_of_lt (l := f) (k := f.length - 1) (by omega)
    have h1 := factsOk_ge h _ x hx
    obtain ⟨h2, h3, y, hy, _⟩ := h.1 _ x hx
    have := lt_of_some hy
    omega
theorem conds_mem {t : Tsk} {f : List Fct} : f ∈ conds t ↔ f = t.goal ∨ ∃ (i : Nat) (o : Opr), t.ops[i]? = some o ∧ (f = o.pre ∨ ∃ (j : Nat) (e : Eff), o.effs[j]? = some e ∧ f = e.cond) := by
  unfold conds opConds
  rw [List.mem_cons, List.mem_flatMap]
  constructor
  · rintro (h | ⟨o, ho, hf⟩)
    · exact .inl h
    · obtain ⟨i, hi⟩ := List.getElem?_of_mem ho
      refine .inr ⟨i, o, hi, ?_⟩
      rcases List.mem_cons.1 hf with h | h
      · exact .inl h
      · obtain ⟨e, he, rfl⟩ := List.mem_map.1 h
        obtain ⟨j, hj⟩ := List.getElem?_of_mem he
        exact .inr ⟨j, e, hj, rfl⟩
  · rintro (h | ⟨i, o, ho, h⟩)
    · exact .inl h
    · refine .inr ⟨o, List.mem_of_getElem? ho, ?_⟩
      rcases h with rfl | ⟨j, e, he, rfl⟩
      · exact List.mem_cons_self
      · exact List.mem_cons_of_mem _ (List.mem_map.2 ⟨e, List.mem_of_getElem? he, rfl⟩)
theorem check_ok {t : Tsk} : checkN t = 0 ↔ TaskOk t := by
  unfold checkN
  constructor
  · intro h
    by_cases h1 : Large t
    · rw [if_pos (bof_iff.2 h1)] at h; cases h
    rw [if_neg (fun hh => h1 (bof_iff.1 hh))] at h
    by_cases h2 : VarsOk t ∧ CostsOk t
    case neg => rw [if_pos (bof_false.2 h2)] at h; cases h
    rw [if_neg (fun hh => bof_false.1 hh h2)] at h
    by_cases h3 : StateOk t.vars t.init ∧ CondsOk t ∧ EffsOk t
    case neg => rw [if_pos (bof_false.2 h3)] at h; cases h
    rw [if_neg (fun hh => bof_false.1 hh h3)] at h
    by_cases h4 : NamesOk t
    case neg => rw [if_pos (bof_false.2 h4)] at h; cases h
    have hc : ∀ f ∈ conds t, FactsOk t.vars f := fun f hf => by
      obtain ⟨i, hi⟩ := List.getElem?_of_mem hf
      exact h3.2.1 i f hi
    have hl : t.vars.length ≤ 64 ∧ t.ops.length ≤ 4096 ∧ (∀ (i : Nat) (o : Opr), t.ops[i]? = some o → o.effs.length ≤ 64) := by
      unfold Large at h1
      refine ⟨Nat.le_of_not_lt fun h => h1 (.inl h), Nat.le_of_not_lt fun h => h1 (.inr (.inl h)), fun i o ho => Nat.le_of_not_lt fun h => h1 (.inr (.inr (.inl ⟨i, o, ho, h⟩)))⟩
    exact ⟨hl.1, hl.2.1, h2.1, h3.1, hc _ (conds_mem.2 (.inl rfl)), fun i o ho => ⟨(h2.2 i o ho).1, (h2.2 i o ho).2, hl.2.2 i o ho, h4 i o ho, hc _ (conds_mem.2 (.inr ⟨i, o, ho, .inl rfl⟩)), fun j e he => ⟨hc _ (conds_mem.2 (.inr ⟨i, o, ho, .inr ⟨j, e, he, rfl⟩⟩)), h3.2.2 i o ho j e he⟩⟩⟩
  · rintro ⟨h1, h2, h3, h4, h5, h6⟩
    have hc : ∀ f ∈ conds t, FactsOk t.vars f := fun f hf => by
      rcases conds_mem.1 hf with rfl | ⟨i, o, ho, rfl | ⟨j, e, he, rfl⟩⟩
      · exact h5
      · exact (h6 i o ho).2.2.2.2.1
      · exact ((h6 i o ho).2.2.2.2.2 j e he).1
    have hL : ¬ Large t := by
      rintro (h | h | ⟨i, o, ho, h⟩ | ⟨f, hf, h⟩)
      · omega
      · omega
      · have := (h6 i o ho).2.2.1; omega
      · have := factsOk_len (hc f hf); omega
    have hV : VarsOk t ∧ CostsOk t := ⟨h3, fun i o ho => ⟨(h6 i o ho).1, (h6 i o ho).2.1⟩⟩
    have hS : StateOk t.vars t.init ∧ CondsOk t ∧ EffsOk t := ⟨h4, fun i f hf => hc f (List.mem_of_getElem? hf), fun i o ho j e he => ((h6 i o ho).2.2.2.2.2 j e he).2⟩
    have hN : NamesOk t := fun i o ho => (h6 i o ho).2.2.2.1
    rw [if_neg (fun hh => hL (bof_iff.1 hh)), if_neg (fun hh => bof_false.1 hh hV), if_neg (fun hh => bof_false.1 hh hS), if_neg (fun hh => bof_false.1 hh hN)]
theorem TaskOk.vars {t : Tsk} (h : TaskOk t) : VarsOk t := h.2.2.1
end
section
/-- The operators' preconditions are right. -/
def PreOk (t : Tsk) : Prop := ∀ (i : Nat) o, t.ops[i]? = some o → FactsOk t.vars o.pre
theorem TaskOk.pre {t : Tsk} (h : TaskOk t) : PreOk t := fun i o ho => (h.2.2.2.2.2 i o ho).2.2.2.2.1
theorem preOf_ok {t : Tsk} (h : PreOk t) (op : Int) : FactsOk t.vars (preOf t op) := by
  unfold preOf
  cases ho : t.ops[op.toNat]? with
  | none => exact ⟨fun i x hx => by simp at hx, fun i x y hx => by simp at hx⟩
  | some o => exact h _ o ho
theorem factOn_some {l : List Fct} {v : Int} {f : Fct} (h : factOn l v = some f) : f ∈ l ∧ f.var = v := by
  unfold factOn at h
  exact ⟨List.mem_of_find?_eq_some h, by simpa using List.find?_some h⟩
theorem factOn_none {l : List Fct} {v : Int} (h : factOn l v = none) : ∀ f ∈ l, f.var ≠ v := by
  unfold factOn at h
  rw [List.find?_eq_none] at h
  intro f hf
  simpa using h f hf
theorem factOn_uniq {vars : List Int} {l : List Fct} (hl : FactsOk vars l) {f g : Fct} (hf : f ∈ l) (hg : g ∈ l) (he : f.var = g.var) : f = g := by
  obtain ⟨i, hi⟩ := List.getElem?_of_mem hf
  obtain ⟨j, hj⟩ := List.getElem?_of_mem hg
  rcases Nat.lt_trichotomy i j with h | h | h
  · have := factsOk_lt hl j i f g h hi hj; omega
  · subst h; rw [hi] at hj; injection hj
  · have := factsOk_lt hl i j g f h hj hi; omega
theorem TaskOk.fits {t : Tsk} (h : TaskOk t) : FitsVals t := by
  intro i o ho v f hf hv
  obtain ⟨h1, h2⟩ := factOn_some hf
  obtain ⟨j, hj⟩ := List.getElem?_of_mem h1
  obtain ⟨g1, g2, n, g3, g4⟩ := (h.pre i o ho).1 j f hj
  rw [h2] at g3
  exact ⟨g2, n, by simpa using g3, g4⟩
def hf (t : Tsk) (s : List Int) (v : Nat) (op : Int) : Bool := (preOf t op).all fun f => decide (f.var < (v : Int)) || hasB s f
theorem hf_iff {t : Tsk} {s : List Int} {v : Nat} {op : Int} : hf t s v op = true ↔ ∀ f ∈ preOf t op, f.var < (v : Int) ∨ hasB s f = true := by
  unfold hf
  simp [List.all_eq_true]
theorem hf_none {t : Tsk} {s : List Int} {v : Nat} {op : Int} (h : factOn (preOf t op) (v : Int) = none) : hf t s v op = hf t s (v + 1) op := by
  rw [Bool.eq_iff_iff, hf_iff, hf_iff]
  constructor
  · intro hh f hm
    rcases hh f hm with h1 | h1
    · exact .inl (by omega)
    · exact .inr h1
  · intro hh f hm
    have := factOn_none h f hm
    rcases hh f hm with h1 | h1
    · exact .inl (by omega)
    · exact .inr h1
theorem hf_some {t : Tsk} {s : List Int} {v : Nat} {op : Int} {f : Fct} (hp : PreOk t) (h : factOn (preOf t op) (v : Int) = some f) : hf t s v op = (hasB s f && hf t s (v + 1) op) := by
  obtain ⟨h1, h2⟩ := factOn_some h
  rw [Bool.eq_iff_iff, Bool.and_eq_true, hf_iff, hf_iff]
  constructor
  · intro hh
    refine ⟨(hh f h1).resolve_left (by omega), fun g hg => ?_⟩
    rcases hh g hg with h3 | h3
    · exact .inl (by omega)
    · exact .inr h3
  · rintro ⟨h3, hh⟩ g hg
    rcases hh g hg with h4 | h4
    · by_cases he : g.var = (v : Int)
      · have : g = f := factOn_uniq (preOf_ok hp op) hg h1 (by omega)
        subst this; exact .inr h3
      · exact .inl (by omega)
    · exact .inr h4
theorem hf_same {t : Tsk} {s : List Int} {ops : List Int} : ∀ (k v : Nat), (∀ x, v ≤ x → x < v + k → tests t ops x = false) → ∀ op ∈ ops, hf t s v op = hf t s (v + k) op
  | 0, _, _, _, _ => rfl
  | k + 1, v, h, op, ho => by
    have h0 := h v (Nat.le_refl _) (by omega)
    unfold tests at h0
    rw [List.any_eq_false] at h0
    have h1 := h0 op ho
    have h2 : factOn (preOf t op) (v : Int) = none := by simpa using h1
    rw [hf_none h2, hf_same k (v + 1) (fun x hx1 hx2 => h x (by omega) (by omega)) op ho]
    congr 1; omega
theorem split_perm {a b c : Int → Bool} {p : Int → Bool} (h : ∀ x, p x = if a x = true then b x else if c x = true then b x else false) (hac : ∀ x, a x = true → c x = false) :
    ∀ l : List Int, (l.filter p).Perm ((l.filter a).filter b ++ (l.filter c).filter b)
  | [] => by simp
  | x :: l => by
    have ih := split_perm h hac l
    have hx := h x
    cases ha : a x
    · cases hc : c x
      · simp only [ha, hc] at hx
        simpa [List.filter_cons, ha, hc, hx] using ih
      · simp only [ha, hc] at hx
        cases hb : b x
        · rw [hb] at hx
          simpa [List.filter_cons, ha, hc, hb, hx] using ih
        · rw [hb] at hx
          simp only [List.filter_cons, ha, hc, hb, hx, if_true, Bool.false_eq_true, if_false]
          exact (ih.cons x).trans (List.perm_middle.symm)
    · have hc := hac x ha
      simp only [ha] at hx
      cases hb : b x
      · rw [hb] at hx
        simpa [List.filter_cons, ha, hc, hb, hx] using ih
      · rw [hb] at hx
        simp only [List.filter_cons, ha, hc, hb, hx, if_true, Bool.false_eq_true, if_false, List.cons_append]
        exact ih.cons x
theorem hf_end {t : Tsk} {s : List Int} (hp : PreOk t) (op : Int) : hf t s t.vars.length op = true := by
  rw [hf_iff]
  intro f hfm
  obtain ⟨i, hi⟩ := List.getElem?_of_mem hfm
  obtain ⟨h1, h2, n, h3, _⟩ := (preOf_ok hp op).1 i f hi
  have := lt_of_some h3
  exact .inl (by omega)
theorem nextV_spec (t : Tsk) (ops : List Int) {v : Nat} (h : v ≤ t.vars.length) : v ≤ nextV t ops v ∧ nextV t ops v ≤ t.vars.length ∧ (∀ u, v ≤ u → u < nextV t ops v → tests t ops u = false) ∧ (nextV t ops v < t.vars.length → tests t ops (nextV t ops v) = true) := by
  obtain ⟨h1, h2, h3, h4⟩ := nextF_spec t ops (t.vars.length - v) v
  exact ⟨h1, by unfold nextV; omega, h3, fun h => h4 (by unfold nextV at h; omega)⟩
theorem StateOk.at {vars s : List Int} (h : StateOk vars s) {u : Nat} (hu : u < vars.length) : ∃ (x : Nat) (n : Int), s[u]? = some (x : Int) ∧ vars[u]? = some n ∧ (x : Int) < n ∧ atN s u = x := by
  obtain ⟨y, hy⟩ := some_of_lt (l := s) (k := u) (by rw [h.1]; exact hu)
  obtain ⟨n, hn⟩ := some_of_lt hu
  obtain ⟨h1, h2⟩ := h.2 u y n hy hn
  obtain ⟨x, rfl⟩ := Int.eq_ofNat_of_zero_le h1
  exact ⟨x, n, hy, hn, h2, by simp [atN, hy]⟩
theorem coll_mkT {t : Tsk} {s : List Int} (hp : PreOk t) (hs : StateOk t.vars s) : ∀ (fuel : Nat) (ops : List Int) (v : Nat), v ≤ t.vars.length → t.vars.length < fuel + v →
    (coll s (mkT t fuel ops v)).Perm (ops.filter (hf t s v)) ∧ Fits s (mkT t fuel ops v) := by
  intro fuel
  induction fuel with
  | zero => intro ops v h1 h2; omega
  | succ fuel ih =>
    intro ops v h1 h2
    obtain ⟨g1, g2, g3, g4⟩ := nextV_spec t ops h1
    have hsame := hf_same (t := t) (s := s) (ops := ops) (nextV t ops v - v) v (fun x hx1 hx2 => g3 x hx1 (by omega))
    rw [show v + (nextV t ops v - v) = nextV t ops v from by omega] at hsame
    have hfil : ops.filter (hf t s v) = ops.filter (hf t s (nextV t ops v)) := List.filter_congr hsame
    rw [hfil]
    unfold mkT
    by_cases he : ops.isEmpty = true
    · rw [if_pos he]
      have : ops = [] := by simpa using he
      subst this
      exact ⟨by simp [coll], trivial⟩
    rw [if_neg he]
    by_cases hn : nextV t ops v = t.vars.length
    · rw [if_pos hn, hn]
      have : ops.filter (hf t s t.vars.length) = ops := List.filter_eq_self.2 fun x _ => hf_end hp x
      rw [this]
      exact ⟨List.Perm.refl _, trivial⟩
    rw [if_neg hn]
    obtain ⟨x, n, q1, q2, q3, q4⟩ := hs.at (u := nextV t ops v) (by omega)
    have i1 := ih (ops.filter (valB t (nextV t ops v) x)) (nextV t ops v + 1) (by omega) (by omega)
    have i2 := ih (ops.filter (restB t (nextV t ops v))) (nextV t ops v + 1) (by omega) (by omega)
    refine ⟨?_, ⟨x, q1, by rw [q2]; simp; omega⟩, by rw [q4]; exact i1.2, i2.2⟩
    rw [coll, q4]
    refine (i1.1.append i2.1).trans (split_perm (a := valB t (nextV t ops v) x) (c := restB t (nextV t ops v)) (fun op => ?_) (fun op h => ?_) ops).symm
    · unfold valB restB
      cases ho : factOn (preOf t op) (nextV t ops v : Int) with
      | none => rw [hf_none ho]; simp
      | some f =>
        rw [hf_some hp ho]
        obtain ⟨_, hv⟩ := factOn_some ho
        rw [hasB_eq (s := s) hv q1]
        by_cases hx : f.val = (x : Int)
        · simp [hx]
        · simp [hx, Ne.symm hx]
    · unfold valB at h
      unfold restB
      cases ho : factOn (preOf t op) (nextV t ops v : Int) with
      | none => rw [ho] at h; simp at h
      | some f => rfl
/-- All operators, and the tree of a task. -/
def allOps (t : Tsk) : List Int := (List.range t.ops.length).map fun i : Nat => (i : Int)
def treeOf (t : Tsk) : Tr := mkT t (t.vars.length + 1) (allOps t) 0
theorem all_congr {α : Type} {p q : α → Bool} : ∀ {l : List α}, (∀ x ∈ l, p x = q x) → l.all p = l.all q
  | [], _ => rfl
  | x :: l, h => by rw [List.all_cons, List.all_cons, h x List.mem_cons_self, all_congr fun y hy => h y (List.mem_cons_of_mem _ hy)]
theorem appl_eq {t : Tsk} (hp : PreOk t) (s : List Int) : appl t s = (allOps t).filter (hf t s 0) := by
  unfold appl applK allOps
  rw [List.filter_map]
  congr 1
  refine List.filter_congr fun i hi => ?_
  obtain ⟨o, ho⟩ := some_of_lt (l := t.ops) (k := i) (List.mem_range.1 hi)
  simp only [Function.comp, hf, preOf, holdsB, Int.toNat_natCast, ho]
  refine all_congr fun f hfm => ?_
  obtain ⟨j, hj⟩ := List.getElem?_of_mem hfm
  have := ((hp i o ho).1 j f hj).1
  have : decide (f.var < ((0 : Nat) : Int)) = false := decide_eq_false (by omega)
  rw [this, Bool.false_or]
theorem appl_sorted (t : Tsk) (s : List Int) : (appl t s).Pairwise fun x y => decide (x ≤ y) = true := by
  unfold appl applK
  refine List.Pairwise.map _ (fun a b h => ?_) (List.Pairwise.filter _ List.pairwise_lt_range)
  exact decide_eq_true (by omega)
theorem sortL_perm {l m : List Int} (h : l.Perm m) (hm : m.Pairwise fun x y => decide (x ≤ y) = true) : sortL l = m := by
  refine List.Perm.eq_of_pairwise (le := fun x y : Int => decide (x ≤ y) = true) (fun a b _ _ h1 h2 => ?_) (List.pairwise_mergeSort (fun a b c h1 h2 => ?_) (fun a b => ?_) l) hm ((List.mergeSort_perm _ _).trans h)
  · have := of_decide_eq_true h1; have := of_decide_eq_true h2; omega
  · have := of_decide_eq_true h1; have := of_decide_eq_true h2; exact decide_eq_true (by omega)
  · simp; omega
theorem findL_tree {t : Tsk} {s : List Int} (hp : PreOk t) (hs : StateOk t.vars s) : findL t (treeOf t) s = appl t s := by
  unfold findL
  rw [if_pos (bof_t hs)]
  refine sortL_perm ?_ (appl_sorted t s)
  rw [appl_eq hp]
  exact (coll_mkT hp hs _ _ 0 (Nat.zero_le _) (by omega)).1
theorem fits_tree {t : Tsk} {s : List Int} (hp : PreOk t) (hs : StateOk t.vars s) : Fits s (treeOf t) := (coll_mkT hp hs _ _ 0 (Nat.zero_le _) (by omega)).2
theorem coll_len (t : Tsk) (s : List Int) : ∀ (fuel : Nat) (ops : List Int) (v : Nat), (coll s (mkT t fuel ops v)).length ≤ ops.length := by
  intro fuel
  induction fuel with
  | zero => intro ops v; exact Nat.zero_le _
  | succ fuel ih =>
    intro ops v
    unfold mkT
    by_cases he : ops.isEmpty = true
    · rw [if_pos he]; exact Nat.zero_le _
    rw [if_neg he]
    by_cases hn : nextV t ops v = t.vars.length
    · rw [if_pos hn]; exact Nat.le_refl _
    rw [if_neg hn, coll, List.length_append]
    refine Nat.le_trans (Nat.add_le_add (ih _ _) (ih _ _)) ?_
    generalize nextV t ops v = u
    generalize atN s u = x
    clear he hn ih
    induction ops with
    | nil => simp
    | cons op ops ih2 =>
      have hac : valB t u x op = true → restB t u op = false := by
        unfold valB restB
        cases factOn (preOf t op) (u : Int) <;> simp
      rw [List.filter_cons, List.filter_cons]
      cases ha : valB t u x op
      · cases hc : restB t u op <;> simp <;> omega
      · rw [hac ha]; simp; omega
theorem allOps_len (t : Tsk) : (allOps t).length = t.ops.length := by simp [allOps]
theorem tree_len (t : Tsk) (s : List Int) : (coll s (treeOf t)).length ≤ t.ops.length := by
  have := coll_len t s (t.vars.length + 1) (allOps t) 0
  rwa [allOps_len] at this
end
section
open Go Go.RowKit
attribute [local irreducible] ewp owp hwp hwq hws Ev Evg Fn retPost loud loudS Res1
theorem allOps_step : ∀ k, ((List.range (k + 1)).map fun i : Nat => (i : Int)) = ((List.range k).map fun i : Nat => (i : Int)) ++ [(k : Int)] := fun k => by
  rw [List.range_succ, List.map_append]; rfl
theorem genNew {w : World} {tv : Value} {t : Tsk} (ht : V w tv t) : Fn Try.prog 14 [tv] w fun v w' => Ext w w' ∧
    ((TaskOk t ∧ ∃ gv, v = .tuple #[gv, .nilIface] ∧ GenR w' (nw w w') gv t (treeOf t)) ∨ (¬ TaskOk t ∧ v = .tuple #[.pointer none, errV (checkN t)])) := by
  have ht0 := ht
  obtain ⟨cs, rfl, a, b, c, d, rfl, hvars, hinit, hgoal, hops⟩ := ht
  refine fn_enter Try.func14 rfl Try.ntmps14 rfl ?_
  repeat (first | refine e_go ?_ | refine ewp_true rfl ?_ | refine ewp_false rfl ?_)
  refine owp_box rfl rfl fun w1 hN1 => ?_
  have hE1 : Ext w w1 := hN1.ext
  have hb1 : Blk w1 w.heap.size 26 [a, b, c, d] := hN1.blk
  have ht1 := ht0.ext hE1
  (refine o_as rfl rfl ?_ <;> refine o_as rfl rfl ?_ <;> (refine o_z ?_))
  repeat (first | refine e_go ?_ | refine ewp_true rfl ?_ | refine ewp_false rfl ?_)
  (refine o_la rfl rfl ?_)
  refine owp_call rfl rfl (taskCheck ht1) ?_
  rintro _ w2 ⟨rfl, hE2⟩
  have hE02 : Ext w w2 := hE1.trans' hE2
  have hb1 := hb1.ext hE2
  by_cases hok : TaskOk t
  case neg =>
    have hne : checkN t ≠ 0 := fun h => hok (check_ok.1 h)
    rw [errV_pos hne]
    (refine o_as rfl rfl ?_ <;> (refine o_z ?_))
    repeat (first | refine e_go ?_ | refine ewp_true rfl ?_ | refine ewp_false rfl ?_)
    ((repeat (first | refine e_go ?_ | refine ewp_true rfl ?_ | refine ewp_false rfl ?_)) <;> (refine o_mv rfl rfl ?_ <;> (first | refine o_ep rfl rfl ?_ | refine o_eq rfl rfl ?_) <;> (refine o_z ?_)) <;> (repeat (first | refine e_go ?_ | refine ewp_true rfl ?_ | refine ewp_false rfl ?_)))
    ((repeat (first | refine e_go ?_ | refine ewp_true rfl ?_ | refine ewp_false rfl ?_)) <;> (refine o_mv rfl rfl ?_ <;> refine o_as rfl rfl ?_ <;> refine o_as rfl rfl ?_ <;> (refine o_z ?_)) <;> (repeat (first | refine e_go ?_ | refine ewp_true rfl ?_ | refine ewp_false rfl ?_)))
    exact ret2 rfl (res_tmp rfl) (res_tmp rfl) ⟨hE02, .inr ⟨hok, rfl⟩⟩
  rw [check_ok.2 hok, errV_zero]
  (refine o_as rfl rfl ?_ <;> (refine o_z ?_))
  repeat (first | refine e_go ?_ | refine ewp_true rfl ?_ | refine ewp_false rfl ?_)
  ((repeat (first | refine e_go ?_ | refine ewp_true rfl ?_ | refine ewp_false rfl ?_)) <;> (refine o_mv rfl rfl ?_ <;> (first | refine o_ep rfl rfl ?_ | refine o_eq rfl rfl ?_) <;> (refine o_z ?_)) <;> (repeat (first | refine e_go ?_ | refine ewp_true rfl ?_ | refine ewp_false rfl ?_)))
  have hpre := hok.pre
  have hl1 : t.vars.length ≤ 64 := hok.1
  have hl4 : t.ops.length ≤ 4096 := hok.2.1
  have hcp := genCopied (ht1.ext hE2) (by omega) (by rw [hok.2.2.2.1.1]; omega) (by have := factsOk_len hok.2.2.2.2.1; omega) (by omega) (fun i o ho => by
    obtain ⟨_, _, h3, _, h5, h6⟩ := hok.2.2.2.2.2 i o ho
    exact ⟨by have := factsOk_len h5; omega, by omega, fun j e he => by have := factsOk_len (h6 j e he).1; omega⟩)
  (refine o_la rfl rfl ?_)
  refine owp_call rfl rfl hcp ?_
  rintro cvv w3 ⟨hcv, hE3⟩
  obtain ⟨cs', rfl, a', b', c', d', rfl, hvars', hinit', hgoal', hops'⟩ := hcv
  (refine o_bd rfl rfl rfl ?_)
  refine owp_box rfl rfl fun w4 hN4 => ?_
  have hbg : Blk w4 w3.heap.size 68 [a', b', c', d', .pointer none] := hN4.blk
  have hE34 : Ext w3 w4 := hN4.ext
  have s2 := hE02.size
  have s3 := hE3.size
  have s4 : w4.heap.size = w3.heap.size + 1 := hN4.size
  obtain ⟨Ao, co, rfl⟩ := hops'.form
  (refine o_as rfl rfl ?_ <;> (refine o_z ?_))
  repeat (first | refine e_go ?_ | refine ewp_true rfl ?_ | refine ewp_false rfl ?_)
  ((repeat (first | refine e_go ?_ | refine ewp_true rfl ?_ | refine ewp_false rfl ?_)) <;> (refine o_as rfl rfl ?_ <;> (refine o_z ?_)) <;> (repeat (first | refine e_go ?_ | refine ewp_true rfl ?_ | refine ewp_false rfl ?_)))
  clear hb1
  have hb1 := hbg
  ((repeat (first | refine e_go ?_ | refine ewp_true rfl ?_ | refine ewp_false rfl ?_)) <;> (refine o_mv rfl rfl ?_ <;> refine o_nc rfl rfl ?_ <;> refine o_fa rfl rfl ?_ <;> refine o_fa rfl rfl ?_ <;> refine o_ld rfl rfl ?_ <;> refine o_ln rfl rfl ?_ <;> refine o_mv rfl rfl ?_ <;> (refine o_z ?_)) <;> (repeat (first | refine e_go ?_ | refine ewp_true rfl ?_ | refine ewp_false rfl ?_)))
  refine ewp_range t.ops.length (by omega) (fun v : Value => [(1, .pointer (some ⟨w.heap.size, 0, none⟩)), (5, .pointer (some ⟨w3.heap.size, 0, none⟩)), (6, v)]) (fun k v w' => Ext w4 w' ∧ Own w' w4.heap.size (fun _ => False) 3 v ((List.range k).map fun i : Nat => (i : Int))) (.slice none 0 0)
    ⟨Below.refl _ _, Own.nil _ _ _ _⟩ ⟨rfl, rfl, rfl, rfl, rfl, trivial⟩ (fun _ => ⟨rfl, rfl⟩) ⟨rfl, rfl, rfl⟩ ⟨rfl, rfl⟩ ?_ ?_
  · rintro k v w5 hk ⟨hE5, hown⟩
    ((repeat (first | refine e_go ?_ | refine ewp_true rfl ?_ | refine ewp_false rfl ?_)) <;> (refine o_mv rfl rfl ?_ <;> refine o_as rfl rfl ?_ <;> (refine o_z ?_)) <;> (repeat (first | refine e_go ?_ | refine ewp_true rfl ?_ | refine ewp_false rfl ?_)))
    (refine o_mv rfl rfl ?_ <;> refine o_mv rfl rfl ?_)
    refine owp_append1 (a := (k : Int)) rfl rfl rfl hown (fun _ h => h.elim) hE5.size ⟨rfl, by omega, by omega⟩ (by decide) (by decide) (by simp; omega) (by simp; omega) ⟨rfl, rfl⟩ fun v' w6 hown6 hK => ?_
    (refine o_as rfl rfl ?_ <;> (refine o_z ?_))
    repeat (first | refine e_go ?_ | refine ewp_true rfl ?_ | refine ewp_false rfl ?_)
    exact ⟨v', ⟨rfl, rfl, rfl, rfl, rfl, trivial⟩, hE5.trans (hown.fits (Nat.le_refl _) hE5.size hK), by rw [allOps_step]; exact hown6⟩
  rintro v w5 ⟨hE5, hown⟩
  have s5 := hE5.size
  have hE35 := hE34.trans' hE5
  have hbg5 := hbg.ext hE5
  have hB5 : GenB w5 (All w5) (.pointer (some ⟨w3.heap.size, 0, none⟩)) t := ⟨_, _, _, _, _, _, rfl, by show _ < _; omega, hbg5, (hvars'.agree (hE35.agree fun _ h => h.2)).mono fun k hk => by have := hk.2; show _ < _; omega, (hinit'.agree (hE35.agree fun _ h => h.2)).mono fun k hk => by have := hk.2; show _ < _; omega, (hgoal'.agree (hE35.agree fun _ h => h.2)).mono fun k hk => by have := hk.2; show _ < _; omega, (hops'.agree (hE35.agree fun _ h => h.2)).mono fun k hk => by have := hk.2; show _ < _; omega⟩
  have hov : Vb w5 (nw w4 w5) v (allOps t) := hown.vb.mono fun k hk => hown.lt k (hk.resolve_left id)
  have hbuild := genBuild t hok.vars hok.fits hl1 (t.vars.length + 1) w5 _ v (allOps t) 0 (nw w4 w5) hB5 hov (fun k hk => hk.2) (fun op hop => by
    obtain ⟨i, hi, rfl⟩ := List.mem_map.1 hop
    have := List.mem_range.1 hi
    exact ⟨by omega, by omega⟩) (by rw [allOps_len]; omega) (Nat.zero_le _) (by omega)
  repeat (first | refine e_go ?_ | refine ewp_true rfl ?_ | refine ewp_false rfl ?_)
  (refine o_mv rfl rfl ?_ <;> refine o_mv rfl rfl ?_ <;> refine o_mv rfl rfl ?_)
  refine owp_call rfl rfl hbuild ?_
  rintro p w6 ⟨hT, hE6⟩
  obtain ⟨rp, rfl⟩ := hT.form
  have s6 := hE6.size
  (refine o_nc rfl rfl ?_ <;> refine o_fa rfl rfl ?_)
  refine owp_store rfl rfl (hbg5.ext hE6) rfl (Nat.le_refl _) (by simp [Value.cells, Value.oneCell']) fun w7 hU => ?_
  ((refine o_z ?_))
  repeat (first | refine e_go ?_ | refine ewp_true rfl ?_ | refine ewp_false rfl ?_)
  ((repeat (first | refine e_go ?_ | refine ewp_true rfl ?_ | refine ewp_false rfl ?_)) <;> (refine o_mv rfl rfl ?_ <;> refine o_as rfl rfl ?_ <;> refine o_as rfl rfl ?_ <;> (refine o_z ?_)) <;> (repeat (first | refine e_go ?_ | refine ewp_true rfl ?_ | refine ewp_false rfl ?_)))
  have hE36 := hE35.trans' hE6
  have s7 := hU.size
  have hcl : ∀ {α : Type} [Rp α] {v : Value} {x : α}, Vb w3 (nw w2 w3) v x → Vb w7 (nw w w7) v x := fun h => ((h.agree (hE36.agree fun _ h => h.2)).agree fun q hq => hU.other q (by have := hq.2; omega)).mono fun k hk => ⟨by have := hk.1; omega, by have := hk.2; omega⟩
  refine ret2 rfl (res_tmp rfl) (res_tmp rfl) ⟨(((hE02.trans' hE3).trans' hE36).trans (hU.below (by omega))), .inl ⟨hok, _, rfl, _, _, _, _, _, _, rfl, ⟨by omega, by omega⟩, hU.blk, hcl hvars', hcl hinit', hcl hgoal', hcl hops', ?_⟩⟩
  refine TrR.mono (fun k hk => ?_) (TrR.agree (fun q hq => hU.other q ?_) hT)
  · rcases hk with hk | hk
    · exact ⟨by have := hk.1; omega, by have := hk.2; omega⟩
    · exact ⟨by omega, by omega⟩
  · rcases hq with hk | hk
    · have := hk.1; omega
    · omega
end
section
open Go Go.RowKit
theorem TaskOk.effs {t : Tsk} (h : TaskOk t) {s : List Int} (hs : StateOk t.vars s) : ∀ (i : Nat) o, t.ops[i]? = some o → EffsIn s o.effs := fun i o ho j e he => by
  obtain ⟨h1, _, y, hy, _⟩ := ((h.2.2.2.2.2 i o ho).2.2.2.2.2 j e he).2
  refine ⟨h1, ?_⟩
  have := (List.getElem?_eq_some_iff.1 hy).1
  rw [hs.1]
  simp only at h1 this
  omega
end
section
open Go Go.RowKit
attribute [local irreducible] ewp owp hwp hwq hws Ev Evg Fn retPost loud loudS Res1
theorem GenR.mono {w : World} {F G : Nat → Prop} {gv : Value} {t : Tsk} {T : Tr} (h : GenR w F gv t T) (hk : ∀ k, F k → G k) : GenR w G gv t T := by
  obtain ⟨gb, a, b, c, d, r, h1, h2, h3, h4, h5, h6, h7, h8⟩ := h
  exact ⟨gb, a, b, c, d, r, h1, hk _ h2, h3, h4.mono hk, h5.mono hk, h6.mono hk, h7.mono hk, TrR.mono hk h8⟩
theorem GenR.agree {w w' : World} {F : Nat → Prop} {gv : Value} {t : Tsk} {T : Tr} (h : GenR w F gv t T) (ha : Agree F w w') : GenR w' F gv t T := by
  obtain ⟨gb, a, b, c, d, r, h1, h2, h3, h4, h5, h6, h7, h8⟩ := h
  exact ⟨gb, a, b, c, d, r, h1, h2, h3.keep (ha gb h2), h4.agree ha, h5.agree ha, h6.agree ha, h7.agree ha, TrR.agree ha h8⟩
theorem GenR.form {w : World} {F : Nat → Prop} {gv : Value} {t : Tsk} {T : Tr} (h : GenR w F gv t T) : ∃ gb, gv = .pointer (some ⟨gb, 0, none⟩) := by
  obtain ⟨gb, a, b, c, d, r, h1, _⟩ := h
  exact ⟨gb, h1⟩
/-- What a generator of a right task finds. -/
noncomputable def appS (t : Tsk) (s : List Int) : List Int := if bof (StateOk t.vars s) = true then appl t s else []
theorem appS_ok {t : Tsk} {s : List Int} (h : StateOk t.vars s) : appS t s = appl t s := by unfold appS; rw [if_pos (bof_t h)]
theorem appS_no {t : Tsk} {s : List Int} (h : ¬ StateOk t.vars s) : appS t s = [] := by unfold appS; rw [bof_f h]; rfl
theorem findL_appS {t : Tsk} (hp : PreOk t) (s : List Int) : findL t (treeOf t) s = appS t s := by
  by_cases h : StateOk t.vars s
  · rw [findL_tree hp h, appS_ok h]
  · rw [appS_no h]; unfold findL; rw [bof_f h]; rfl
theorem appl_mem {t : Tsk} {s : List Int} {x : Int} (h : x ∈ appl t s) : ∃ (j : Nat) (o : Opr), x = (j : Int) ∧ t.ops[j]? = some o ∧ holdsB o.pre s = true := by
  unfold appl applK at h
  obtain ⟨j, hj, rfl⟩ := List.mem_map.1 h
  obtain ⟨h1, h2⟩ := List.mem_filter.1 hj
  obtain ⟨o, ho⟩ := some_of_lt (List.mem_range.1 h1)
  rw [ho] at h2
  exact ⟨j, o, rfl, ho, h2⟩
theorem appS_mem {t : Tsk} {s : List Int} {x : Int} (h : x ∈ appS t s) : StateOk t.vars s ∧ x ∈ appl t s := by
  by_cases hs : StateOk t.vars s
  · rw [appS_ok hs] at h; exact ⟨hs, h⟩
  · rw [appS_no hs] at h; cases h
theorem appl_len (t : Tsk) (s : List Int) : (appl t s).length ≤ t.ops.length := applK_len t s _
theorem appS_len (t : Tsk) (s : List Int) : (appS t s).length ≤ t.ops.length := by
  by_cases hs : StateOk t.vars s
  · rw [appS_ok hs]; exact appl_len t s
  · rw [appS_no hs]; exact Nat.zero_le _
section
variable {w : World} {gv sv : Value} {t : Tsk} {s : List Int}
theorem applT (hok : TaskOk t) (hg : GenR w (All w) gv t (treeOf t)) (hs : V w sv s) (hsl : s.length ≤ 1000000) :
    Fn Try.prog 16 [gv, sv] w fun v w' => Ext w w' ∧ Own w' w.heap.size (All w) 3 v (appS t s) := by
  have := genApplicable hg hs (fits_tree hok.pre) (by have := tree_len t s; have := hok.2.1; omega) hsl
  rwa [findL_appS hok.pre] at this
theorem countT (hok : TaskOk t) (hg : GenR w (All w) gv t (treeOf t)) (hs : V w sv s) (hsl : s.length ≤ 1000000) :
    Fn Try.prog 19 [gv, sv] w fun v w' => v = .int .i64 ((appS t s).length : Int) ∧ Ext w w' := by
  have := genCount hg hs (fits_tree hok.pre) (by have := tree_len t s; have := hok.2.1; omega) hsl
  rwa [findL_appS hok.pre] at this
end
/-- A nil generator. -/
theorem nilFind {w : World} {sv : Value} : Fn Try.prog 32 [.pointer none, sv] w fun v w' => v = .tuple #[.slice none 0 0, .int .i64 0] ∧ Ext w w' := by
  refine fn_enter Try.func32 rfl Try.ntmps32 rfl ?_
  ((repeat (first | refine e_go ?_ | refine ewp_true rfl ?_ | refine ewp_false rfl ?_)) <;> (refine o_as rfl rfl ?_ <;> refine o_as rfl rfl ?_ <;> (refine o_z ?_)) <;> (repeat (first | refine e_go ?_ | refine ewp_true rfl ?_ | refine ewp_false rfl ?_)))
  (refine o_mv rfl rfl ?_ <;> refine o_pn rfl rfl ?_ <;> refine o_mv rfl rfl ?_ <;> (first | (refine owp_yes rfl rfl ?_; refine o_mv rfl rfl ?_) | refine owp_no rfl rfl rfl rfl ?_) <;> (first | (refine owp_yes rfl rfl ?_; refine o_nc rfl rfl ?_) | refine owp_no rfl rfl rfl rfl ?_) <;> (first | (refine owp_yes rfl rfl ?_; refine o_fa rfl rfl ?_) | refine owp_no rfl rfl rfl rfl ?_) <;> (first | (refine owp_yes rfl rfl ?_; refine o_fa rfl rfl ?_) | refine owp_no rfl rfl rfl rfl ?_) <;> (first | (refine owp_yes rfl rfl ?_; refine o_ld rfl rfl ?_) | refine owp_no rfl rfl rfl rfl ?_) <;> (first | (refine owp_yes rfl rfl ?_; refine o_mv rfl rfl ?_) | refine owp_no rfl rfl rfl rfl ?_))
  refine owp_no rfl rfl rfl rfl ?_
  ((first | (refine owp_yes rfl rfl ?_; (first | refine o_nt rfl rfl ?_ | refine o_nf rfl rfl ?_ | refine o_nn rfl rfl ?_)) | refine owp_no rfl rfl rfl rfl ?_) <;> (first | refine o_pt rfl rfl rfl ?_ | refine o_pf rfl rfl rfl ?_) <;> (refine o_z ?_))
  repeat (first | refine e_go ?_ | refine ewp_true rfl ?_ | refine ewp_false rfl ?_)
  ((repeat (first | refine e_go ?_ | refine ewp_true rfl ?_ | refine ewp_false rfl ?_)) <;> (refine o_as rfl rfl ?_ <;> refine o_as rfl rfl ?_ <;> (refine o_z ?_)) <;> (repeat (first | refine e_go ?_ | refine ewp_true rfl ?_ | refine ewp_false rfl ?_)))
  exact ret2 rfl (res_tmp rfl) (res_tmp rfl) ⟨rfl, Below.refl _ _⟩
theorem nilApplicable {w : World} {sv : Value} : Fn Try.prog 16 [.pointer none, sv] w fun v w' => v = .slice none 0 0 ∧ Ext w w' := by
  refine fn_enter Try.func16 rfl Try.ntmps16 rfl ?_
  ((repeat (first | refine e_go ?_ | refine ewp_true rfl ?_ | refine ewp_false rfl ?_)) <;> (refine o_as rfl rfl ?_ <;> (refine o_z ?_)) <;> (repeat (first | refine e_go ?_ | refine ewp_true rfl ?_ | refine ewp_false rfl ?_)) <;> (refine o_mv rfl rfl ?_ <;> refine o_mv rfl rfl ?_) <;> (repeat (first | refine e_go ?_ | refine ewp_true rfl ?_ | refine ewp_false rfl ?_)))
  refine owp_call rfl rfl nilFind ?_
  rintro _ w1 ⟨rfl, hE⟩
  (refine o_mv rfl rfl ?_ <;> refine o_ex rfl rfl rfl ?_ <;> refine o_ex rfl rfl rfl ?_ <;> refine o_as rfl rfl ?_ <;> refine o_as rfl rfl ?_ <;> (refine o_z ?_))
  repeat (first | refine e_go ?_ | refine ewp_true rfl ?_ | refine ewp_false rfl ?_)
  ((repeat (first | refine e_go ?_ | refine ewp_true rfl ?_ | refine ewp_false rfl ?_)) <;> (refine o_mv rfl rfl ?_ <;> refine o_as rfl rfl ?_ <;> (refine o_z ?_)) <;> (repeat (first | refine e_go ?_ | refine ewp_true rfl ?_ | refine ewp_false rfl ?_)))
  exact ret1 rfl rfl ⟨rfl, hE⟩
theorem nilCount {w : World} {sv : Value} : Fn Try.prog 19 [.pointer none, sv] w fun v w' => v = .int .i64 0 ∧ Ext w w' := by
  refine fn_enter Try.func19 rfl Try.ntmps19 rfl ?_
  ((repeat (first | refine e_go ?_ | refine ewp_true rfl ?_ | refine ewp_false rfl ?_)) <;> (refine o_as rfl rfl ?_ <;> (refine o_z ?_)) <;> (repeat (first | refine e_go ?_ | refine ewp_true rfl ?_ | refine ewp_false rfl ?_)) <;> (refine o_mv rfl rfl ?_ <;> refine o_mv rfl rfl ?_) <;> (repeat (first | refine e_go ?_ | refine ewp_true rfl ?_ | refine ewp_false rfl ?_)))
  refine owp_call rfl rfl nilApplicable ?_
  rintro _ w1 ⟨rfl, hE⟩
  (refine o_ln rfl rfl ?_ <;> refine o_as rfl rfl ?_ <;> (refine o_z ?_))
  repeat (first | refine e_go ?_ | refine ewp_true rfl ?_ | refine ewp_false rfl ?_)
  exact ret1 rfl rfl ⟨rfl, hE⟩
end
section
open Go Go.RowKit
section
variable {P : Program} {l : Env} {w : World} {dst : Option Tmp} {ty : TypeId} {pos : String} {aft : Array Edge}
theorem ev_wr_add {t u : TypeId} {x y : Operand} {a b : Int} (hx : opv l x = some (.int .i64 a)) (hy : opv l y = some (.int .i64 b)) : Ev P ⟨dst, .binOp .add t x y u, ty, pos, aft, none⟩ l w (.int .i64 (wr (a + b))) := fun _ _ d ha => by
  simp [execOp, ha.eval hx, ha.eval hy, eqGuard, binOp, Op.intArith, wr]
theorem ev_iaE {t e : TypeId} [TSlice P t e] {z : Value} {size bytes : Nat} [TInfo P e z size bytes] {x i : Operand} {k : IntKind} {A : Option Addr} {b o m c j : Nat} {q : Int} (hx : opv l x = some (.slice A m c)) (hq : opv l i = some (.int k q)) (hA : A = some ⟨b, o, none⟩) (hj : q = (j : Int)) (hlt : j < m) :
    Ev P ⟨dst, .indexAddr t x i, ty, pos, aft, none⟩ l w (.pointer (some ⟨b, o + j * size, none⟩)) := by
  subst hA
  exact ev_indexAddr hx hq hj hlt
theorem ev_faE {t : TypeId} {f off : Nat} [TField P t f off] {x : Operand} {p : Option Addr} {b o : Nat} (hx : opv l x = some (.pointer p)) (hA : p = some ⟨b, o, none⟩) : Ev P ⟨dst, .fieldAddr t x f, ty, pos, aft, none⟩ l w (.pointer (some ⟨b, o + off, none⟩)) := by
  subst hA
  exact ev_fieldAddr hx
theorem ev_ncE {x : Operand} {p : Option Addr} {ad : Addr} (hx : opv l x = some (.pointer p)) (hA : p = some ad) : Ev P ⟨dst, .nilCheck x, ty, pos, aft, none⟩ l w (.pointer p) := by
  subst hA
  exact ev_nilck hx
theorem ev_errN {t u : TypeId} [TIface P t] {x : Operand} {n : Int} (hx : opv l x = some (errV n)) : Ev P ⟨dst, .binOp .neq t x (.const .nilIface) u, ty, pos, aft, none⟩ l w (.bool (decide (n ≠ 0))) := by
  by_cases h : n = 0
  · subst h
    rw [errV_zero] at hx
    exact ev_errnnil hx
  · rw [errV_pos h] at hx
    simpa [h] using ev_errnnil' (P := P) (w := w) (dst := dst) (ty := ty) (pos := pos) (aft := aft) (t := t) (u := u) hx
theorem ev_ptrE {t e u : TypeId} [TPtr P t e] {x : Operand} {p : Option Addr} {b : Bool} (hq : p.isNone = b) (hx : opv l x = some (.pointer p)) : Ev P ⟨dst, .binOp .eql t x (.const (.pointer none)) u, ty, pos, aft, none⟩ l w (.bool (decide (b = true))) := by
  subst hq
  have := ev_ptrnil (P := P) (w := w) (dst := dst) (ty := ty) (pos := pos) (aft := aft) (t := t) (u := u) hx
  cases hb : p.isNone <;> simpa [hb] using this
end
section
variable {P : Program} {n : Nat} {ops : Array Oper} {Q : Post} {rest : List Oper} {l : Env} {w : World} {d : Tmp} {ty : TypeId} {pos : String} {aft : Array Edge}
theorem o_adW {t u : TypeId} {x y : Operand} {a b : Int} (hx : opv l x = some (.int .i64 a)) (hy : opv l y = some (.int .i64 b)) (hd : Nat.blt d n = true) (h : owp P n ops Q rest ((d, .int .i64 (wr (a + b))) :: l) w)  : owp P n ops Q (⟨some d, .binOp .add t x y u, ty, pos, aft, none⟩ :: rest) l w := owp_ev (ev_wr_add hx hy) hd h
theorem o_iaE {t e : TypeId} [TSlice P t e] {z : Value} {size bytes : Nat} [TInfo P e z size bytes] {x i : Operand} {k : IntKind} {A : Option Addr} {b o m c j : Nat} {q : Int} (hx : opv l x = some (.slice A m c)) (hq : opv l i = some (.int k q)) (hd : Nat.blt d n = true) (h : owp P n ops Q rest ((d, .pointer (some ⟨b, o + j * size, none⟩)) :: l) w) (hA : A = some ⟨b, o, none⟩ := by assumption) (hj : q = (j : Int) := by rfl) (hlt : j < m := by assumption) : owp P n ops Q (⟨some d, .indexAddr t x i, ty, pos, aft, none⟩ :: rest) l w := owp_ev (ev_iaE hx hq hA hj hlt) hd h
theorem o_faE {t : TypeId} {f off : Nat} [TField P t f off] {x : Operand} {p : Option Addr} {b o : Nat} (hx : opv l x = some (.pointer p)) (hd : Nat.blt d n = true) (h : owp P n ops Q rest ((d, .pointer (some ⟨b, o + off, none⟩)) :: l) w) (hA : p = some ⟨b, o, none⟩ := by assumption) : owp P n ops Q (⟨some d, .fieldAddr t x f, ty, pos, aft, none⟩ :: rest) l w := owp_ev (ev_faE hx hA) hd h
theorem o_ncE {x : Operand} {p : Option Addr} {ad : Addr} (hx : opv l x = some (.pointer p)) (hd : Nat.blt d n = true) (h : owp P n ops Q rest ((d, .pointer p) :: l) w) (hA : p = some ad := by assumption) : owp P n ops Q (⟨some d, .nilCheck x, ty, pos, aft, none⟩ :: rest) l w := owp_ev (ev_ncE hx hA) hd h
theorem o_rnS {t u : TypeId} [TIface P t] {x : Operand} {k : Int} (hx : opv l x = some (errV k)) (hd : Nat.blt d n = true) (ht : k ≠ 0 → owp P n ops Q rest ((d, .bool true) :: l) w) (hf : ¬ (k ≠ 0) → owp P n ops Q rest ((d, .bool false) :: l) w) : owp P n ops Q (⟨some d, .binOp .neq t x (.const .nilIface) u, ty, pos, aft, none⟩ :: rest) l w := owp_split (ev_errN hx) hd ht hf
theorem o_pnS {t e u : TypeId} [TPtr P t e] {x : Operand} {p : Option Addr} {b : Bool} (hq : p.isNone = b) (hx : opv l x = some (.pointer p)) (hd : Nat.blt d n = true) (ht : b = true → owp P n ops Q rest ((d, .bool true) :: l) w) (hf : ¬ (b = true) → owp P n ops Q rest ((d, .bool false) :: l) w) : owp P n ops Q (⟨some d, .binOp .eql t x (.const (.pointer none)) u, ty, pos, aft, none⟩ :: rest) l w := owp_split (ev_ptrE hq hx) hd ht hf
variable {S : World → Prop} {r : List (Nat × Bool)} {i : Nat}
end
end
section
open Go Go.RowKit
attribute [local irreducible] ewp owp hwp hwq hws Ev Evg Fn retPost loud loudS Res1
section
variable {w : World} {A : Nat → Prop} (hA : ∀ k, A k → k < w.heap.size) {v0 v1 : Value}
include hA
omit hA in
def m_base_Holds (f : List Fct) (s : List Int) : Option Bool := some (holdsB f s)
theorem c_base_Holds {x0 : List Fct} (h0 : Vb w A v0 x0) {x1 : List Int} (h1 : Vb w A v1 x1) {r : Bool} (hm : m_base_Holds x0 x1 = some r) : Fn Try.prog 42 [v0, v1] w fun v w' => Ext w w' ∧ Vb w' (upA A w w') v r := by
  obtain rfl := sm hm
  refine (baseHolds (h0.mono hA) (h1.mono hA)).mono fun v w' h => ⟨h.2, ?_⟩
  rw [h.1, bof_b]; exact vBool
omit hA in
def m_task_Holds (f : List Fct) (s : List Int) : Option Bool := some (holdsB f s)
theorem c_task_Holds {x0 : List Fct} (h0 : Vb w A v0 x0) {x1 : List Int} (h1 : Vb w A v1 x1) {r : Bool} (hm : m_task_Holds x0 x1 = some r) : Fn Try.prog 35 [v0, v1] w fun v w' => Ext w w' ∧ Vb w' (upA A w w') v r := by
  obtain rfl := sm hm
  refine (taskHolds (h0.mono hA) (h1.mono hA)).mono fun v w' h => ⟨h.2, ?_⟩
  rw [h.1, bof_b]; exact vBool
omit hA in
noncomputable def m_base_Ints (x : List Int) (y : List Int) : Option Bool := some (bof (x = y))
theorem c_base_Ints {x0 : List Int} (h0 : Vb w A v0 x0) {x1 : List Int} (h1 : Vb w A v1 x1) {r : Bool} (hm : m_base_Ints x0 x1 = some r) : Fn Try.prog 17 [v0, v1] w fun v w' => Ext w w' ∧ Vb w' (upA A w w') v r := by
  obtain rfl := sm hm
  refine (baseInts (h0.mono hA) (h1.mono hA)).mono fun v w' h => ⟨h.2, ?_⟩
  rw [h.1]; exact vBool
omit hA in
noncomputable def m_base_Small (t : Tsk) : Option Bool := some (bof (SmallOk t))
theorem c_base_Small {x0 : Tsk} (h0 : Vb w A v0 x0) {r : Bool} (hm : m_base_Small x0 = some r) : Fn Try.prog 11 [v0] w fun v w' => Ext w w' ∧ Vb w' (upA A w w') v r := by
  obtain rfl := sm hm
  refine (baseSmall (h0.mono hA)).mono fun v w' h => ⟨h.2, ?_⟩
  rw [h.1]; exact vBool
end
theorem checkN_rng (t : Tsk) : inI64 (checkN t) := by unfold checkN; (repeat' split) <;> decide
def m_slices_Clone_Lint_int (xs : List Int) : Option (List Int) := if xs.length * 8 ≤ 140737488355328 ∧ xs.length ≤ 9223372036854775807 then some xs else none
theorem c_slices_Clone_Lint_int {w : World} {A : Nat → Prop} (hA : ∀ k, A k → k < w.heap.size) {v0 : Value} {x0 : List Int} (h0 : Vb w A v0 x0) {r : List Int} (hm : m_slices_Clone_Lint_int x0 = some r) :
    Fn Try.prog 34 [v0] w fun v w' => Ext w w' ∧ RowR w w' (upA A w w') 3 v r := by
  obtain ⟨⟨hl, hl2⟩, rfl⟩ := ite_some hm
  obtain ⟨O, hB, hA0⟩ := enter hA
  replace h0 := h0.mono hA0
  obtain ⟨Ad, c, rfl⟩ := h0.form
  refine fn_enter Try.func34 rfl Try.ntmps34 rfl ?_
  cases Ad with
  | none =>
    have hx : x0 = [] := by
      cases x0 with
      | nil => rfl
      | cons x xs => obtain ⟨_, _, _, h, _⟩ := h0.elem (k := 0) (x := x) rfl; cases h
    subst hx
    ((repeat (first | refine e_go ?_ | refine ewp_true rfl ?_ | refine ewp_false rfl ?_)) <;> (refine o_as rfl rfl ?_ <;> (refine o_z ?_)) <;> (repeat (first | refine e_go ?_ | refine ewp_true rfl ?_ | refine ewp_false rfl ?_)) <;> (refine o_mv rfl rfl ?_ <;> refine o_sn rfl rfl ?_ <;> (refine o_z ?_)) <;> (repeat (first | refine e_go ?_ | refine ewp_true rfl ?_ | refine ewp_false rfl ?_)) <;> (refine o_as rfl rfl ?_ <;> (refine o_z ?_)) <;> (repeat (first | refine e_go ?_ | refine ewp_true rfl ?_ | refine ewp_false rfl ?_)))
    exact ret1 rfl rfl ⟨Below.refl _ _, RowR.nil⟩
  | some ad =>
    ((repeat (first | refine e_go ?_ | refine ewp_true rfl ?_ | refine ewp_false rfl ?_)) <;> (refine o_as rfl rfl ?_ <;> (refine o_z ?_)) <;> (repeat (first | refine e_go ?_ | refine ewp_true rfl ?_ | refine ewp_false rfl ?_)) <;> (refine o_mv rfl rfl ?_ <;> refine o_sn rfl rfl ?_ <;> (refine o_z ?_)) <;> (repeat (first | refine e_go ?_ | refine ewp_true rfl ?_ | refine ewp_false rfl ?_)))
    refine l_bslice 2 (by decide) O (xs := ([] : List Int)) rfl rfl rfl rfl trivial (by decide) (by decide) rfl fun g w1 O1 S1 h1 => ?_
    replace hB := hB.st S1 (fun h => h) (fun h => h)
    replace h0 := h0.st S1 (fun h => h)
    (refine o_mv rfl rfl ?_)
    refine l_append rfl h1 h0.rd rfl rfl (by decide) (by simpa using hl) (by simpa using hl2) rfl fun A2 c2 w2 O2 S2 h2 => ?_
    replace hB := hB.st S2 (by decide) (by decide)
    rw [List.nil_append] at h2 ⊢
    (refine o_as rfl rfl ?_ <;> (refine o_z ?_))
    repeat (first | refine e_go ?_ | refine ewp_true rfl ?_ | refine ewp_false rfl ?_)
    exact ret1 rfl rfl ⟨hB.ext, h2.out hB (by decide)⟩
end
section
open Go Go.RowKit
attribute [local irreducible] ewp owp hwp hwq hws Ev Evg Fn retPost loud loudS Res1
/-- A generator by its task. -/
structure Gnr where
  t : Tsk
def GnrR (w : World) (F : Nat → Prop) (v : Value) : Option Gnr → Prop
  | none => v = .pointer none
  | some g => TaskOk g.t ∧ GenR w F v g.t (treeOf g.t)
theorem GnrR.one {w : World} {F : Nat → Prop} {v : Value} : ∀ {x : Option Gnr}, GnrR w F v x → v.oneCell' = true
  | none, h => by have : v = .pointer none := h
                  subst this; rfl
  | some g, h => by
    obtain ⟨gb, rfl⟩ := h.2.form
    rfl
instance : Rp (Option Gnr) where
  isAgg := false
  size := 1
  R w F cs x := ∃ v, cs = [v] ∧ GnrR w F v x
  len := by rintro w F cs x ⟨v, rfl, _⟩; rfl
  one := by
    rintro w F cs x ⟨v, rfl, h⟩ u hu
    have : u = v := by simpa using hu
    subst this; exact h.one
  agree := by
    rintro w w' F cs x ⟨v, rfl, h⟩ ha
    refine ⟨v, rfl, ?_⟩
    cases x with
    | none => exact h
    | some g => exact ⟨h.1, h.2.agree ha⟩
  mono := by
    rintro w F G cs x ⟨v, rfl, h⟩ hk
    refine ⟨v, rfl, ?_⟩
    cases x with
    | none => exact h
    | some g => exact ⟨h.1, h.2.mono hk⟩
theorem vNone {w : World} {F : Nat → Prop} : Vb w F (.pointer none) (none : Option Gnr) := ⟨_, rfl, rfl⟩
theorem Vb.gnr {w : World} {F : Nat → Prop} {v : Value} {x : Option Gnr} (h : Vb w F v x) : GnrR w F v x := by
  obtain ⟨u, hu, h'⟩ := h
  have : v = u := by simpa using hu
  subst this; exact h'
theorem Vb.ptr {w : World} {F : Nat → Prop} {v : Value} {x : Option Gnr} (h : Vb w F v x) : ∃ p, v = .pointer p ∧ p.isNone = x.isNone := by
  cases x with
  | none => exact ⟨none, h.gnr, rfl⟩
  | some g => obtain ⟨gb, rfl⟩ := h.gnr.2.form; exact ⟨_, rfl, rfl⟩
theorem Gnr_open {w : World} {F : Nat → Prop} {p : Option Addr} {x : Option Gnr} {g : Gnr} (h : Vb w F (.pointer p) x) (e : x = some g) :
    ∃ gb a b c d r, p = some ⟨gb, 0, none⟩ ∧ F gb ∧ cellsAt w gb 0 [a, b, c, d, r] ∧ Vb w F a g.t.vars ∧ Vb w F b g.t.init ∧ Vb w F c g.t.goal ∧ Vb w F d g.t.ops := by
  subst e
  obtain ⟨_, gb, a, b, c, d, r, h1, h2, h3, h4, h5, h6, h7, _⟩ := h.gnr
  injection h1 with h1
  exact ⟨gb, a, b, c, d, r, h1, h2, h3.cellsAt, h4, h5, h6, h7⟩
theorem vGnr {w : World} {F : Nat → Prop} {v : Value} {g : Gnr} (h : TaskOk g.t) (hg : GenR w F v g.t (treeOf g.t)) : Vb w F v (some g) := ⟨v, rfl, h, hg⟩
theorem upA_all {A : Nat → Prop} {w w' : World} : ∀ k, nw w w' k → upA A w w' k := fun _ h => .inr h
/-- A row of numbers has no need of other memory. -/
theorem Own.intRow {w w' : World} {F A : Nat → Prop} {e : TypeId} {v : Value} {xs : List Int} (h : Own w' w.heap.size F e v xs) : RowR w w' (upA A w w') e v xs := by
  obtain ⟨cells, q1, q2, q3⟩ := h
  exact ⟨fun _ => False, fun _ h => h.elim, cells, q1, chunks_int' q2, fun _ _ h => h⟩
noncomputable def m_succgen_New (t : Tsk) : Option (Option Gnr × Err) := some (if bof (TaskOk t) = true then some ⟨t⟩ else none, ⟨checkN t⟩)
theorem c_succgen_New {w : World} {A : Nat → Prop} (hA : ∀ k, A k → k < w.heap.size) {v0 : Value} {x0 : Tsk} (h0 : Vb w A v0 x0) {r : Option Gnr × Err} (hm : m_succgen_New x0 = some r) : Fn Try.prog 14 [v0] w fun v w' => Ext w w' ∧ T2 w' (upA A w w') v r := by
  obtain rfl := sm hm
  refine (genNew (h0.mono hA)).mono fun v w' h => ⟨h.1, ?_⟩
  rcases h.2 with ⟨hok, gv, rfl, hg⟩ | ⟨hno, rfl⟩
  · rw [bof_t hok, check_ok.2 hok]
    exact ⟨gv, _, rfl, vGnr (g := ⟨x0⟩) hok (hg.mono upA_all), vErr0⟩
  · rw [bof_f hno]
    exact ⟨_, _, rfl, vNone, vErr (checkN_rng _)⟩
/-- What a generator finds. -/
noncomputable def appG : Option Gnr → List Int → List Int
  | none, _ => []
  | some g, s => appS g.t s
noncomputable def m_succgen_Generator_Applicable (x : Option Gnr) (s : List Int) : Option (List Int) := if s.length ≤ 1000000 then some (appG x s) else none
theorem c_succgen_Generator_Applicable {w : World} {A : Nat → Prop} (hA : ∀ k, A k → k < w.heap.size) {v0 : Value} {x0 : Option Gnr} (h0 : Vb w A v0 x0) {v1 : Value} {x1 : List Int} (h1 : Vb w A v1 x1) {r : List Int} (hm : m_succgen_Generator_Applicable x0 x1 = some r) :
    Fn Try.prog 16 [v0, v1] w fun v w' => Ext w w' ∧ RowR w w' (upA A w w') 3 v r := by
  obtain ⟨hl, rfl⟩ := ite_some hm
  cases x0 with
  | none =>
    have h2 := h0.gnr
    have : v0 = .pointer none := h2
    subst this
    refine nilApplicable.mono fun v w' h => ⟨h.2, ?_⟩
    rw [h.1]; exact RowR.nil
  | some g =>
    obtain ⟨hok, hg⟩ := h0.gnr
    exact (applT hok (hg.mono hA) (h1.mono hA) hl).mono fun v w' h => ⟨h.1, h.2.intRow⟩
noncomputable def m_succgen_Generator_Count (x : Option Gnr) (s : List Int) : Option Int := if s.length ≤ 1000000 then some ((appG x s).length : Int) else none
theorem c_succgen_Generator_Count {w : World} {A : Nat → Prop} (hA : ∀ k, A k → k < w.heap.size) {v0 : Value} {x0 : Option Gnr} (h0 : Vb w A v0 x0) {v1 : Value} {x1 : List Int} (h1 : Vb w A v1 x1) {r : Int} (hm : m_succgen_Generator_Count x0 x1 = some r) :
    Fn Try.prog 19 [v0, v1] w fun v w' => Ext w w' ∧ Vb w' (upA A w w') v r := by
  obtain ⟨hl, rfl⟩ := ite_some hm
  cases x0 with
  | none =>
    have h2 := h0.gnr
    have : v0 = .pointer none := h2
    subst this
    refine nilCount.mono fun v w' h => ⟨h.2, ?_⟩
    rw [h.1]; exact vInt (by decide)
  | some g =>
    obtain ⟨hok, hg⟩ := h0.gnr
    refine (countT hok (hg.mono hA) (h1.mono hA) hl).mono fun v w' h => ⟨h.2, ?_⟩
    rw [h.1]
    have h2 := appS_len g.t x1
    have h3 := hok.2.1
    exact vInt (rngNat (by omega))
end
section
open Go Go.RowKit
instance : NestAt Suc Int where
  q := 1
  get x := x.state
  put x y := { x with state := y }
  get_put _ _ := rfl
  put_put _ _ _ := rfl
  split := by rintro w F cs x ⟨v, rfl, h, h2⟩; exact ⟨⟨_, rfl, .nil _ _, h2⟩, v, rfl, h⟩
  join := by
    rintro w F cs x v ⟨u, he, h, h2⟩ hv hx
    match cs, he, hv with
    | [a, b], he, hv =>
      simp only [List.set, List.cons.injEq, and_true] at he
      obtain ⟨rfl, -⟩ := he
      obtain rfl : b = v := by simpa using hv
      exact ⟨_, rfl, hx, h2⟩
    | [], he, _ => simp at he
    | [_], he, _ => simp at he
    | _ :: _ :: _ :: _, he, _ => simp at he
/-- A successor in a row of them. -/
theorem NR.suc {w : World} {i : Nat} {O : Lab} {e' e : TypeId} {A : Option Addr} {m c b o : Nat} {xs : List Suc} (h : NR Int i w O e' e (.slice A m c) xs none) (hA : A = some ⟨b, o, none⟩) {k : Nat} {x : Suc} (hx : xs[k]? = some x) :
    ∃ A1 c1, cellsAt w b (o + k * 2) [.int .i64 x.op, .slice A1 x.state.length c1] ∧ inI64 x.op ∧ Vb w (FrS [i] w O) (.slice A1 x.state.length c1) x.state := by
  obtain ⟨A1, c1, q1, q2⟩ := h.peek hA hx
  obtain ⟨rs, L, h1, h2, h3, h4, h5⟩ := h
  have hk : k < rs.length := by rw [h4]; exact lt_of_get hx
  have hr : rs[k]? = some rs[k] := List.getElem?_eq_getElem hk
  obtain ⟨b', o', cs, h6, h7, h8, h9⟩ := Rw.elem (i := i) (O := O) ⟨h1, fun g hg => (h2 g hg).1, h3⟩ hr
  obtain ⟨rfl, rfl⟩ : b = b' ∧ o = o' := by rw [hA] at h6; injection h6 with h6; injection h6 with h6 h7; exact ⟨h6, h7⟩
  have e9 : cs = rs[k].cs := h9
  subst e9
  obtain ⟨⟨v, hv, _, hop⟩, _⟩ := h5 k _ x hr hx
  have hl : rs[k].cs.length = 2 := rs[k].len
  generalize rs[k].cs = cs at hv h8 hl
  match cs, hl, hv, h8 with
  | [a, u], _, hv, h8 =>
    have ha : a = .int .i64 x.op := by
      have : [a, .slice none 0 0] = [.int .i64 x.op, v] := hv
      injection this
    have hu := cellsAt_get h8 1 u rfl
    have hu2 : u = .slice A1 x.state.length c1 := Option.some.inj (hu.symm.trans q1)
    subst ha hu2
    exact ⟨A1, c1, h8, hop, q2⟩
/-- New's result lies in new memory alone. -/
theorem cf_succgen_New {w : World} {v0 : Value} {x0 : Tsk} (h0 : Vb w (All w) v0 x0) {r : Option Gnr × Err} (hm : m_succgen_New x0 = some r) : Fn Try.prog 14 [v0] w fun v w' => Ext w w' ∧ T2 w' (nw w w') v r := by
  obtain rfl := sm hm
  refine (genNew h0).mono fun v w' h => ⟨h.1, ?_⟩
  rcases h.2 with ⟨hok, gv, rfl, hg⟩ | ⟨hno, rfl⟩
  · rw [bof_t hok, check_ok.2 hok]
    exact ⟨gv, _, rfl, vGnr (g := ⟨x0⟩) hok hg, vErr0⟩
  · rw [bof_f hno]
    exact ⟨_, _, rfl, vNone, vErr (checkN_rng _)⟩
theorem nw_fr {w w' : World} {O : Lab} : ∀ k, nw w w' k → Fr 0 w' (upO O w.heap.size fun _ => 0) k := fun _ h => ⟨h.2, upO_new h.1⟩
section
variable {P : Program} {n : Nat} {ops : Array Oper} {Q : Post} {rest : List Oper} {l : Env} {w : World} {d : Tmp} {ty : TypeId} {pos : String} {aft : Array Edge}
/-- A call whose result lies in new memory alone. -/
theorem l_callN {f : FuncId} [Callable P f] {xs : List Operand} {vs : List Value} {ts : Array TypeId} {O : Lab} {R : World → (Nat → Prop) → Value → Prop} (hc : Fn P f vs w fun v w' => Ext w w' ∧ R w' (nw w w') v) (hR : ∀ w' F G v, R w' F v → (∀ k, F k → G k) → R w' G v) (hx : opvs l xs = some vs) (hd : Nat.blt d n = true)
    (h : ∀ v w' O', St nT w O w' O' → R w' (Fr 0 w' O') v → owp P n ops Q rest ((d, v) :: l) w') : owp P n ops Q (⟨some d, .call { callee := .value (.func f), args := xs.toArray, argTypes := ts }, ty, pos, aft, none⟩ :: rest) l w :=
  owp_call hx hd hc fun v w' ⟨hE, hv⟩ => h v w' (upO O w.heap.size fun _ => 0) (hE.st O _) (hR _ _ _ _ hv nw_fr)
end
end
section
open Go Go.RowKit
/-- An operator's cells, whose two rows lie in M1 and M2. -/
def OpC (w : World) (F M1 M2 : Nat → Prop) (e1 e2 : TypeId) (cs : List Value) (x : Opr) : Prop :=
  ∃ p u, cs = [.string x.name, .int .i64 x.cost, p, u] ∧ inI64 x.cost ∧ x.name.size ≤ 9223372036854775807 ∧ RwM w F M1 e1 p x.pre ∧ RwM w F M2 e2 u x.effs
theorem OpC.mono {w : World} {F M1 M2 F' M1' M2' : Nat → Prop} {e1 e2 : TypeId} {cs : List Value} {x : Opr} (h : OpC w F M1 M2 e1 e2 cs x) (h0 : ∀ k, F k → F' k) (h1 : ∀ k, M1 k → M1' k) (h2 : ∀ k, M2 k → M2' k) (h3 : ∀ k, F' k → ¬ M1' k) (h4 : ∀ k, F' k → ¬ M2' k) : OpC w F' M1' M2' e1 e2 cs x := by
  obtain ⟨p, u, a, b, c, d, e⟩ := h
  exact ⟨p, u, a, b, c, d.mono h0 h1 h3, e.mono h0 h2 h4⟩
theorem OpC.agree {w w' : World} {F M1 M2 : Nat → Prop} {e1 e2 : TypeId} {cs : List Value} {x : Opr} (h : OpC w F M1 M2 e1 e2 cs x) (h0 : Agree F w w') (h1 : Agree M1 w w') (h2 : Agree M2 w w') : OpC w' F M1 M2 e1 e2 cs x := by
  obtain ⟨p, u, a, b, c, d, e⟩ := h
  exact ⟨p, u, a, b, c, d.agree h0 h1, e.agree h0 h2⟩
abbrev LbN (i : Nat) (w : World) (O L : Lab) (n : Nat) : Nat → Prop := fun b => Fr i w O b ∧ L b = n
/-- The elements' rows: their blocks have label j. -/
def NsO (j : Nat) (w : World) (O : Lab) (e1 e2 : TypeId) (rs : List (Raw true 4)) (xs : List Opr) : Prop :=
  (∃ L : Lab, rs.length = xs.length ∧ ∀ (k : Nat) (r : Raw true 4) (x : Opr), rs[k]? = some r → xs[k]? = some x → OpC w (Fr 0 w O) (LbN j w O L (2 * k + 1)) (LbN j w O L (2 * k + 2)) e1 e2 r.cs x) ∧ j ≠ 0
section
variable {i j l m : Nat} {T : Nat → Prop} {w w' : World} {O O' : Lab} {e' e1 e2 : TypeId} {rs : List (Raw true 4)} {xs : List Opr} {v : Value}
theorem lbNe {j : Nat} (h : j ≠ 0) {L : Lab} {n : Nat} : ∀ b, Fr 0 w O b → ¬ LbN j w O L n b := fun b hf hm => frNe0 h b hf hm.1
theorem NsO.st (h : NsO j w O e1 e2 rs xs) (hS : St T w O w' O') (h0 : ¬ T 0 := by decide) (hj : ¬ T j := by decide) : NsO j w' O' e1 e2 rs xs := by
  obtain ⟨⟨L, hl, hr⟩, h1⟩ := h
  refine ⟨⟨L, hl, fun k r x g1 g2 => ?_⟩, h1⟩
  exact ((hr k r x g1 g2).agree (hS.agree h0) (fun b hb => hS.agree hj b hb.1) (fun b hb => hS.agree hj b hb.1)).mono (hS.fr h0) (fun b hb => ⟨hS.fr hj b hb.1, hb.2⟩) (fun b hb => ⟨hS.fr hj b hb.1, hb.2⟩) (lbNe h1) (lbNe h1)
theorem NsO.snoc (h : NsO j w O e1 e2 rs xs) {r : Raw true 4} {x : Opr} {p u : Value} (hr : r.cs = [.string x.name, .int .i64 x.cost, p, u]) (hc : inI64 x.cost) (hn : x.name.size ≤ 9223372036854775807) (hp : Rw l w O e1 p x.pre) (hu : Rw m w O e2 u x.effs) (hlj : l ≠ j) (hmj : m ≠ j) (hlm : l ≠ m) :
    ∃ O', St (fun q => q = l ∨ q = m) w O w O' ∧ NsO j w O' e1 e2 (rs ++ [r]) (xs ++ [x]) := by
  obtain ⟨⟨L, hl, hra⟩, hj⟩ := h
  have hl0 : l ≠ 0 := hp.2.2
  have hm0 : m ≠ 0 := hu.2.2
  have hF : ∀ k, Fr 0 w O k → Fr 0 w (fun k => if O k = l ∨ O k = m then j else O k) k := fun k hk => ⟨hk.1, by show (if _ then _ else _) = _; rw [if_neg (by rw [hk.2]; rintro (h | h) <;> omega)]; exact hk.2⟩
  refine ⟨fun k => if O k = l ∨ O k = m then j else O k, ⟨rfl, rfl, rfl, Nat.le_refl _, fun k _ hk => ⟨rfl, if_neg hk⟩⟩, ⟨fun b => if O b = l then 2 * rs.length + 1 else if O b = m then 2 * rs.length + 2 else L b, by simp [hl], fun k r' x' g1 g2 => ?_⟩, hj⟩
  have old : ∀ n b, LbN j w O L n b → LbN j w (fun k => if O k = l ∨ O k = m then j else O k) (fun b => if O b = l then 2 * rs.length + 1 else if O b = m then 2 * rs.length + 2 else L b) n b := fun n b hb => by
    have h1 : O b ≠ l := by rw [hb.1.2]; exact Ne.symm hlj
    have h2 : O b ≠ m := by rw [hb.1.2]; exact Ne.symm hmj
    exact ⟨⟨hb.1.1, by show (if _ then _ else _) = _; rw [if_neg (by rintro (h | h); exact h1 h; exact h2 h)]; exact hb.1.2⟩, by show (if _ then _ else _) = _; rw [if_neg h1, if_neg h2]; exact hb.2⟩
  rcases Nat.lt_or_ge k rs.length with hk | hk
  · rw [List.getElem?_append_left hk] at g1
    rw [List.getElem?_append_left (by omega)] at g2
    exact (hra k r' x' g1 g2).mono hF (old _) (old _) (lbNe hj) (lbNe hj)
  · have hk2 := lt_of_get g1
    rw [List.length_append, List.length_singleton] at hk2
    have : k = rs.length := by omega
    subst this
    rw [List.getElem?_append_right (Nat.le_refl _), Nat.sub_self] at g1
    rw [hl, List.getElem?_append_right (Nat.le_refl _), Nat.sub_self] at g2
    obtain rfl : r = r' := by simpa using g1
    obtain rfl : x = x' := by simpa using g2
    have q1 : RwM w (Fr 0 w O) (Fr l w O) e1 p x.pre := hp.m (fun _ h => h) (fun _ h => h) (frNe0 hl0)
    have q2 : RwM w (Fr 0 w O) (Fr m w O) e2 u x.effs := hu.m (fun _ h => h) (fun _ h => h) (frNe0 hm0)
    refine ⟨p, u, hr, hc, hn, q1.mono hF (fun b hb => ⟨⟨hb.1, if_pos (.inl hb.2)⟩, if_pos hb.2⟩) (lbNe hj), q2.mono hF (fun b hb => ⟨⟨hb.1, if_pos (.inr hb.2)⟩, ?_⟩) (lbNe hj)⟩
    show (if _ then _ else _) = _
    rw [if_neg (by rw [hb.2]; exact Ne.symm hlm), if_pos hb.2]
/-- One of the rows taken out, turned in its place and put back: preconditions. -/
theorem NsO.takeP (h : NsO j w O e1 e2 rs xs) {k : Nat} {r : Raw true 4} {x : Opr} (hr : rs[k]? = some r) (hx : xs[k]? = some x) (l : Nat) (hl : l ≠ 0) (hlj : l ≠ j) :
    ∃ O1 p u, St (eT j) w O w O1 ∧ r.cs = [.string x.name, .int .i64 x.cost, p, u] ∧ Rw l w O1 e1 p x.pre ∧ ∀ w' O' ys, St (eT l) w O1 w' O' → Rw l w' O' e1 p ys → ∃ O2, St (eT l) w' O' w' O2 ∧ NsO j w' O2 e1 e2 rs (xs.set k { x with pre := ys }) := by
  obtain ⟨⟨L, hlen, hra⟩, hj⟩ := h
  obtain ⟨p, u, hcs, hco, hna, hp, hu⟩ := hra k r x hr hx
  have hF : ∀ b, Fr 0 w O b → Fr 0 w (fun b => if O b = j ∧ L b = 2 * k + 1 then l else O b) b := fun b hb => ⟨hb.1, by show (if _ then _ else _) = _; rw [if_neg (by rw [hb.2]; exact fun h => hj h.1.symm)]; exact hb.2⟩
  refine ⟨fun b => if O b = j ∧ L b = 2 * k + 1 then l else O b, p, u, ⟨rfl, rfl, rfl, Nat.le_refl _, fun b _ hb => ⟨rfl, if_neg fun h => hb h.1⟩⟩, hcs, hp.rw hF (fun b hb => ⟨hb.1.1, if_pos ⟨hb.1.2, hb.2⟩⟩) hl, fun w' O' ys hS hR => ?_⟩
  have hF' : ∀ b, Fr 0 w' O' b → Fr 0 w' (fun b => if O' b = l then j else O' b) b := fun b hb => ⟨hb.1, by show (if _ then _ else _) = _; rw [if_neg (by rw [hb.2]; exact Ne.symm hl)]; exact hb.2⟩
  have hT0 : ¬ eT l 0 := Ne.symm hl
  have hTj : ¬ eT l j := Ne.symm hlj
  refine ⟨fun b => if O' b = l then j else O' b, ⟨rfl, rfl, rfl, Nat.le_refl _, fun b _ hb => ⟨rfl, if_neg hb⟩⟩, ⟨fun b => if O' b = l then 2 * k + 1 else L b, by simp [hlen], fun k' r2 x2 g1 g2 => ?_⟩, hj⟩
  -- what was not taken
  have keep : ∀ n b, n ≠ 2 * k + 1 → LbN j w O L n b → (w'.heap[b]? = w.heap[b]?) ∧ LbN j w' (fun b => if O' b = l then j else O' b) (fun b => if O' b = l then 2 * k + 1 else L b) n b := fun n b hne hb => by
    have h1 : (if O b = j ∧ L b = 2 * k + 1 then l else O b) = j := by rw [if_neg (fun h => hne (hb.2.symm.trans h.2))]; exact hb.1.2
    obtain ⟨e3, e4⟩ := hS.same b hb.1.1 (by show ¬ (if _ then _ else _) = l; rw [h1]; exact Ne.symm hlj)
    have e5 : O' b = j := e4.trans h1
    refine ⟨e3, ⟨Nat.lt_of_lt_of_le hb.1.1 hS.size, ?_⟩, ?_⟩
    · show (if _ then _ else _) = _
      rw [if_neg (by rw [e5]; exact Ne.symm hlj)]; exact e5
    · show (if _ then _ else _) = _
      rw [if_neg (by rw [e5]; exact Ne.symm hlj)]; exact hb.2
  have z0 : ∀ b, Fr 0 w O b → (w'.heap[b]? = w.heap[b]?) ∧ Fr 0 w' (fun b => if O' b = l then j else O' b) b := fun b hb => by
    have h1 := hF b hb
    exact ⟨hS.agree hT0 b h1, hF' b (hS.fr hT0 b h1)⟩
  have move : ∀ {α : Type} [Rp α] {e : TypeId} {q : Value} {ys : List α} {n : Nat}, n ≠ 2 * k + 1 → RwM w (Fr 0 w O) (LbN j w O L n) e q ys → RwM w' (Fr 0 w' fun b => if O' b = l then j else O' b) (LbN j w' (fun b => if O' b = l then j else O' b) (fun b => if O' b = l then 2 * k + 1 else L b) n) e q ys := fun hne hq =>
    (hq.agree (fun b hb => (z0 b hb).1) (fun b hb => (keep _ b hne hb).1)).mono (fun b hb => (z0 b hb).2) (fun b hb => (keep _ b hne hb).2) (lbNe hj)
  by_cases hk : k' = k
  · subst hk
    rw [hr] at g1
    obtain rfl : r = r2 := Option.some.inj g1
    rw [List.getElem?_set_self (lt_of_get hx)] at g2
    obtain rfl : { x with pre := ys } = x2 := Option.some.inj g2
    have q1 : RwM w' (Fr 0 w' O') (Fr l w' O') e1 p ys := hR.m (fun _ h => h) (fun _ h => h) (frNe0 hl)
    exact ⟨p, u, hcs, hco, hna, q1.mono hF' (fun b hb => ⟨⟨hb.1, if_pos hb.2⟩, if_pos hb.2⟩) (lbNe hj), move (by omega) hu⟩
  · rw [List.getElem?_set_ne (Ne.symm hk)] at g2
    obtain ⟨p', u', a1, a2, a3, a4, a5⟩ := hra k' r2 x2 g1 g2
    exact ⟨p', u', a1, a2, a3, move (by omega) a4, move (by omega) a5⟩
/-- The same with effects. -/
theorem NsO.takeE (h : NsO j w O e1 e2 rs xs) {k : Nat} {r : Raw true 4} {x : Opr} (hr : rs[k]? = some r) (hx : xs[k]? = some x) (l : Nat) (hl : l ≠ 0) (hlj : l ≠ j) :
    ∃ O1 p u, St (eT j) w O w O1 ∧ r.cs = [.string x.name, .int .i64 x.cost, p, u] ∧ Rw l w O1 e2 u x.effs ∧ ∀ w' O' ys, St (eT l) w O1 w' O' → Rw l w' O' e2 u ys → ∃ O2, St (eT l) w' O' w' O2 ∧ NsO j w' O2 e1 e2 rs (xs.set k { x with effs := ys }) := by
  obtain ⟨⟨L, hlen, hra⟩, hj⟩ := h
  obtain ⟨p, u, hcs, hco, hna, hp, hu⟩ := hra k r x hr hx
  have hF : ∀ b, Fr 0 w O b → Fr 0 w (fun b => if O b = j ∧ L b = 2 * k + 2 then l else O b) b := fun b hb => ⟨hb.1, by show (if _ then _ else _) = _; rw [if_neg (by rw [hb.2]; exact fun h => hj h.1.symm)]; exact hb.2⟩
  refine ⟨fun b => if O b = j ∧ L b = 2 * k + 2 then l else O b, p, u, ⟨rfl, rfl, rfl, Nat.le_refl _, fun b _ hb => ⟨rfl, if_neg fun h => hb h.1⟩⟩, hcs, hu.rw hF (fun b hb => ⟨hb.1.1, if_pos ⟨hb.1.2, hb.2⟩⟩) hl, fun w' O' ys hS hR => ?_⟩
  have hF' : ∀ b, Fr 0 w' O' b → Fr 0 w' (fun b => if O' b = l then j else O' b) b := fun b hb => ⟨hb.1, by show (if _ then _ else _) = _; rw [if_neg (by rw [hb.2]; exact Ne.symm hl)]; exact hb.2⟩
  have hT0 : ¬ eT l 0 := Ne.symm hl
  refine ⟨fun b => if O' b = l then j else O' b, ⟨rfl, rfl, rfl, Nat.le_refl _, fun b _ hb => ⟨rfl, if_neg hb⟩⟩, ⟨fun b => if O' b = l then 2 * k + 2 else L b, by simp [hlen], fun k' r2 x2 g1 g2 => ?_⟩, hj⟩
  have keep : ∀ n b, n ≠ 2 * k + 2 → LbN j w O L n b → (w'.heap[b]? = w.heap[b]?) ∧ LbN j w' (fun b => if O' b = l then j else O' b) (fun b => if O' b = l then 2 * k + 2 else L b) n b := fun n b hne hb => by
    have h1 : (if O b = j ∧ L b = 2 * k + 2 then l else O b) = j := by rw [if_neg (fun h => hne (hb.2.symm.trans h.2))]; exact hb.1.2
    obtain ⟨e3, e4⟩ := hS.same b hb.1.1 (by show ¬ (if _ then _ else _) = l; rw [h1]; exact Ne.symm hlj)
    have e5 : O' b = j := e4.trans h1
    refine ⟨e3, ⟨Nat.lt_of_lt_of_le hb.1.1 hS.size, ?_⟩, ?_⟩
    · show (if _ then _ else _) = _
      rw [if_neg (by rw [e5]; exact Ne.symm hlj)]; exact e5
    · show (if _ then _ else _) = _
      rw [if_neg (by rw [e5]; exact Ne.symm hlj)]; exact hb.2
  have z0 : ∀ b, Fr 0 w O b → (w'.heap[b]? = w.heap[b]?) ∧ Fr 0 w' (fun b => if O' b = l then j else O' b) b := fun b hb => by
    have h1 := hF b hb
    exact ⟨hS.agree hT0 b h1, hF' b (hS.fr hT0 b h1)⟩
  have move : ∀ {α : Type} [Rp α] {e : TypeId} {q : Value} {ys : List α} {n : Nat}, n ≠ 2 * k + 2 → RwM w (Fr 0 w O) (LbN j w O L n) e q ys → RwM w' (Fr 0 w' fun b => if O' b = l then j else O' b) (LbN j w' (fun b => if O' b = l then j else O' b) (fun b => if O' b = l then 2 * k + 2 else L b) n) e q ys := fun hne hq =>
    (hq.agree (fun b hb => (z0 b hb).1) (fun b hb => (keep _ b hne hb).1)).mono (fun b hb => (z0 b hb).2) (fun b hb => (keep _ b hne hb).2) (lbNe hj)
  by_cases hk : k' = k
  · subst hk
    rw [hr] at g1
    obtain rfl : r = r2 := Option.some.inj g1
    rw [List.getElem?_set_self (lt_of_get hx)] at g2
    obtain rfl : { x with effs := ys } = x2 := Option.some.inj g2
    have q1 : RwM w' (Fr 0 w' O') (Fr l w' O') e2 u ys := hR.m (fun _ h => h) (fun _ h => h) (frNe0 hl)
    exact ⟨p, u, hcs, hco, hna, move (by omega) hp, q1.mono hF' (fun b hb => ⟨⟨hb.1, if_pos hb.2⟩, if_pos hb.2⟩) (lbNe hj)⟩
  · rw [List.getElem?_set_ne (Ne.symm hk)] at g2
    obtain ⟨p', u', a1, a2, a3, a4, a5⟩ := hra k' r2 x2 g1 g2
    exact ⟨p', u', a1, a2, a3, move (by omega) a4, move (by omega) a5⟩
/-- A row of operators that own their rows: all of it has one label. -/
def NO (i : Nat) (w : World) (O : Lab) (e' e1 e2 : TypeId) (v : Value) (xs : List Opr) : Prop :=
  ∃ (rs : List (Raw true 4)) (L : Lab), Own w 0 (Fr 0 w O) e' v rs ∧ (∀ g, v.ownBlock = some g → O g = i ∧ L g = 0) ∧ i ≠ 0 ∧ rs.length = xs.length ∧
    ∀ (k : Nat) (r : Raw true 4) (x : Opr), rs[k]? = some r → xs[k]? = some x → OpC w (Fr 0 w O) (LbN i w O L (2 * k + 1)) (LbN i w O L (2 * k + 2)) e1 e2 r.cs x
theorem NO.opn (h : NO i w O e' e1 e2 v xs) (j : Nat) (hj : j ≠ 0) (hji : j ≠ i) : ∃ (rs : List (Raw true 4)) (O1 : Lab), St (eT i) w O w O1 ∧ Rw i w O1 e' v rs ∧ NsO j w O1 e1 e2 rs xs := by
  obtain ⟨rs, L, h1, h2, h3, h4, h5⟩ := h
  have hF : ∀ b, Fr 0 w O b → Fr 0 w (fun b => if O b = i ∧ L b ≠ 0 then j else O b) b := fun b hb => ⟨hb.1, by show (if _ then _ else _) = _; rw [if_neg (by rw [hb.2]; exact fun h => h3 h.1.symm)]; exact hb.2⟩
  have hM : ∀ n, n ≠ 0 → ∀ b, LbN i w O L n b → LbN j w (fun b => if O b = i ∧ L b ≠ 0 then j else O b) L n b := fun n hn b hb => ⟨⟨hb.1.1, if_pos ⟨hb.1.2, by rw [hb.2]; exact hn⟩⟩, hb.2⟩
  refine ⟨rs, fun b => if O b = i ∧ L b ≠ 0 then j else O b, ⟨rfl, rfl, rfl, Nat.le_refl _, fun b _ hb => ⟨rfl, if_neg fun h => hb h.1⟩⟩, ⟨h1.mono hF fun g hg hf => ?_, fun g hg => ?_, h3⟩, ⟨L, h4, fun k r x g1 g2 => (h5 k r x g1 g2).mono hF (hM _ (by omega)) (hM _ (by omega)) (lbNe hj) (lbNe hj)⟩, hj⟩
  · have h8 : (if O g = i ∧ L g ≠ 0 then j else O g) = 0 := hf.2
    rw [if_neg (fun h => h.2 (h2 g hg).2), (h2 g hg).1] at h8
    exact h3 h8
  · show (if O g = i ∧ L g ≠ 0 then j else O g) = i
    rw [if_neg (fun h => h.2 (h2 g hg).2)]; exact (h2 g hg).1
theorem NO.shut (hR : Rw i w O e' v rs) (hN : NsO j w O e1 e2 rs xs) (hji : j ≠ i) : ∃ O1, St (eT j) w O w O1 ∧ NO i w O1 e' e1 e2 v xs := by
  obtain ⟨⟨L, h4, h5⟩, hj⟩ := hN
  obtain ⟨h1, h2, h3⟩ := hR
  have hF : ∀ b, Fr 0 w O b → Fr 0 w (fun b => if O b = j then i else O b) b := fun b hb => ⟨hb.1, by show (if _ then _ else _) = _; rw [if_neg (by rw [hb.2]; exact Ne.symm hj)]; exact hb.2⟩
  have hi : ∀ g, v.ownBlock = some g → (if O g = j then i else O g) = i := fun g hg => by
    split
    · rfl
    · exact h2 g hg
  have hM : ∀ n b, LbN j w O L n b → LbN i w (fun b => if O b = j then i else O b) (fun b => if O b = j then L b else 0) n b := fun n b hb => ⟨⟨hb.1.1, if_pos hb.1.2⟩, by show (if _ then _ else _) = _; rw [if_pos hb.1.2]; exact hb.2⟩
  refine ⟨fun b => if O b = j then i else O b, ⟨rfl, rfl, rfl, Nat.le_refl _, fun b _ hb => ⟨rfl, if_neg hb⟩⟩, rs, fun b => if O b = j then L b else 0, h1.mono hF fun g hg hf => h3 (((hi g hg).symm.trans hf.2)), fun g hg => ⟨hi g hg, ?_⟩, h3, h4, fun k r x g1 g2 => (h5 k r x g1 g2).mono hF (hM _) (hM _) (lbNe h3) (lbNe h3)⟩
  show (if O g = j then L g else 0) = 0
  rw [if_neg (by rw [h2 g hg]; exact Ne.symm hji)]
theorem NO.st (h : NO i w O e' e1 e2 v xs) (hS : St T w O w' O') (h0 : ¬ T 0 := by decide) (hi : ¬ T i := by decide) : NO i w' O' e' e1 e2 v xs := by
  obtain ⟨rs, L, h1, h2, h3, h4, h5⟩ := h
  have hR : Rw i w' O' e' v rs := Rw.st (O := O) ⟨h1, fun g hg => (h2 g hg).1, h3⟩ hS h0 hi
  exact ⟨rs, L, hR.1, fun g hg => ⟨hR.2.1 g hg, (h2 g hg).2⟩, h3, h4, fun k r x g1 g2 => ((h5 k r x g1 g2).agree (hS.agree h0) (fun b hb => hS.agree hi b hb.1) (fun b hb => hS.agree hi b hb.1)).mono (hS.fr h0) (fun b hb => ⟨hS.fr hi b hb.1, hb.2⟩) (fun b hb => ⟨hS.fr hi b hb.1, hb.2⟩) (lbNe h3) (lbNe h3)⟩
theorem NO.nil (i : Nat) (hi : i ≠ 0) : NO i w O e' e1 e2 (.slice none 0 0) [] :=
  ⟨[], fun _ => 0, Own.nil _ _ _ _, fun g h => by simp [Value.ownBlock] at h, hi, rfl, fun k r x h => by simp at h⟩
theorem NO.len {A : Option Addr} {m c : Nat} (h : NO i w O e' e1 e2 (.slice A m c) xs) : m = xs.length ∧ m ≤ c ∧ c ≤ 9223372036854775807 := by
  obtain ⟨rs, L, h1, h2, h3, h4, h5⟩ := h
  have := Rw.len (i := i) (O := O) ⟨h1, fun g hg => (h2 g hg).1, h3⟩
  exact ⟨this.1.trans h4, this.2⟩
theorem NO.lend (h : NO i w O e' e1 e2 v xs) : Vb w (FrS [i] w O) v xs := by
  obtain ⟨rs, L, h1, h2, h3, hl, hra⟩ := h
  have hR : Rw i w O e' v rs := ⟨h1, fun g hg => (h2 g hg).1, h3⟩
  obtain ⟨A, c, cells, q1, q2, q3, q4, q5⟩ := hR.1.vb.slice
  refine .of_slice ⟨A, c, cells, by rw [q1, hl], by omega, q3, ?_, fun hp => ?_⟩
  · refine q4.conv hl fun k r x cs g1 g2 g3 => ?_
    have g3' : cs = r.cs := g3
    subst g3'
    obtain ⟨p, u, a, b, d, hp, hu⟩ := hra k r x g1 g2
    have sub : ∀ {α : Type} [Rp α] {e : TypeId} {q : Value} {ys : List α} {n : Nat}, RwM w (Fr 0 w O) (LbN i w O L n) e q ys → Vb w (FrS [i] w O) q ys := fun hq => hq.1.vb.mono fun b hb => by
      rcases hb with hb | hb
      · exact ⟨hb.1, .inl hb.2⟩
      · have := (hq.2 b hb).1; exact ⟨this.1, .inr (by rw [this.2]; simp)⟩
    exact ⟨p, u, a, sub hp, sub hu, b, d⟩
  · obtain ⟨b, o, h6, h7, h8⟩ := q5 (by omega)
    refine ⟨b, o, h6, ?_, h8⟩
    rcases h7 with h7 | h7
    · exact ⟨h7.1, .inl h7.2⟩
    · exact ⟨(hR.1.lt b h7).2, .inr (by rw [hR.2.1 b h7]; simp)⟩
theorem NO.all (h : NO i w O e' e1 e2 v xs) : Vb w (All w) v xs := h.lend.mono fun _ h => h.1
theorem NO.at {A : Option Addr} {m c : Nat} (h : NO i w O e' e1 e2 (.slice A m c) xs) {k : Nat} {x : Opr} (hx : xs[k]? = some x) : ∃ b o, A = some ⟨b, o, none⟩ ∧ k < m := by
  obtain ⟨rs, L, h1, h2, h3, h4, h5⟩ := h
  have hk : k < rs.length := by rw [h4]; exact lt_of_get hx
  obtain ⟨b, o, cs, h6, h7, _⟩ := Rw.elem (i := i) (O := O) ⟨h1, fun g hg => (h2 g hg).1, h3⟩ (List.getElem?_eq_getElem hk)
  exact ⟨b, o, h6, h7⟩
end
end
section
open Go Go.RowKit
section
variable {P : Program} {n : Nat} {ops : Array Oper} {Q : Post} {rest : List Oper} {l : Env} {w : World} {d d1 d2 : Tmp} {ty ty2 : TypeId} {pos pos2 : String} {aft aft2 : Array Edge}
theorem rw_slice {α : Type} [Rp α] {i : Nat} {O : Lab} {e : TypeId} {v : Value} {xs : List α} (h : Rw i w O e v xs) : v.oneCell' = true := by
  obtain ⟨A, c, rfl⟩ := h.form; rfl
/-- append of an operator that owns its rows. -/
theorem l_appendO {i j1 j2 : Nat} {O : Lab} {t e' e1 e2 : TypeId} [TSlice P t e'] {z : Value} {size bytes : Nat} [TInfo P e' z size bytes] (hsize : size = 4) {x y : Operand} {v u p q : Value} {xs : List Opr} {a : Opr} (hR : NO i w O e' e1 e2 v xs)
    (hu : u = .agg #[.string a.name, .int .i64 a.cost, p, q]) (hc : inI64 a.cost) (hna : a.name.size ≤ 9223372036854775807) (hp : Rw j1 w O e1 p a.pre) (hq : Rw j2 w O e2 q a.effs) (h1i : j1 ≠ i) (h2i : j2 ≠ i) (h12 : j1 ≠ j2)
    (hx : ∀ g, opv ((d1, .slice (some ⟨g, 0, none⟩) 1 1) :: l) x = some v) (hy : opv l y = some u)
    (hb : (xs.length + [a].length) * bytes ≤ 140737488355328) (h63 : xs.length + [a].length ≤ 9223372036854775807) (hd : Nat.blt d1 n = true ∧ Nat.blt d2 n = true)
    (h : ∀ g A c w' O', St (fun q => q = i ∨ (q = j1 ∨ q = j2)) w O w' O' → NO i w' O' e' e1 e2 (.slice A (xs ++ [a]).length c) (xs ++ [a]) → owp P n ops Q rest ((d2, .slice A (xs ++ [a]).length c) :: (d1, .slice (some ⟨g, 0, none⟩) 1 1) :: l) w') :
    owp P n ops Q (⟨some d1, .buildSlice t 1 #[(0, y)], ty, pos, aft, none⟩ :: ⟨some d2, .call { callee := .builtin .append, args := #[x, .tmp d1], argTypes := #[t, t] }, ty2, pos2, aft2, none⟩ :: rest) l w := by
  subst hu
  obtain ⟨k, hk0, hki, hk1, hk2, hf⟩ := labFresh3 O w.heap.size i j1 j2
  have hj1 : j1 ≠ 0 := hp.2.2
  have hj2 : j2 ≠ 0 := hq.2.2
  have hi0 : i ≠ 0 := by obtain ⟨_, _, _, _, h, _⟩ := hR; exact h
  obtain ⟨rs, O1, hS, hRw, hN⟩ := hR.opn k hk0 hki
  have hlen : rs.length = xs.length := by obtain ⟨⟨_, h, _⟩, _⟩ := hN; exact h
  have hp1 := hp.st hS (fun h => hi0 h.symm) h1i
  have hq1 := hq.st hS (fun h => hi0 h.symm) h2i
  let cs : List Value := [.string a.name, .int .i64 a.cost, p, q]
  have hone : ∀ u ∈ cs, u.oneCell' = true := fun u hu => by
    have : u = .string a.name ∨ u = .int .i64 a.cost ∨ u = p ∨ u = q := by simpa [cs] using hu
    rcases this with rfl | rfl | rfl | rfl
    · rfl
    · rfl
    · exact rw_slice hp
    · exact rw_slice hq
  obtain ⟨O2, hS2, hN2⟩ := NsO.snoc (r := ⟨cs, rfl, hone⟩) hN rfl hc hna hp1 hq1 (Ne.symm hk1) (Ne.symm hk2) h12
  have hT : ∀ q, q ≠ j1 → q ≠ j2 → ¬ (q = j1 ∨ q = j2) := fun q a b h => h.elim a b
  have hR2 := hRw.st hS2 (hT 0 (Ne.symm hj1) (Ne.symm hj2)) (hT i (Ne.symm h1i) (Ne.symm h2i))
  refine l_append1 (α := Raw true 4) (a := ⟨cs, rfl, hone⟩) hsize hR2 (Vb.ofAgg (cs := cs) rfl rfl) hx hy (by omega) (by omega) (by rw [hlen]; exact hb) (by rw [hlen]; exact h63) hd fun g A c w' O3 hS3 hR3 => ?_
  have hN3 := hN2.st hS3 (fun h => hi0 h.symm) hki
  obtain ⟨O4, hS4, h4⟩ := NO.shut hR3 hN3 hki
  have hle : (rs ++ [(⟨cs, rfl, hone⟩ : Raw true 4)]).length = (xs ++ [a]).length := by simp [hlen]
  rw [hle] at h4 ⊢
  refine h g A c w' O4 ?_ h4
  have hS12 : St (fun p => p = i ∨ (p = j1 ∨ p = j2)) w O w O2 := ⟨rfl, rfl, rfl, Nat.le_refl _, fun k hk hT => by
    obtain ⟨_, e2⟩ := hS.same k hk fun h => hT (.inl h)
    obtain ⟨_, e4⟩ := hS2.same k hk (by rw [e2]; exact fun h => hT (.inr h))
    exact ⟨rfl, e4.trans e2⟩⟩
  exact St.via (j := k) hS12 hS3 hS4 hf (fun _ h => h) (fun _ h => .inl (.inl h)) (fun _ h => .inr h)
/-- The rows of an element are looked at. -/
theorem NO.peek {i : Nat} {O : Lab} {e' e1 e2 : TypeId} {A : Option Addr} {m c b o : Nat} {xs : List Opr} (h : NO i w O e' e1 e2 (.slice A m c) xs) (hA : A = some ⟨b, o, none⟩) {k : Nat} {x : Opr} (hx : xs[k]? = some x) :
    ∃ A1 c1 A2 c2, w.cell? ⟨b, o + k * 4 + 2, none⟩ = some (.slice A1 x.pre.length c1) ∧ w.cell? ⟨b, o + k * 4 + 3, none⟩ = some (.slice A2 x.effs.length c2) ∧ Vb w (FrS [i] w O) (.slice A1 x.pre.length c1) x.pre ∧ Vb w (FrS [i] w O) (.slice A2 x.effs.length c2) x.effs := by
  obtain ⟨rs, L, h1, h2, h3, h4, h5⟩ := h
  have hk : k < rs.length := by rw [h4]; exact lt_of_get hx
  have hr : rs[k]? = some rs[k] := List.getElem?_eq_getElem hk
  obtain ⟨b', o', cs, h6, h7, h8, h9⟩ := Rw.elem (i := i) (O := O) ⟨h1, fun g hg => (h2 g hg).1, h3⟩ hr
  obtain ⟨rfl, rfl⟩ : b = b' ∧ o = o' := by rw [hA] at h6; injection h6 with h6; injection h6 with h6 h7; exact ⟨h6, h7⟩
  have e9 : cs = rs[k].cs := h9
  subst e9
  obtain ⟨p, u, a, b1, d1, hp, hu⟩ := h5 k _ x hr hx
  have sub : ∀ {α : Type} [Rp α] {e : TypeId} {q : Value} {ys : List α} {n : Nat}, RwM w (Fr 0 w O) (LbN i w O L n) e q ys → Vb w (FrS [i] w O) q ys := fun hq => hq.1.vb.mono fun b hb => by
    rcases hb with hb | hb
    · exact ⟨hb.1, .inl hb.2⟩
    · have := (hq.2 b hb).1; exact ⟨this.1, .inr (by rw [this.2]; simp)⟩
  have vp := sub hp
  have vu := sub hu
  obtain ⟨A1, c1, rfl⟩ := vp.form
  obtain ⟨A2, c2, rfl⟩ := vu.form
  rw [a] at h8
  exact ⟨A1, c1, A2, c2, cellsAt_get h8 2 _ rfl, cellsAt_get h8 3 _ rfl, vp, vu⟩
/-- A store into an element of an operator's preconditions. -/
theorem l_setOP {i : Nat} {O : Lab} {t e' e1 e2 : TypeId} {z : Value} {size bytes : Nat} [TInfo P t z size bytes] {x y : Operand} {b o b1 o1 k k1 off m c c1 : Nat} {A A1 : Option Addr} {u : Value} {a : Opr} {f f' : Fct} {xs : List Opr} (hR : NO i w O e' e1 e2 (.slice A m c) xs) (hA : A = some ⟨b, o, none⟩) (hk : xs[k]? = some a)
    (hcell : w.cell? ⟨b, o + k * 4 + 2, none⟩ = some (.slice A1 a.pre.length c1)) (hA1 : A1 = some ⟨b1, o1, none⟩) (hk1 : a.pre[k1]? = some f)
    (hx : opv l x = some (.pointer (some ⟨b1, o1 + k1 * Rp.size Fct + off, none⟩))) (hy : opv l y = some u) (hsz : u.cells.toList.length = size) (hoff : off + size ≤ Rp.size Fct) (h1 : ∀ v ∈ u.cells.toList, v.oneCell' = true)
    (hnew : ∀ w' O' ce, Rp.R w' (Fr 0 w' O') ce f → Rp.R w' (Fr 0 w' O') (setFrom ce off u.cells.toList) f')
    (h : ∀ w' O', St (eT i) w O w' O' → NO i w' O' e' e1 e2 (.slice A m c) (xs.set k { a with pre := a.pre.set k1 f' }) → owp P n ops Q rest l w') : owp P n ops Q (⟨none, .store t x y, ty, pos, aft, none⟩ :: rest) l w := by
  obtain ⟨q1, hq0, hqi, _, hf1⟩ := labFresh O w.heap.size i 0
  obtain ⟨q2, hr0, hri, hrq, hf2⟩ := labFresh O w.heap.size i q1
  have hi0 : i ≠ 0 := by obtain ⟨_, _, _, _, h, _⟩ := hR; exact h
  obtain ⟨rs, O1, hS1, hRw, hN⟩ := hR.opn q1 hq0 hqi
  have hlen : rs.length = xs.length := by obtain ⟨⟨_, h, _⟩, _⟩ := hN; exact h
  have hkr : k < rs.length := by rw [hlen]; exact lt_of_get hk
  have hr : rs[k]? = some rs[k] := List.getElem?_eq_getElem hkr
  obtain ⟨b', o', cs, h6, h7, h8, h9⟩ := Rw.elem hRw hr
  obtain ⟨rfl, rfl⟩ : b = b' ∧ o = o' := by rw [hA] at h6; injection h6 with h6; injection h6 with h6 h7; exact ⟨h6, h7⟩
  have e9 : cs = rs[k].cs := h9
  subst e9
  obtain ⟨O2, p, q, hS2, hcs, hI, hback⟩ := hN.takeP hr hk q2 hr0 hrq
  rw [hcs] at h8
  have hp : p = .slice A1 a.pre.length c1 := by
    have := cellsAt_get h8 2 p rfl
    exact Option.some.inj (this.symm.trans hcell)
  subst hp
  have hR2 := hRw.st hS2 (Ne.symm hq0) (Ne.symm hqi)
  refine l_setPart (α := Fct) hI hA1 hk1 hx hy hsz hoff h1 (hnew w O2) fun w' hS3 hI3 => ?_
  have hR3 := hR2.st hS3 (Ne.symm hr0) (Ne.symm hri)
  obtain ⟨O4, hS4, hN4⟩ := hback w' O2 _ hS3 hI3
  have hR4 := hR3.st hS4 (Ne.symm hr0) (Ne.symm hri)
  obtain ⟨O5, hS5, h5⟩ := NO.shut hR4 hN4 hqi
  refine h w' O5 ⟨hS5.os.trans (hS4.os.trans hS3.os), hS5.tape.trans (hS4.tape.trans hS3.tape), hS5.output.trans (hS4.output.trans hS3.output), Nat.le_trans hS3.size hS5.size, fun g hg hT => ?_⟩ h5
  have n1 : O g ≠ q1 := hf1 g hg
  have n2 : O g ≠ q2 := hf2 g hg
  obtain ⟨_, a1⟩ := hS1.same g hg hT
  obtain ⟨_, a2⟩ := hS2.same g hg (by rw [a1]; exact n1)
  obtain ⟨f3, a3⟩ := hS3.same g hg (by rw [a2, a1]; exact n2)
  have hg' : g < w'.heap.size := Nat.lt_of_lt_of_le hg hS3.size
  obtain ⟨_, a4⟩ := hS4.same g hg' (by rw [a3, a2, a1]; exact n2)
  obtain ⟨_, a5⟩ := hS5.same g hg' (by rw [a4, a3, a2, a1]; exact n1)
  exact ⟨f3, by rw [a5, a4, a3, a2, a1]⟩
/-- A store into an element of an operator's effects. -/
theorem l_setOE {i : Nat} {O : Lab} {t e' e1 e2 : TypeId} {z : Value} {size bytes : Nat} [TInfo P t z size bytes] {x y : Operand} {b o b1 o1 k k1 off m c c1 : Nat} {A A1 : Option Addr} {u : Value} {a : Opr} {f f' : Eff} {xs : List Opr} (hR : NO i w O e' e1 e2 (.slice A m c) xs) (hA : A = some ⟨b, o, none⟩) (hk : xs[k]? = some a)
    (hcell : w.cell? ⟨b, o + k * 4 + 3, none⟩ = some (.slice A1 a.effs.length c1)) (hA1 : A1 = some ⟨b1, o1, none⟩) (hk1 : a.effs[k1]? = some f)
    (hx : opv l x = some (.pointer (some ⟨b1, o1 + k1 * Rp.size Eff + off, none⟩))) (hy : opv l y = some u) (hsz : u.cells.toList.length = size) (hoff : off + size ≤ Rp.size Eff) (h1 : ∀ v ∈ u.cells.toList, v.oneCell' = true)
    (hnew : ∀ w' O' ce, Rp.R w' (Fr 0 w' O') ce f → Rp.R w' (Fr 0 w' O') (setFrom ce off u.cells.toList) f')
    (h : ∀ w' O', St (eT i) w O w' O' → NO i w' O' e' e1 e2 (.slice A m c) (xs.set k { a with effs := a.effs.set k1 f' }) → owp P n ops Q rest l w') : owp P n ops Q (⟨none, .store t x y, ty, pos, aft, none⟩ :: rest) l w := by
  obtain ⟨q1, hq0, hqi, _, hf1⟩ := labFresh O w.heap.size i 0
  obtain ⟨q2, hr0, hri, hrq, hf2⟩ := labFresh O w.heap.size i q1
  have hi0 : i ≠ 0 := by obtain ⟨_, _, _, _, h, _⟩ := hR; exact h
  obtain ⟨rs, O1, hS1, hRw, hN⟩ := hR.opn q1 hq0 hqi
  have hlen : rs.length = xs.length := by obtain ⟨⟨_, h, _⟩, _⟩ := hN; exact h
  have hkr : k < rs.length := by rw [hlen]; exact lt_of_get hk
  have hr : rs[k]? = some rs[k] := List.getElem?_eq_getElem hkr
  obtain ⟨b', o', cs, h6, h7, h8, h9⟩ := Rw.elem hRw hr
  obtain ⟨rfl, rfl⟩ : b = b' ∧ o = o' := by rw [hA] at h6; injection h6 with h6; injection h6 with h6 h7; exact ⟨h6, h7⟩
  have e9 : cs = rs[k].cs := h9
  subst e9
  obtain ⟨O2, p, q, hS2, hcs, hI, hback⟩ := hN.takeE hr hk q2 hr0 hrq
  rw [hcs] at h8
  have hq : q = .slice A1 a.effs.length c1 := by
    have := cellsAt_get h8 3 q rfl
    exact Option.some.inj (this.symm.trans hcell)
  subst hq
  have hR2 := hRw.st hS2 (Ne.symm hq0) (Ne.symm hqi)
  refine l_setPart (α := Eff) hI hA1 hk1 hx hy hsz hoff h1 (hnew w O2) fun w' hS3 hI3 => ?_
  have hR3 := hR2.st hS3 (Ne.symm hr0) (Ne.symm hri)
  obtain ⟨O4, hS4, hN4⟩ := hback w' O2 _ hS3 hI3
  have hR4 := hR3.st hS4 (Ne.symm hr0) (Ne.symm hri)
  obtain ⟨O5, hS5, h5⟩ := NO.shut hR4 hN4 hqi
  refine h w' O5 ⟨hS5.os.trans (hS4.os.trans hS3.os), hS5.tape.trans (hS4.tape.trans hS3.tape), hS5.output.trans (hS4.output.trans hS3.output), Nat.le_trans hS3.size hS5.size, fun g hg hT => ?_⟩ h5
  have n1 : O g ≠ q1 := hf1 g hg
  have n2 : O g ≠ q2 := hf2 g hg
  obtain ⟨_, a1⟩ := hS1.same g hg hT
  obtain ⟨_, a2⟩ := hS2.same g hg (by rw [a1]; exact n1)
  obtain ⟨f3, a3⟩ := hS3.same g hg (by rw [a2, a1]; exact n2)
  have hg' : g < w'.heap.size := Nat.lt_of_lt_of_le hg hS3.size
  obtain ⟨_, a4⟩ := hS4.same g hg' (by rw [a3, a2, a1]; exact n2)
  obtain ⟨_, a5⟩ := hS5.same g hg' (by rw [a4, a3, a2, a1]; exact n1)
  exact ⟨f3, by rw [a5, a4, a3, a2, a1]⟩
end
end
section
open Go Go.RowKit
attribute [local irreducible] ewp owp hwp hwq hws Ev Evg Fn retPost loud loudS Res1
def tskEx : Tsk := ⟨[2, 3], [0, 0], [], [⟨⟨#[]⟩, 0, [⟨0, 1⟩], []⟩, ⟨⟨#[]⟩, 0, [], [⟨[], 1, 2⟩]⟩, ⟨⟨#[]⟩, 0, [⟨0, 1⟩, ⟨1, 2⟩], []⟩]⟩
theorem ex_facts1 : FactsOk [2, 3] [⟨0, 1⟩] := factsOk_one.2 ⟨by decide, by decide, 2, rfl, by decide⟩
theorem ex_facts0 : FactsOk [2, 3] [] := ⟨fun i x hx => by simp at hx, fun i x y hx => by simp at hx⟩
theorem ex_facts2 : FactsOk [2, 3] [⟨0, 1⟩, ⟨1, 2⟩] := by
  refine ⟨fun i x hx => ?_, fun i x y hx hy => ?_⟩
  · rcases i with _ | _ | i
    · injection hx with hx; subst hx; exact ⟨by decide, by decide, 2, rfl, by decide⟩
    · injection hx with hx; subst hx; exact ⟨by decide, by decide, 3, rfl, by decide⟩
    · simp at hx
  · rcases i with _ | i
    · injection hx with hx; injection hy with hy; subst hx; subst hy; decide
    · simp at hy
theorem ex_ok : TaskOk tskEx := by
  have hn : NameOk (⟨#[]⟩ : ByteArray) := ⟨by decide, fun i h => absurd h (Nat.not_lt_zero _)⟩
  refine ⟨by decide, by decide, fun i n h => ?_, ⟨rfl, fun i x y hx hy => ?_⟩, ex_facts0, fun i o ho => ?_⟩
  · rcases i with _ | _ | i
    · injection h with h; subst h; decide
    · injection h with h; subst h; decide
    · simp [tskEx] at h
  · rcases i with _ | _ | i
    · injection hx with hx; injection hy with hy; subst hx; subst hy; decide
    · injection hx with hx; injection hy with hy; subst hx; subst hy; decide
    · simp [tskEx] at hx
  · rcases i with _ | _ | _ | i
    · injection ho with ho; subst ho
      exact ⟨by decide, by decide, by decide, hn, ex_facts1, fun i e he => by simp at he⟩
    · injection ho with ho; subst ho
      refine ⟨by decide, by decide, by decide, hn, ex_facts0, fun i e he => ?_⟩
      rcases i with _ | i
      · injection he with he; subst he
        exact ⟨ex_facts0, by decide, by decide, 3, rfl, by decide⟩
      · simp at he
    · injection ho with ho; subst ho
      exact ⟨by decide, by decide, by decide, hn, ex_facts2, fun i e he => by simp at he⟩
    · simp [tskEx] at ho
theorem ex_s1 : StateOk tskEx.vars [0, 0] := ex_ok.2.2.2.1
theorem ex_s2 : StateOk tskEx.vars [1, 2] := ⟨rfl, fun i x y hx hy => by
  rcases i with _ | _ | i
  · injection hx with hx; injection hy with hy; subst hx; subst hy; decide
  · injection hx with hx; injection hy with hy; subst hx; subst hy; decide
  · simp at hx⟩
theorem ex_a1 : appS tskEx [0, 0] = [1] := by rw [appS_ok ex_s1]; decide
theorem ex_a2 : appS tskEx [1, 2] = [0, 1, 2] := by rw [appS_ok ex_s2]; decide
end
section
open Go Go.RowKit
attribute [local irreducible] ewp owp hwp hwq hws Ev Evg Fn retPost loud loudS Res1
def exts (n : Nat) (s : List Int) : List (List Int) := (List.range n).map fun x : Nat => s ++ [(x : Int)]
def grows (out : List (List Int)) (k : Int) : List (List Int) := out.flatMap (exts k.toNat)
def statesL (vars : List Int) : List (List Int) := vars.foldl grows [[]]
theorem statesL_step {vars : List Int} {k : Nat} {n : Int} (h : vars[k]? = some n) : statesL (vars.take (k + 1)) = grows (statesL (vars.take k)) n := by
  unfold statesL
  rw [List.take_add_one, h, List.foldl_append]; rfl
theorem exts_step (n : Nat) (s : List Int) : exts (n + 1) s = exts n s ++ [s ++ [(n : Int)]] := by unfold exts; rw [List.range_succ]; simp
theorem exts_len (n : Nat) (s : List Int) : (exts n s).length = n := by simp [exts]
theorem grows_len (n : Nat) : ∀ l : List (List Int), (l.flatMap (exts n)).length = l.length * n
  | [] => by simp
  | s :: l => by rw [List.flatMap_cons, List.length_append, exts_len, grows_len n l, List.length_cons, Nat.add_mul]; omega
theorem flat_step {α β : Type} (f : α → List β) {l : List α} {k : Nat} {x : α} (h : l[k]? = some x) : (l.take (k + 1)).flatMap f = (l.take k).flatMap f ++ f x := by
  rw [List.take_add_one, h]; simp
theorem statesL_mem (vars : List Int) : ∀ (k : Nat), k ≤ vars.length → ∀ s ∈ statesL (vars.take k), s.length = k := by
  intro k
  induction k with
  | zero => intro _ s hs; simp [statesL] at hs; simp [hs]
  | succ k ih =>
    intro hk s hs
    obtain ⟨n, hn⟩ : ∃ n, vars[k]? = some n := ⟨vars[k], List.getElem?_eq_getElem (by omega)⟩
    rw [statesL_step hn] at hs
    obtain ⟨s', h1, h2⟩ := List.mem_flatMap.1 hs
    obtain ⟨x, _, rfl⟩ := List.mem_map.1 h2
    simp [ih (by omega) s' h1]
end
section
open Go Go.RowKit
def prodV : List Int → Nat → Nat
  | [], n => n
  | k :: r, n => prodV r (n * k.toNat)
theorem foldl_grows_len : ∀ (vars : List Int) (out : List (List Int)), (vars.foldl grows out).length = prodV vars out.length
  | [], _ => rfl
  | k :: r, out => by
    simp only [List.foldl_cons, prodV]
    rw [foldl_grows_len r, grows, grows_len]
theorem statesL_len (vars : List Int) : (statesL vars).length = prodV vars 1 := foldl_grows_len vars [[]]
theorem many_prod {most : Nat} : ∀ (vars : List Int) (n : Nat), (∀ x ∈ vars, 1 ≤ x) → 1 ≤ n → manyF most vars (n : Int) ≤ most → ∀ k, prodV (vars.take k) n ≤ most
  | [], n, _, _, h, k => by simp only [List.take_nil, prodV]; simp only [manyF] at h; omega
  | x :: r, n, hx, hn, h, k => by
    have h1 : 1 ≤ x := hx x List.mem_cons_self
    simp only [manyF] at h
    have hmax : max x 0 = x := by omega
    rw [hmax] at h
    obtain ⟨m, rfl⟩ : ∃ m : Nat, x = (m : Int) := ⟨x.toNat, by omega⟩
    by_cases hm : (m : Int) ≤ most
    · rw [show min (m : Int) (most + 1) = (m : Int) from by omega, ← Int.natCast_mul] at h
      have hnm : n ≤ n * m := Nat.le_mul_of_pos_right n (by omega)
      by_cases hc : (most : Int) < ((n * m : Nat) : Int)
      · rw [if_pos hc] at h; omega
      · rw [if_neg hc] at h
        cases k with
        | zero => simp only [List.take_zero, prodV]; omega
        | succ k =>
          simp only [List.take_succ_cons, prodV, Int.toNat_natCast]
          exact many_prod r (n * m) (fun y hy => hx y (List.mem_cons_of_mem _ hy)) (by omega) h k
    · exfalso
      rw [show min (m : Int) (most + 1) = ((most + 1 : Nat) : Int) from by omega, ← Int.natCast_mul] at h
      have : most + 1 ≤ n * (most + 1) := Nat.le_mul_of_pos_left _ hn
      rw [if_pos (by omega)] at h
      omega
theorem stateOk_cons {y x : Int} {vs s : List Int} : StateOk (y :: vs) (x :: s) ↔ (0 ≤ x ∧ x < y) ∧ StateOk vs s := by
  constructor
  · intro h
    exact ⟨h.2 0 x y rfl rfl, by have := h.1; simpa using this, fun i a b ha hb => h.2 (i + 1) a b (by simpa using ha) (by simpa using hb)⟩
  · rintro ⟨h1, h2, h3⟩
    refine ⟨by simpa using h2, fun i a b ha hb => ?_⟩
    cases i with
    | zero => simp at ha hb; subst ha; subst hb; exact h1
    | succ i => exact h3 i a b (by simpa using ha) (by simpa using hb)
theorem stateOk_nil : StateOk [] [] := ⟨rfl, fun i a b ha => by simp at ha⟩
theorem mem_exts {n : Nat} {s t : List Int} : t ∈ exts n s ↔ ∃ x : Nat, x < n ∧ t = s ++ [(x : Int)] := by
  unfold exts
  rw [List.mem_map]
  constructor
  · rintro ⟨x, hx, rfl⟩; exact ⟨x, List.mem_range.1 hx, rfl⟩
  · rintro ⟨x, hx, rfl⟩; exact ⟨x, List.mem_range.2 hx, rfl⟩
theorem mem_foldl_grows : ∀ (vars : List Int) (out : List (List Int)) (s : List Int), s ∈ vars.foldl grows out ↔ ∃ s0 ∈ out, ∃ r, s = s0 ++ r ∧ StateOk vars r
  | [], out, s => by
    constructor
    · intro h; exact ⟨s, h, [], by simp, stateOk_nil⟩
    · rintro ⟨s0, h, r, rfl, hr⟩
      have : r = [] := List.eq_nil_of_length_eq_zero hr.1
      subst this; simpa using h
  | k :: vs, out, s => by
    simp only [List.foldl_cons]
    rw [mem_foldl_grows vs (grows out k) s]
    constructor
    · rintro ⟨s1, h1, r, rfl, hr⟩
      obtain ⟨s0, h0, h2⟩ := List.mem_flatMap.1 h1
      obtain ⟨x, hx, rfl⟩ := mem_exts.1 h2
      exact ⟨s0, h0, (x : Int) :: r, by simp, stateOk_cons.2 ⟨⟨by omega, by omega⟩, hr⟩⟩
    · rintro ⟨s0, h0, r, rfl, hr⟩
      cases r with
      | nil => have := hr.1; simp at this
      | cons x r =>
        obtain ⟨⟨h1, h2⟩, h3⟩ := stateOk_cons.1 hr
        exact ⟨s0 ++ [x], List.mem_flatMap.2 ⟨s0, h0, mem_exts.2 ⟨x.toNat, by omega, by rw [show ((x.toNat : Nat) : Int) = x from by omega]⟩⟩, r, by simp, h3⟩
theorem mem_statesL {vars s : List Int} : s ∈ statesL vars ↔ StateOk vars s := by
  unfold statesL
  rw [mem_foldl_grows]
  constructor
  · rintro ⟨s0, h0, r, rfl, hr⟩
    have : s0 = [] := by simpa using h0
    subst this; exact hr
  · intro h; exact ⟨[], by simp, s, rfl, h⟩
theorem SmallOk.ok {t : Tsk} (h : SmallOk t) : TaskOk t := h.2.2.2.1
theorem SmallOk.states {t : Tsk} (h : SmallOk t) : ∀ k, (statesL (t.vars.take k)).length ≤ 512 := fun k => by
  rw [statesL_len]
  refine many_prod (most := 512) t.vars 1 (fun x hx => ?_) (Nat.le_refl _) h.2.2.2.2 k
  obtain ⟨i, hi, rfl⟩ := List.getElem_of_mem hx
  exact (h.ok.vars i _ (List.getElem?_eq_getElem hi)).1
end
section
open Go Go.RowKit
attribute [local irreducible] ewp owp hwp hwq hws Ev Evg Fn retPost loud loudS Res1
section
variable {w : World} {A : Nat → Prop} (hA : ∀ k, A k → k < w.heap.size) {v0 v1 : Value}
include hA
omit hA in
def m_ref24_Applicable (t : Tsk) (s : List Int) : Option (List Int) := if t.ops.length ≤ 1000000 then some (appl t s) else none
theorem c_ref24_Applicable {x0 : Tsk} (h0 : Vb w A v0 x0) {x1 : List Int} (h1 : Vb w A v1 x1) {r : List Int} (hm : m_ref24_Applicable x0 x1 = some r) : Fn Try.prog 27 [v0, v1] w fun v w' => Ext w w' ∧ RowR w w' (upA A w w') 3 v r := by
  obtain ⟨hl, rfl⟩ := ite_some hm
  exact (refApplicable (h0.mono hA) (h1.mono hA) hl).mono fun v w' h => ⟨h.2, h.1.intRow⟩
end
end
section
open Go Go.RowKit
attribute [local irreducible] ewp owp hwp hwq hws Ev Evg Fn retPost loud loudS Res1
noncomputable def m_base_States (x0 : List Int) : Option (List (List Int)) :=
  bnd (rng (ρ := (List (List Int))) (fun (k24 : Nat) (a25 : Int) (s22 : (List (List Int))) => bnd (rng (ρ := Ctl (List (List Int)) (List (List Int))) (fun (k53 : Nat) (a54 : List Int) (s51 : (List (List Int))) => bnd (natI a25) fun N92 => bnd (rngN (ρ := Ctl (List (List Int)) (Ctl (List (List Int)) (List (List Int)))) (fun (k83 : Nat) (s81 : (List (List Int))) => bnd (appI 8 ([] : List Int) a54) fun u104 => bnd (appI 8 u104 [(k83 : Int)]) fun u115 => bnd (appI 24 s81 [u115]) fun u129 => some (.next u129)) N92 s51) fun res79 => fin res79 fun (s145 : (List (List Int))) => some (.next s145)) s22 0 ([] : List (List Int))) fun res49 => fin res49 fun (s151 : (List (List Int))) => some (.next s151)) x0 0 [([] : List Int)]) fun res20 => fin res20 fun (s159 : (List (List Int))) => some s159
theorem c_base_States {w : World} {A : Nat → Prop} (hA : ∀ k, A k → k < w.heap.size) {vx0 : Value} {x0 : List Int} (hx0 : Vb w A vx0 x0) {r : (List (List Int))} (hm : m_base_States x0 = some r) :
    Fn Try.prog 15 [vx0] w fun v w' => Ext w w' ∧ Vb w' (upA A w w') v r := by
 obtain ⟨O, hB, hA0⟩ := enter hA
 replace hx0 := hx0.mono hA0
 obtain ⟨A2, c3, rfl⟩ := hx0.form
 refine fn_enter Try.func15 rfl Try.ntmps15 rfl ?_
 unfold m_base_States at hm
 refine ewp_seq (ewp_region (o_as rfl rfl (o_z ?_)))
 refine ewp_seq (ewp_region (l_bslice 2 (by decide) O (xs := (([] : List Int) : List Int)) rfl rfl rfl rfl trivial (by decide) (by decide) rfl fun g4 w5 O6 S7 h8 => ?_))
 obtain ⟨O10, S11, h8⟩ := h8.freeze
 refine l_bslice 3 (by decide) O10 (xs := ([([] : List Int)] : List (List Int))) rfl rfl rfl rfl ⟨h8, trivial⟩ (by decide) (by decide) rfl fun g12 w13 O14 S15 h16 => ?_
 refine o_as rfl rfl (o_z ?_)
 refine ewp_seq (ewp_seq (ewp_region (o_mv rfl rfl (o_ln rfl rfl ?_))))
 replace hx0 := ((hx0.st S7).st S11).st S15
 have l19 : x0.length ≤ 9223372036854775807 := Nat.le_trans hx0.len.2.1 hx0.len.2.2
 have r18 : inI64 (x0.length : Int) := rngNat l19
 refine o_mv rfl rfl (o_z ?_)
 obtain ⟨res20, hL21, hm⟩ := bs hm
 refine ewp_join (aft res20 (fun (s22 : (List (List Int))) (x23 : (Option Addr × Nat)) => [(3, (.slice x23.1 s22.length x23.2))]) (fun s22 x23 w' => ∃ O' : Lab, Bs w A w' O' ∧ Vb w' (Fr 0 w' O') (.slice x23.1 s22.length x23.2) s22)) ?_ ?_
 ·
  refine ewp_block ?_
  obtain ⟨O37, S38, h16⟩ := h16.freeze
  replace hx0 := hx0.st S38
  replace hB := (((hB.st S7).st S11).st S15).st S38
  refine ewp_rng (σ := (List (List Int))) (X := (Option Addr × Nat)) (x0.length) hL21 rfl l19 (fun (s22 : (List (List Int))) (x23 : (Option Addr × Nat)) => [(3, (.slice x23.1 s22.length x23.2)), (12, (.slice A2 x0.length c3))]) _ (fun s22 x23 w' => ∃ O' : Lab, Bs w A w' O' ∧ Vb w' (Fr 0 w' O') (.slice x23.1 s22.length x23.2) s22 ∧ Vb w' (Fr 0 w' O') (.slice A2 x0.length c3) x0) _ ((some ⟨g12, 0, none⟩), 1) ⟨O37, hB, h16, hx0⟩ ⟨rfl, rfl, rfl, rfl, trivial⟩ (fun _ _ => ⟨rfl, rfl⟩) (fun _ _ => ⟨rfl, trivial⟩) (fun _ _ _ ⟨O', hB, h36, hx0⟩ => ⟨O', hB, h36⟩) ⟨rfl, rfl, rfl⟩ ⟨rfl, rfl⟩ ?_
  rintro k24 a25 s22 x23 w26 cc28 hx29 ⟨O27, hB, h36, hx0⟩ hf30 hret31 hbrk32
  have rk24 : inI64 (k24 : Int) := rngK hx29 l19
  refine ewp_seq (ewp_region ?_)
  obtain ⟨b39, o40, ce41, hA42, hl43, hd44, rfl, r46⟩ := hx0.elem' hx29
  refine o_iaE (hA := hA42) (hj := rfl) (hlt := hl43) rfl rfl rfl ?_
  refine o_ld (hc := cat0 hd44) rfl rfl ?_
  refine o_as rfl rfl (o_z ?_)
  refine ewp_seq (ewp_region (o_as rfl rfl (o_z ?_)))
  refine ewp_seq (ewp_seq (ewp_region (o_mv rfl rfl (o_ln rfl rfl ?_))))
  have l48 : s22.length ≤ 9223372036854775807 := Nat.le_trans h36.len.2.1 h36.len.2.2
  have r47 : inI64 (s22.length : Int) := rngNat l48
  refine o_mv rfl rfl (o_z ?_)
  obtain ⟨res49, hL50, hf30⟩ := bs hf30
  refine ewp_join (aft res49 (fun (s51 : (List (List Int))) (x52 : (Option Addr × Nat)) => [(6, (.slice x52.1 s51.length x52.2)), (12, (.slice A2 x0.length c3)), (13, (.int .i64 (x0.length : Int))), (14, (.int .i64 (k24 : Int)))]) (fun s51 x52 w' => ∃ O' : Lab, Bs w A w' O' ∧ Rw 5 w' O' 22 (.slice x52.1 s51.length x52.2) s51 ∧ Vb w' (Fr 0 w' O') (.slice A2 x0.length c3) x0)) ?_ ?_
  ·
   refine ewp_block (ewp_rng (σ := (List (List Int))) (X := (Option Addr × Nat)) (s22.length) hL50 rfl l48 (fun (s51 : (List (List Int))) (x52 : (Option Addr × Nat)) => [(5, (.int .i64 a25)), (6, (.slice x52.1 s51.length x52.2)), (12, (.slice A2 x0.length c3)), (13, (.int .i64 (x0.length : Int))), (14, (.int .i64 (k24 : Int))), (18, (.slice x23.1 s22.length x23.2))]) _ (fun s51 x52 w' => ∃ O' : Lab, Bs w A w' O' ∧ Rw 5 w' O' 22 (.slice x52.1 s51.length x52.2) s51 ∧ Vb w' (Fr 0 w' O') (.slice A2 x0.length c3) x0 ∧ Vb w' (Fr 0 w' O') (.slice x23.1 s22.length x23.2) s22) _ (none, 0) ⟨O27, hB, (Rw.nil 5 (by decide)), hx0, h36⟩ ⟨rfl, rfl, rfl, rfl, rfl, rfl, rfl, rfl, trivial⟩ (fun _ _ => ⟨rfl, rfl⟩) (fun _ _ => ⟨rfl, rfl, rfl, rfl, trivial⟩) (fun _ _ _ ⟨O', hB, h66, hx0, h36⟩ => ⟨O', hB, h66, hx0⟩) ⟨rfl, rfl, rfl⟩ ⟨rfl, rfl⟩ ?_)
   rintro k53 a54 s51 x52 w55 cc57 hx58 ⟨O56, hB, h66, hx0, h36⟩ hf59 hret60 hbrk61
   have rk53 : inI64 (k53 : Int) := rngK hx58 l48
   refine ewp_seq (ewp_region ?_)
   obtain ⟨b68, o69, ce70, hA71, hl72, hd73, v75, rfl, h76⟩ := h36.elem' hx58
   replace h76 := Vb.of_slice h76
   obtain ⟨A77, c78, rfl⟩ := h76.form
   refine o_iaE (hA := hA71) (hj := rfl) (hlt := hl72) rfl rfl rfl ?_
   refine o_ld (hc := cat0 hd73) rfl rfl ?_
   refine o_as rfl rfl (o_z ?_)
   refine ewp_seq (ewp_region (o_mv rfl rfl (o_mv rfl rfl (o_z ?_))))
   obtain ⟨N92, hN93, hf59⟩ := bs hf59
   replace hN93 := natI_some hN93
   obtain ⟨res79, hL80, hf59⟩ := bs hf59
   refine ewp_join (aft res79 (fun (s81 : (List (List Int))) (x82 : (Option Addr × Nat)) => [(5, (.int .i64 a25)), (6, (.slice x82.1 s81.length x82.2)), (12, (.slice A2 x0.length c3)), (13, (.int .i64 (x0.length : Int))), (14, (.int .i64 (k24 : Int))), (18, (.slice x23.1 s22.length x23.2)), (19, (.int .i64 (s22.length : Int))), (20, (.int .i64 (k53 : Int)))]) (fun s81 x82 w' => ∃ O' : Lab, Bs w A w' O' ∧ Rw 5 w' O' 22 (.slice x82.1 s81.length x82.2) s81 ∧ Vb w' (Fr 0 w' O') (.slice A2 x0.length c3) x0 ∧ Vb w' (Fr 0 w' O') (.slice x23.1 s22.length x23.2) s22)) ?_ ?_
   ·
    refine ewp_block (ewp_rngN (σ := (List (List Int))) (X := (Option Addr × Nat)) N92 hL80 (natI_le hN93 r46) (fun (s81 : (List (List Int))) (x82 : (Option Addr × Nat)) => [(5, (.int .i64 a25)), (6, (.slice x82.1 s81.length x82.2)), (8, (.slice A77 a54.length c78)), (12, (.slice A2 x0.length c3)), (13, (.int .i64 (x0.length : Int))), (14, (.int .i64 (k24 : Int))), (18, (.slice x23.1 s22.length x23.2)), (19, (.int .i64 (s22.length : Int))), (20, (.int .i64 (k53 : Int)))]) _ (fun s81 x82 w' => ∃ O' : Lab, Bs w A w' O' ∧ Rw 5 w' O' 22 (.slice x82.1 s81.length x82.2) s81 ∧ Vb w' (Fr 0 w' O') (.slice A77 a54.length c78) a54 ∧ Vb w' (Fr 0 w' O') (.slice A2 x0.length c3) x0 ∧ Vb w' (Fr 0 w' O') (.slice x23.1 s22.length x23.2) s22) _ (x52.1, x52.2) ⟨O56, hB, h66, h76, hx0, h36⟩ ⟨rfl, (congrArg (fun z => some (Value.int .i64 z)) hN93), rfl, rfl, rfl, rfl, rfl, rfl, rfl, rfl, rfl, trivial⟩ (fun _ _ => ⟨rfl, rfl⟩) (fun _ _ => ⟨rfl, rfl, rfl, rfl, rfl, rfl, rfl, rfl, trivial⟩) (fun _ _ _ ⟨O', hB, h96, h76, hx0, h36⟩ => ⟨O', hB, h96, hx0, h36⟩) ⟨rfl, rfl, rfl⟩ ⟨rfl, rfl⟩ ?_)
    rintro k83 s81 x82 w85 cc87 hx88 ⟨O86, hB, h96, h76, hx0, h36⟩ hf89 hret90 hbrk91
    have rk83 : inI64 (k83 : Int) := rngKN hx88 (natI_le hN93 r46)
    refine ewp_seq (ewp_region (o_mv rfl rfl (o_as rfl rfl (o_z ?_))))
    refine ewp_region (o_mv rfl rfl (l_bslice 4 (by decide) O86 (xs := (([] : List Int) : List Int)) rfl rfl rfl rfl trivial (by decide) (by decide) rfl fun g98 w99 O100 S101 h102 => ?_))
    refine o_mv rfl rfl ?_
    obtain ⟨u104, e105, hf89⟩ := bs hf89
    obtain ⟨e105, e106, e107⟩ := appI_some e105
    replace h76 := h76.st S101
    refine l_append rfl h102 (h76.rd) rfl rfl (by decide) e106 e107 rfl fun A108 c109 w110 O111 S112 h113 => ?_
    rw [← e105] at h113 ⊢
    refine o_mv rfl rfl ?_
    obtain ⟨u115, e116, hf89⟩ := bs hf89
    obtain ⟨e116, e117, e118⟩ := appI_some e116
    refine l_append1 rfl (a := (k83 : Int)) h113 (vInt rk83) (fun _ => rfl) rfl (by decide) (by decide) e117 e118 ⟨rfl, rfl⟩ fun g119 A120 c121 w122 O123 S124 h125 => ?_
    rw [← e116] at h125 ⊢
    obtain ⟨O127, S128, h125⟩ := h125.freeze
    obtain ⟨u129, e130, hf89⟩ := bs hf89
    obtain ⟨e130, e131, e132⟩ := appI_some e130
    replace h96 := (((h96.st S101).st S112).st S124).st S128
    refine l_append1 rfl (a := u115) h96 h125 (fun _ => rfl) rfl (by decide) (by decide) e131 e132 ⟨rfl, rfl⟩ fun g133 A134 c135 w136 O137 S138 h139 => ?_
    rw [← e130] at h139 ⊢
    refine o_as rfl rfl (o_z ?_)
    obtain rfl := sm hf89
    replace hx0 := ((((hx0.st S101).st S112).st S124).st S128).st S138
    replace hB := ((((hB.st S101).st S112).st S124).st S128).st S138
    replace h36 := ((((h36.st S101).st S112).st S124).st S128).st S138
    replace h76 := (((h76.st S112).st S124).st S128).st S138
    exact show Exists _ from ⟨_, (A134, c135), rfl, ⟨rfl, rfl, rfl, rfl, rfl, rfl, rfl, rfl, rfl, rfl, rfl, trivial⟩, _, hB, h139, h76, hx0, h36⟩
   rintro l141 w142 ⟨s145, x146, rfl, hs144, O143, hB, h96, hx0, h36⟩
   replace hf59 := fin_done hf59
   obtain rfl := sm hf59
   exact show Exists _ from ⟨_, (x146.1, x146.2), rfl, ⟨(subs_lk hs144 _ _ rfl), (subs_lk hs144 _ _ rfl), (subs_lk hs144 _ _ rfl), (subs_lk hs144 _ _ rfl), (subs_lk hs144 _ _ rfl), (subs_lk hs144 _ _ rfl), (subs_lk hs144 _ _ rfl), (subs_lk hs144 _ _ rfl), trivial⟩, _, hB, h96, hx0, h36⟩
  rintro l147 w148 ⟨s151, x152, rfl, hs150, O149, hB, h66, hx0⟩
  replace hf30 := fin_done hf30
  refine ewp_sub _ hs150 ?_
  refine ewp_region (o_mv rfl rfl (o_as rfl rfl (o_z ?_)))
  obtain ⟨O153, S154, h66⟩ := h66.freeze
  obtain rfl := sm hf30
  replace hx0 := hx0.st S154
  replace hB := hB.st S154
  exact show Exists _ from ⟨_, (x152.1, x152.2), rfl, ⟨rfl, rfl, rfl, rfl, trivial⟩, _, hB, h66, hx0⟩
 replace hB := ((hB.st S7).st S11).st S15
 rintro l155 w156 ⟨s159, x160, rfl, hs158, O157, hB, h36⟩
 replace hm := fin_done hm
 refine ewp_sub _ hs158 ?_
 refine ewp_seq (ewp_region (o_mv rfl rfl (o_as rfl rfl (o_z ?_))))
 refine ewp_ret ?_
 obtain rfl := sm hm
 exact ret1v rfl (res_tmp rfl) ⟨hB.ext, (Vb.mono (F := Fr 0 w156 O157) h36 hB.out)⟩
noncomputable def m_base_Apply (x0 : Tsk) (x1 : List Int) (x2 : Int) : Option ((List Int) × Bool) :=
  bnd (if x2 < 0 then (some true) else (if (x0.ops.length : Int) ≤ x2 then (some true) else (bnd (atI x0.ops x2) fun a36 => bnd (m_base_Holds a36.pre x1) fun q57 => if q57 = true then some false else some true)) : Option Bool) fun y28 => if y28 = true then (some (([] : List Int), false)) else (bnd (appI 8 ([] : List Int) x1) fun u75 => bnd (atI x0.ops x2) fun a86 => bnd (rng (ρ := (List Int) × Bool) (fun (k113 : Nat) (a114 : Eff) (s111 : (List Int)) => bnd (m_base_Holds a114.cond x1) fun q148 => if q148 = true then bnd (atI s111 a114.var) fun a155 => some (.next (s111.set (a114.var : Int).toNat a114.val)) else some (.next s111)) a86.effs 0 u75) fun res109 => fin res109 fun (s173 : (List Int)) => some (s173, true))
theorem c_base_Apply {w : World} {A : Nat → Prop} (hA : ∀ k, A k → k < w.heap.size) {vx0 : Value} {x0 : Tsk} (hx0 : Vb w A vx0 x0) {vx1 : Value} {x1 : List Int} (hx1 : Vb w A vx1 x1) {x2 : Int} (rx2 : inI64 x2) {r : (List Int) × Bool} (hm : m_base_Apply x0 x1 x2 = some r) :
    Fn Try.prog 33 [vx0, vx1, (.int .i64 x2)] w fun v w' => Ext w w' ∧ T2 w' (upA A w w') v r := by
 obtain ⟨O, hB, hA0⟩ := enter hA
 replace hx0 := hx0.mono hA0
 obtain ⟨cs4, rfl, v5, v6, v7, v8, rfl, h9, h12, h15, h18⟩ := hx0
 obtain ⟨A10, c11, rfl⟩ := h9.form
 obtain ⟨A13, c14, rfl⟩ := h12.form
 obtain ⟨A16, c17, rfl⟩ := h15.form
 obtain ⟨A19, c20, rfl⟩ := h18.form
 replace hx1 := hx1.mono hA0
 obtain ⟨A21, c22, rfl⟩ := hx1.form
 refine fn_enter Try.func33 rfl Try.ntmps33 rfl ?_
 unfold m_base_Apply at hm
 refine ewp_seq (ewp_region (l_box 2 O rfl rfl fun g23 w24 O25 S26 h27 => ?_))
 replace h27 : Lc 2 w24 O25 g23 26 [(.slice A10 x0.vars.length c11), (.slice A13 x0.init.length c14), (.slice A16 x0.goal.length c17), (.slice A19 x0.ops.length c20)] := h27
 refine o_as rfl rfl (o_as rfl rfl (o_z ?_))
 refine ewp_seq (ewp_seq ?_)
 obtain ⟨y28, hy29, hm⟩ := bs hm
 refine ewp_join (fun l' w' => ∃ (x31 : Unit) (O' : Lab), subs l' [(1, (.slice A21 x1.length c22)), (2, (.int .i64 x2)), (3, (.pointer (some ⟨g23, 0, none⟩))), (30, (.bool y28))] ∧ Bs w A w' O' ∧ Vb w' (Fr 0 w' O') (.slice A21 x1.length c22) x1 ∧ Lc 2 w' O' g23 26 [(.slice A10 x0.vars.length c11), (.slice A13 x0.init.length c14), (.slice A16 x0.goal.length c17), (.slice A19 x0.ops.length c20)] ∧ Vb w' (Fr 0 w' O') (.slice A10 x0.vars.length c11) x0.vars ∧ Vb w' (Fr 0 w' O') (.slice A13 x0.init.length c14) x0.init ∧ Vb w' (Fr 0 w' O') (.slice A16 x0.goal.length c17) x0.goal ∧ Vb w' (Fr 0 w' O') (.slice A19 x0.ops.length c20) x0.ops) ?_ ?_
 ·
  refine ewp_region (o_mv rfl rfl (o_ltS rfl rfl rfl (fun c32 => ?_) fun c32 => ?_))
  ·
   replace hy29 := ip hy29 c32
   refine o_mv rfl rfl (owp_no rfl rfl rfl rfl (owp_no rfl rfl rfl rfl (owp_no rfl rfl rfl rfl (owp_no rfl rfl rfl rfl (owp_no rfl rfl rfl rfl (o_pt rfl rfl rfl (o_mv rfl rfl (owp_no rfl rfl rfl rfl (owp_no rfl rfl rfl rfl (owp_no rfl rfl rfl rfl (owp_no rfl rfl rfl rfl (owp_no rfl rfl rfl rfl (owp_no rfl rfl rfl rfl (owp_no rfl rfl rfl rfl ?_))))))))))))))
   refine owp_no rfl rfl rfl rfl (owp_no rfl rfl rfl rfl (o_pt rfl rfl rfl (o_z ?_)))
   obtain rfl := sm hy29
   replace hB := hB.st S26
   replace hx1 := hx1.st S26
   replace h9 := h9.st S26
   replace h12 := h12.st S26
   replace h15 := h15.st S26
   replace h18 := h18.st S26
   exact ⟨(), _, ⟨rfl, rfl, rfl, rfl, trivial⟩, hB, hx1, h27, h9, h12, h15, h18⟩
  replace hy29 := im hy29 c32
  refine o_mv rfl rfl (owp_yes rfl rfl (o_mv rfl rfl (owp_yes rfl rfl (o_fa rfl rfl (owp_yes rfl rfl (o_ld (hc := Blk.cell (i := 3) (h27.1) rfl) rfl rfl ?_))))))
  refine owp_yes rfl rfl (o_ln rfl rfl ?_)
  replace h18 := h18.st S26
  have l34 : x0.ops.length ≤ 9223372036854775807 := Nat.le_trans h18.len.2.1 h18.len.2.2
  have r33 : inI64 (x0.ops.length : Int) := rngNat l34
  refine owp_yes rfl rfl (o_geS rfl rfl rfl (fun c35 => ?_) fun c35 => ?_)
  ·
   replace hy29 := ip hy29 c35
   refine o_pf rfl rfl rfl (o_mv rfl rfl (owp_no rfl rfl rfl rfl (owp_no rfl rfl rfl rfl (owp_no rfl rfl rfl rfl (owp_no rfl rfl rfl rfl (owp_no rfl rfl rfl rfl (owp_no rfl rfl rfl rfl (owp_no rfl rfl rfl rfl (owp_no rfl rfl rfl rfl (owp_no rfl rfl rfl rfl (o_pt rfl rfl rfl (o_z ?_))))))))))))
   obtain rfl := sm hy29
   replace hB := hB.st S26
   replace hx1 := hx1.st S26
   replace h9 := h9.st S26
   replace h12 := h12.st S26
   replace h15 := h15.st S26
   exact ⟨(), _, ⟨rfl, rfl, rfl, rfl, trivial⟩, hB, hx1, h27, h9, h12, h15, h18⟩
  replace hy29 := im hy29 c35
  refine o_pf rfl rfl rfl (o_mv rfl rfl (owp_yes rfl rfl (o_fa rfl rfl (owp_yes rfl rfl (o_ld (hc := Blk.cell (i := 3) (h27.1) rfl) rfl rfl ?_)))))
  refine owp_yes rfl rfl (o_mv rfl rfl (owp_yes rfl rfl ?_))
  obtain ⟨a36, e37, hy29⟩ := bs hy29
  obtain ⟨p39, x38⟩ := atI_some' e37
  obtain ⟨b40, o41, ce42, hA43, hl44, hd45, v47, v48, rfl, h49, h52, r55, z56⟩ := h18.elem' x38
  obtain ⟨A50, c51, rfl⟩ := h49.form
  obtain ⟨A53, c54, rfl⟩ := h52.form
  refine o_iaE (hA := hA43) (hj := (Int.toNat_of_nonneg p39).symm) (hlt := hl44) rfl rfl rfl ?_
  refine owp_yes rfl rfl (o_fa rfl rfl (owp_yes rfl rfl (o_ld (hc := cat2 hd45) rfl rfl ?_)))
  refine owp_yes rfl rfl (o_mv rfl rfl (owp_yes rfl rfl ?_))
  obtain ⟨q57, e58, hy29⟩ := bs hy29
  replace hx1 := hx1.st S26
  refine l_callA (O := O25) (A := All w24) (R := fun w' F v => Vb w' F v q57) (c_base_Holds (fun _ h => h) (Vb.mono (F := Fr 0 w24 O25) h49 Fr.lt) (Vb.mono (F := Fr 0 w24 O25) hx1 Fr.lt) e58) rfl rfl fun v63 w59 O60 S61 h62 => ?_
  obtain rfl := h62.bool
  cases q57
  case false =>
   replace hy29 := iF hy29
   refine owp_yes rfl rfl (o_nf rfl rfl (o_pf rfl rfl rfl (o_z ?_)))
   obtain rfl := sm hy29
   replace hB := (hB.st S26).st S61
   replace hx1 := hx1.st S61
   replace h9 := (h9.st S26).st S61
   replace h12 := (h12.st S26).st S61
   replace h15 := (h15.st S26).st S61
   replace h18 := h18.st S61
   replace h27 := h27.st S61
   exact ⟨(), _, ⟨rfl, rfl, rfl, rfl, trivial⟩, hB, hx1, h27, h9, h12, h15, h18⟩
  replace hy29 := iT hy29
  refine owp_yes rfl rfl (o_nt rfl rfl (o_pf rfl rfl rfl (o_z ?_)))
  obtain rfl := sm hy29
  replace hB := (hB.st S26).st S61
  replace hx1 := hx1.st S61
  replace h9 := (h9.st S26).st S61
  replace h12 := (h12.st S26).st S61
  replace h15 := (h15.st S26).st S61
  replace h18 := h18.st S61
  replace h27 := h27.st S61
  exact ⟨(), _, ⟨rfl, rfl, rfl, rfl, trivial⟩, hB, hx1, h27, h9, h12, h15, h18⟩
 replace hB := hB.st S26
 replace hx1 := hx1.st S26
 replace h9 := h9.st S26
 replace h12 := h12.st S26
 replace h15 := h15.st S26
 replace h18 := h18.st S26
 rintro l64 w65 ⟨x31, O66, hs67, hB, hx1, h27, h9, h12, h15, h18⟩
 refine ewp_sub _ hs67 ?_
 refine ewp_cond rfl (fun c68 => ?_) (fun c68 => ?_)
 ·
  replace hm := ip hm c68
  refine ewp_seq (ewp_region (o_as rfl rfl (o_as rfl rfl (o_z ?_))))
  refine ewp_ret ?_
  obtain rfl := sm hm
  exact ret2 rfl (res_tmp rfl) (res_tmp rfl) ⟨hB.ext, _, _, rfl, (Vb.mono (F := Fr 0 w65 O66) (Vb.nil _ _) hB.out), vBool⟩
 replace hm := im' hm c68
 refine ewp_skip (ewp_seq (ewp_region (l_bslice 3 (by decide) O66 (xs := (([] : List Int) : List Int)) rfl rfl rfl rfl trivial (by decide) (by decide) rfl fun g69 w70 O71 S72 h73 => ?_)))
 refine o_mv rfl rfl ?_
 obtain ⟨u75, e76, hm⟩ := bs hm
 obtain ⟨e76, e77, e78⟩ := appI_some e76
 replace hx1 := hx1.st S72
 refine l_append rfl h73 (hx1.rd) rfl rfl (by decide) e77 e78 rfl fun A79 c80 w81 O82 S83 h84 => ?_
 rw [← e76] at h84 ⊢
 refine o_as rfl rfl (o_z ?_)
 refine ewp_seq (ewp_seq (ewp_region (o_fa rfl rfl ?_)))
 replace h27 := (h27.st S72).st S83
 refine o_ld (hc := Blk.cell (i := 3) (h27.1) rfl) rfl rfl ?_
 refine o_mv rfl rfl ?_
 obtain ⟨a86, e87, hm⟩ := bs hm
 obtain ⟨p89, x88⟩ := atI_some' e87
 replace h18 := (h18.st S72).st S83
 obtain ⟨b90, o91, ce92, hA93, hl94, hd95, v97, v98, rfl, h99, h102, r105, z106⟩ := h18.elem' x88
 obtain ⟨A100, c101, rfl⟩ := h99.form
 obtain ⟨A103, c104, rfl⟩ := h102.form
 refine o_iaE (hA := hA93) (hj := (Int.toNat_of_nonneg p89).symm) (hlt := hl94) rfl rfl rfl ?_
 refine o_fa rfl rfl (o_ld (hc := cat3 hd95) rfl rfl ?_)
 refine o_ln rfl rfl ?_
 have l108 : a86.effs.length ≤ 9223372036854775807 := Nat.le_trans h102.len.2.1 h102.len.2.2
 have r107 : inI64 (a86.effs.length : Int) := rngNat l108
 refine o_mv rfl rfl (o_z ?_)
 obtain ⟨res109, hL110, hm⟩ := bs hm
 refine ewp_join (aft res109 (fun (s111 : (List Int)) (x112 : Unit) => [(8, (.slice A79 u75.length c80))]) (fun s111 x112 w' => ∃ O' : Lab, Bs w A w' O' ∧ Rw 3 w' O' 3 (.slice A79 u75.length c80) s111)) ?_ ?_
 ·
  refine ewp_block ?_
  replace hB := (hB.st S72).st S83
  replace hx1 := hx1.st S83
  refine ewp_rng (σ := (List Int)) (X := Unit) (a86.effs.length) hL110 rfl l108 (fun (s111 : (List Int)) (x112 : Unit) => [(1, (.slice A21 x1.length c22)), (8, (.slice A79 u75.length c80)), (39, (.slice A103 a86.effs.length c104))]) _ (fun s111 x112 w' => ∃ O' : Lab, Bs w A w' O' ∧ Vb w' (Fr 0 w' O') (.slice A21 x1.length c22) x1 ∧ Rw 3 w' O' 3 (.slice A79 u75.length c80) s111 ∧ Vb w' (Fr 0 w' O') (.slice A103 a86.effs.length c104) a86.effs) _ () ⟨O82, hB, hx1, h84, h102⟩ ⟨rfl, rfl, rfl, rfl, rfl, trivial⟩ (fun _ _ => ⟨rfl, rfl⟩) (fun _ _ => ⟨rfl, trivial⟩) (fun _ _ _ ⟨O', hB, hx1, h126, h102⟩ => ⟨O', hB, h126⟩) ⟨rfl, rfl, rfl⟩ ⟨rfl, rfl⟩ ?_
  rintro k113 a114 s111 x112 w115 cc117 hx118 ⟨O116, hB, hx1, h126, h102⟩ hf119 hret120 hbrk121
  have rk113 : inI64 (k113 : Int) := rngK hx118 l108
  refine ewp_seq (ewp_region ?_)
  obtain ⟨b128, o129, ce130, hA131, hl132, hd133, v135, rfl, h136, r139, r140⟩ := h102.elem' hx118
  obtain ⟨A137, c138, rfl⟩ := h136.form
  refine o_iaE (hA := hA131) (hj := rfl) (hlt := hl132) rfl rfl rfl ?_
  refine o_la (hl := rfl) (hc := hd133) rfl rfl ?_
  refine l_alloc 4 O116 rfl fun g141 w142 O143 S144 h145 => ?_
  refine l_store h145 rfl rfl rfl (nle_b rfl) (allOne rfl) fun w146 S147 h145 => ?_
  replace h145 : Lc 4 w146 O143 g141 52 [(.slice A137 a114.cond.length c138), (.int .i64 a114.var), (.int .i64 a114.val)] := h145
  refine o_z ?_
  refine ewp_seq (ewp_region (o_fa rfl rfl (o_ld (hc := Blk.cell (i := 0) (h145.1) rfl) rfl rfl ?_)))
  refine o_mv rfl rfl ?_
  obtain ⟨q148, e149, hf119⟩ := bs hf119
  replace hx1 := (hx1.st S144).st S147
  replace h136 := (h136.st S144).st S147
  refine l_callA (O := O143) (A := All w146) (R := fun w' F v => Vb w' F v q148) (c_base_Holds (fun _ h => h) (Vb.mono (F := Fr 0 w146 O143) h136 Fr.lt) (Vb.mono (F := Fr 0 w146 O143) hx1 Fr.lt) e149) rfl rfl fun v154 w150 O151 S152 h153 => ?_
  obtain rfl := h153.bool
  cases q148
  case false =>
   replace hf119 := iF hf119
   refine o_z ?_
   refine ewp_false rfl (ewp_skip ?_)
   obtain rfl := sm hf119
   replace hB := ((hB.st S144).st S147).st S152
   replace hx1 := hx1.st S152
   replace h102 := ((h102.st S144).st S147).st S152
   replace h126 := ((h126.st S144).st S147).st S152
   exact show Exists _ from ⟨_, (), rfl, ⟨rfl, rfl, rfl, rfl, rfl, trivial⟩, _, hB, hx1, h126, h102⟩
  replace hf119 := iT hf119
  refine o_z ?_
  refine ewp_true rfl (ewp_region (o_mv rfl rfl (o_fa rfl rfl ?_)))
  replace h145 := h145.st S152
  refine o_ld (hc := Blk.cell (i := 1) (h145.1) rfl) rfl rfl ?_
  refine o_fa rfl rfl (o_ld (hc := Blk.cell (i := 2) (h145.1) rfl) rfl rfl ?_)
  obtain ⟨a155, e156, hf119⟩ := bs hf119
  obtain ⟨p158, x157⟩ := atI_some' e156
  replace h126 := ((h126.st S144).st S147).st S152
  obtain ⟨b159, o160, ce161, hA162, hl163, hd164, rfl, r166⟩ := h126.elem x157
  refine o_iaE (hA := hA162) (hj := (Int.toNat_of_nonneg p158).symm) (hlt := hl163) rfl rfl rfl ?_
  refine l_setE rfl h126 (a := a114.val) (vInt r140) hA162 rfl rfl (lt_of_get x157) fun w167 S168 h126 => ?_
  refine o_z ?_
  obtain rfl := sm hf119
  replace hB := (((hB.st S144).st S147).st S152).st S168
  replace hx1 := (hx1.st S152).st S168
  replace h102 := (((h102.st S144).st S147).st S152).st S168
  exact show Exists _ from ⟨_, (), rfl, ⟨rfl, rfl, rfl, rfl, rfl, trivial⟩, _, hB, hx1, h126, h102⟩
 replace hB := (hB.st S72).st S83
 rintro l169 w170 ⟨s173, x174, rfl, hs172, O171, hB, h126⟩
 replace hm := fin_done hm
 refine ewp_sub _ hs172 ?_
 refine ewp_seq (ewp_region (o_mv rfl rfl (o_as rfl rfl (o_as rfl rfl (o_z ?_)))))
 refine ewp_ret ?_
 obtain ⟨O175, S176, h126⟩ := h126.freeze
 obtain rfl := sm hm
 replace hB := hB.st S176
 exact ret2 rfl (res_tmp rfl) (res_tmp rfl) ⟨hB.ext, _, _, rfl, (Vb.mono (F := Fr 0 w170 O175) h126 hB.out), vBool⟩
noncomputable def m_succgen_Generator_Successors (x0 : Option Gnr) (x1 : List Int) : Option (List Suc) :=
  bnd (m_succgen_Generator_Applicable x0 x1) fun q7 => bnd (rng (ρ := (List Suc)) (fun (k23 : Nat) (a24 : Int) (s21 : (List Suc)) => bnd (m_slices_Clone_Lint_int x1) fun q46 => bnd (x0) fun o56 => bnd (atI o56.t.ops a24) fun a88 => bnd (rng (ρ := Ctl (List Suc) (List Suc)) (fun (k115 : Nat) (a116 : Eff) (s113 : (List Int)) => bnd (m_task_Holds a116.cond x1) fun q150 => if q150 = true then bnd (atI s113 a116.var) fun a157 => some (.next (s113.set (a116.var : Int).toNat a116.val)) else some (.next s113)) a88.effs 0 q46) fun res111 => fin res111 fun (s175 : (List Int)) => bnd (appI 32 s21 [(⟨a24, s175⟩ : Suc)]) fun u179 => some (.next u179)) q7 0 ([] : List Suc)) fun res19 => fin res19 fun (s195 : (List Suc)) => some s195
theorem c_succgen_Generator_Successors {w : World} {A : Nat → Prop} (hA : ∀ k, A k → k < w.heap.size) {vx0 : Value} {x0 : Option Gnr} (hx0 : Vb w A vx0 x0) {vx1 : Value} {x1 : List Int} (hx1 : Vb w A vx1 x1) {r : (List Suc)} (hm : m_succgen_Generator_Successors x0 x1 = some r) :
    Fn Try.prog 20 [vx0, vx1] w fun v w' => Ext w w' ∧ Vb w' (upA A w w') v r := by
 obtain ⟨O, hB, hA0⟩ := enter hA
 replace hx0 := hx0.mono hA0
 obtain ⟨p3, rfl, hq4⟩ := hx0.ptr
 replace hx1 := hx1.mono hA0
 obtain ⟨A5, c6, rfl⟩ := hx1.form
 refine fn_enter Try.func20 rfl Try.ntmps20 rfl ?_
 unfold m_succgen_Generator_Successors at hm
 refine ewp_seq (ewp_region (o_as rfl rfl (o_z ?_)))
 refine ewp_seq (ewp_region (o_as rfl rfl (o_z ?_)))
 refine ewp_seq (ewp_seq (ewp_region (o_mv rfl rfl (o_mv rfl rfl ?_))))
 obtain ⟨q7, e8, hm⟩ := bs hm
 refine l_callRow 2 (by decide) (O := O) (c_succgen_Generator_Applicable Fr.lt hx0 hx1 e8) rfl rfl fun A14 c15 w9 O10 S11 h12 => ?_
 refine o_ln rfl rfl ?_
 have l18 : q7.length ≤ 9223372036854775807 := Nat.le_trans h12.len.2.1 h12.len.2.2
 have r17 : inI64 (q7.length : Int) := rngNat l18
 refine o_mv rfl rfl (o_z ?_)
 obtain ⟨res19, hL20, hm⟩ := bs hm
 refine ewp_join (aft res19 (fun (s21 : (List Suc)) (x22 : (Option Addr × Nat)) => [(5, (.slice x22.1 s21.length x22.2))]) (fun s21 x22 w' => ∃ O' : Lab, Bs w A w' O' ∧ Rw 5 w' O' 56 (.slice x22.1 s21.length x22.2) s21)) ?_ ?_
 ·
  refine ewp_block ?_
  replace hx0 := hx0.st S11
  replace hB := hB.st S11
  replace hx1 := hx1.st S11
  refine ewp_rng (σ := (List Suc)) (X := (Option Addr × Nat)) (q7.length) hL20 rfl l18 (fun (s21 : (List Suc)) (x22 : (Option Addr × Nat)) => [(0, (.pointer p3)), (1, (.slice A5 x1.length c6)), (5, (.slice x22.1 s21.length x22.2)), (13, (.slice A14 q7.length c15))]) _ (fun s21 x22 w' => ∃ O' : Lab, Bs w A w' O' ∧ Vb w' (Fr 0 w' O') (.pointer p3) x0 ∧ Vb w' (Fr 0 w' O') (.slice A5 x1.length c6) x1 ∧ Rw 5 w' O' 56 (.slice x22.1 s21.length x22.2) s21 ∧ Rw 2 w' O' 3 (.slice A14 q7.length c15) q7) _ (none, 0) ⟨O10, hB, hx0, hx1, (Rw.nil 5 (by decide)), h12⟩ ⟨rfl, rfl, rfl, rfl, rfl, rfl, trivial⟩ (fun _ _ => ⟨rfl, rfl⟩) (fun _ _ => ⟨rfl, trivial⟩) (fun _ _ _ ⟨O', hB, hx0, hx1, h36, h12⟩ => ⟨O', hB, h36⟩) ⟨rfl, rfl, rfl⟩ ⟨rfl, rfl⟩ ?_
  rintro k23 a24 s21 x22 w25 cc27 hx28 ⟨O26, hB, hx0, hx1, h36, h12⟩ hf29 hret30 hbrk31
  have rk23 : inI64 (k23 : Int) := rngK hx28 l18
  refine ewp_seq (ewp_region ?_)
  obtain ⟨b38, o39, ce40, hA41, hl42, hd43, rfl, r45⟩ := h12.elem hx28
  refine o_iaE (hA := hA41) (hj := rfl) (hlt := hl42) rfl rfl rfl ?_
  refine o_ld (hc := cat0 hd43) rfl rfl ?_
  refine o_as rfl rfl (o_z ?_)
  refine ewp_seq (ewp_region (o_mv rfl rfl ?_))
  obtain ⟨q46, e47, hf29⟩ := bs hf29
  refine l_callRow 3 (by decide) (O := O26) (c_slices_Clone_Lint_int Fr.lt hx1 e47) rfl rfl fun A53 c54 w48 O49 S50 h51 => ?_
  refine o_as rfl rfl (o_z ?_)
  refine ewp_seq (ewp_seq (ewp_region (o_mv rfl rfl ?_)))
  obtain ⟨o56, e57, hf29⟩ := bs hf29
  obtain ⟨ad59, hp58⟩ := some_of_isNone (hq4.trans (by rw [e57]; rfl))
  refine o_ncE (hA := hp58) rfl rfl ?_
  replace hx0 := hx0.st S50
  obtain ⟨b84, v67, v71, v75, v79, v83, hA85, hF86, hd87, h68, h72, h76, h80⟩ := Gnr_open hx0 e57
  obtain ⟨A69, c70, rfl⟩ := h68.form
  obtain ⟨A73, c74, rfl⟩ := h72.form
  obtain ⟨A77, c78, rfl⟩ := h76.form
  obtain ⟨A81, c82, rfl⟩ := h80.form
  refine o_faE (hA := hA85) rfl rfl ?_
  refine o_fa rfl rfl (o_ld (hc := cat3 hd87) rfl rfl ?_)
  refine o_mv rfl rfl ?_
  obtain ⟨a88, e89, hf29⟩ := bs hf29
  obtain ⟨p91, x90⟩ := atI_some' e89
  obtain ⟨b92, o93, ce94, hA95, hl96, hd97, v99, v100, rfl, h101, h104, r107, z108⟩ := h80.elem' x90
  obtain ⟨A102, c103, rfl⟩ := h101.form
  obtain ⟨A105, c106, rfl⟩ := h104.form
  refine o_iaE (hA := hA95) (hj := (Int.toNat_of_nonneg p91).symm) (hlt := hl96) rfl rfl rfl ?_
  refine o_fa rfl rfl (o_ld (hc := cat3 hd97) rfl rfl ?_)
  refine o_ln rfl rfl ?_
  have l110 : a88.effs.length ≤ 9223372036854775807 := Nat.le_trans h104.len.2.1 h104.len.2.2
  have r109 : inI64 (a88.effs.length : Int) := rngNat l110
  refine o_mv rfl rfl (o_z ?_)
  obtain ⟨res111, hL112, hf29⟩ := bs hf29
  refine ewp_join (aft res111 (fun (s113 : (List Int)) (x114 : Unit) => [(0, (.pointer p3)), (1, (.slice A5 x1.length c6)), (5, (.slice x22.1 s21.length x22.2)), (7, (.int .i64 a24)), (8, (.slice A53 q46.length c54)), (13, (.slice A14 q7.length c15)), (14, (.int .i64 (q7.length : Int))), (15, (.int .i64 (k23 : Int)))]) (fun s113 x114 w' => ∃ O' : Lab, Bs w A w' O' ∧ Vb w' (Fr 0 w' O') (.pointer p3) x0 ∧ Vb w' (Fr 0 w' O') (.slice A5 x1.length c6) x1 ∧ Rw 5 w' O' 56 (.slice x22.1 s21.length x22.2) s21 ∧ Rw 3 w' O' 3 (.slice A53 q46.length c54) s113 ∧ Rw 2 w' O' 3 (.slice A14 q7.length c15) q7)) ?_ ?_
  ·
   refine ewp_block ?_
   replace hB := hB.st S50
   replace hx1 := hx1.st S50
   replace h12 := h12.st S50
   replace h36 := h36.st S50
   refine ewp_rng (σ := (List Int)) (X := Unit) (a88.effs.length) hL112 rfl l110 (fun (s113 : (List Int)) (x114 : Unit) => [(0, (.pointer p3)), (1, (.slice A5 x1.length c6)), (5, (.slice x22.1 s21.length x22.2)), (7, (.int .i64 a24)), (8, (.slice A53 q46.length c54)), (13, (.slice A14 q7.length c15)), (14, (.int .i64 (q7.length : Int))), (15, (.int .i64 (k23 : Int))), (29, (.slice A105 a88.effs.length c106))]) _ (fun s113 x114 w' => ∃ O' : Lab, Bs w A w' O' ∧ Vb w' (Fr 0 w' O') (.pointer p3) x0 ∧ Vb w' (Fr 0 w' O') (.slice A5 x1.length c6) x1 ∧ Rw 5 w' O' 56 (.slice x22.1 s21.length x22.2) s21 ∧ Rw 3 w' O' 3 (.slice A53 q46.length c54) s113 ∧ Rw 2 w' O' 3 (.slice A14 q7.length c15) q7 ∧ Vb w' (Fr 0 w' O') (.slice A105 a88.effs.length c106) a88.effs) _ () ⟨O49, hB, hx0, hx1, h36, h51, h12, h104⟩ ⟨rfl, rfl, rfl, rfl, rfl, rfl, rfl, rfl, rfl, rfl, rfl, trivial⟩ (fun _ _ => ⟨rfl, rfl⟩) (fun _ _ => ⟨rfl, rfl, rfl, rfl, rfl, rfl, rfl, rfl, trivial⟩) (fun _ _ _ ⟨O', hB, hx0, hx1, h36, h128, h12, h104⟩ => ⟨O', hB, hx0, hx1, h36, h128, h12⟩) ⟨rfl, rfl, rfl⟩ ⟨rfl, rfl⟩ ?_
   rintro k115 a116 s113 x114 w117 cc119 hx120 ⟨O118, hB, hx0, hx1, h36, h128, h12, h104⟩ hf121 hret122 hbrk123
   have rk115 : inI64 (k115 : Int) := rngK hx120 l110
   refine ewp_seq (ewp_region ?_)
   obtain ⟨b130, o131, ce132, hA133, hl134, hd135, v137, rfl, h138, r141, r142⟩ := h104.elem' hx120
   obtain ⟨A139, c140, rfl⟩ := h138.form
   refine o_iaE (hA := hA133) (hj := rfl) (hlt := hl134) rfl rfl rfl ?_
   refine o_la (hl := rfl) (hc := hd135) rfl rfl ?_
   refine l_alloc 4 O118 rfl fun g143 w144 O145 S146 h147 => ?_
   refine l_store h147 rfl rfl rfl (nle_b rfl) (allOne rfl) fun w148 S149 h147 => ?_
   replace h147 : Lc 4 w148 O145 g143 52 [(.slice A139 a116.cond.length c140), (.int .i64 a116.var), (.int .i64 a116.val)] := h147
   refine o_z ?_
   refine ewp_seq (ewp_region (o_fa rfl rfl (o_ld (hc := Blk.cell (i := 0) (h147.1) rfl) rfl rfl ?_)))
   refine o_mv rfl rfl ?_
   obtain ⟨q150, e151, hf121⟩ := bs hf121
   replace hx1 := (hx1.st S146).st S149
   replace h138 := (h138.st S146).st S149
   refine l_callA (O := O145) (A := All w148) (R := fun w' F v => Vb w' F v q150) (c_task_Holds (fun _ h => h) (Vb.mono (F := Fr 0 w148 O145) h138 Fr.lt) (Vb.mono (F := Fr 0 w148 O145) hx1 Fr.lt) e151) rfl rfl fun v156 w152 O153 S154 h155 => ?_
   obtain rfl := h155.bool
   cases q150
   case false =>
    replace hf121 := iF hf121
    refine o_z ?_
    refine ewp_false rfl (ewp_skip ?_)
    obtain rfl := sm hf121
    replace hx0 := ((hx0.st S146).st S149).st S154
    replace hB := ((hB.st S146).st S149).st S154
    replace hx1 := hx1.st S154
    replace h12 := ((h12.st S146).st S149).st S154
    replace h36 := ((h36.st S146).st S149).st S154
    replace h104 := ((h104.st S146).st S149).st S154
    replace h128 := ((h128.st S146).st S149).st S154
    exact show Exists _ from ⟨_, (), rfl, ⟨rfl, rfl, rfl, rfl, rfl, rfl, rfl, rfl, rfl, rfl, rfl, trivial⟩, _, hB, hx0, hx1, h36, h128, h12, h104⟩
   replace hf121 := iT hf121
   refine o_z ?_
   refine ewp_true rfl (ewp_region (o_mv rfl rfl (o_fa rfl rfl ?_)))
   replace h147 := h147.st S154
   refine o_ld (hc := Blk.cell (i := 1) (h147.1) rfl) rfl rfl ?_
   refine o_fa rfl rfl (o_ld (hc := Blk.cell (i := 2) (h147.1) rfl) rfl rfl ?_)
   obtain ⟨a157, e158, hf121⟩ := bs hf121
   obtain ⟨p160, x159⟩ := atI_some' e158
   replace h128 := ((h128.st S146).st S149).st S154
   obtain ⟨b161, o162, ce163, hA164, hl165, hd166, rfl, r168⟩ := h128.elem x159
   refine o_iaE (hA := hA164) (hj := (Int.toNat_of_nonneg p160).symm) (hlt := hl165) rfl rfl rfl ?_
   refine l_setE rfl h128 (a := a116.val) (vInt r142) hA164 rfl rfl (lt_of_get x159) fun w169 S170 h128 => ?_
   refine o_z ?_
   obtain rfl := sm hf121
   replace hx0 := (((hx0.st S146).st S149).st S154).st S170
   replace hB := (((hB.st S146).st S149).st S154).st S170
   replace hx1 := (hx1.st S154).st S170
   replace h12 := (((h12.st S146).st S149).st S154).st S170
   replace h36 := (((h36.st S146).st S149).st S154).st S170
   replace h104 := (((h104.st S146).st S149).st S154).st S170
   exact show Exists _ from ⟨_, (), rfl, ⟨rfl, rfl, rfl, rfl, rfl, rfl, rfl, rfl, rfl, rfl, rfl, trivial⟩, _, hB, hx0, hx1, h36, h128, h12, h104⟩
  replace hB := hB.st S50
  replace hx1 := hx1.st S50
  replace h12 := h12.st S50
  replace h36 := h36.st S50
  rintro l171 w172 ⟨s175, x176, rfl, hs174, O173, hB, hx0, hx1, h36, h128, h12⟩
  replace hf29 := fin_done hf29
  refine ewp_sub _ hs174 ?_
  refine ewp_region (o_mv rfl rfl (o_mv rfl rfl (o_mv rfl rfl (o_bd rfl rfl rfl ?_))))
  obtain ⟨O177, S178, h128⟩ := h128.freeze
  obtain ⟨u179, e180, hf29⟩ := bs hf29
  obtain ⟨e180, e181, e182⟩ := appI_some e180
  replace h36 := h36.st S178
  refine l_append1 rfl (a := (⟨a24, s175⟩ : Suc)) h36 (Vb.ofAgg (cs := [(.int .i64 a24), (.slice A53 q46.length c54)]) (x := (⟨a24, s175⟩ : Suc)) rfl ⟨_, rfl, h128, r45⟩) (fun _ => rfl) rfl (by decide) (by decide) e181 e182 ⟨rfl, rfl⟩ fun g183 A184 c185 w186 O187 S188 h189 => ?_
  rw [← e180] at h189 ⊢
  refine o_as rfl rfl (o_z ?_)
  obtain rfl := sm hf29
  replace hx0 := (hx0.st S178).st S188
  replace hB := (hB.st S178).st S188
  replace hx1 := (hx1.st S178).st S188
  replace h12 := (h12.st S178).st S188
  exact show Exists _ from ⟨_, (A184, c185), rfl, ⟨rfl, rfl, rfl, rfl, rfl, rfl, trivial⟩, _, hB, hx0, hx1, h189, h12⟩
 replace hB := hB.st S11
 rintro l191 w192 ⟨s195, x196, rfl, hs194, O193, hB, h36⟩
 replace hm := fin_done hm
 refine ewp_sub _ hs194 ?_
 refine ewp_seq (ewp_region (o_mv rfl rfl (o_as rfl rfl (o_z ?_))))
 refine ewp_ret ?_
 obtain ⟨O197, S198, h36⟩ := h36.freeze
 obtain rfl := sm hm
 replace hB := hB.st S198
 exact ret1v rfl (res_tmp rfl) ⟨hB.ext, (Vb.mono (F := Fr 0 w192 O197) h36 hB.out)⟩
noncomputable def m_law24_example  : Option Tsk :=
  some (⟨([2, 3] : List Int), ([0, 0] : List Int), ([] : List Fct), [(⟨(⟨#[]⟩ : ByteArray), 0, [(⟨0, 1⟩ : Fct)], ([] : List Eff)⟩ : Opr), (⟨(⟨#[]⟩ : ByteArray), 0, ([] : List Fct), [(⟨([] : List Fct), 1, 2⟩ : Eff)]⟩ : Opr), (⟨(⟨#[]⟩ : ByteArray), 0, [(⟨0, 1⟩ : Fct), (⟨1, 2⟩ : Fct)], ([] : List Eff)⟩ : Opr)]⟩ : Tsk)
theorem c_law24_example {w : World} {A : Nat → Prop} (hA : ∀ k, A k → k < w.heap.size)  {r : Tsk} (hm : m_law24_example  = some r) :
    Fn Try.prog 29 [] w fun v w' => Ext w w' ∧ Vb w' (upA A w w') v r := by
 obtain ⟨O, hB, hA0⟩ := enter hA
 refine fn_enter Try.func29 rfl Try.ntmps29 rfl ?_
 unfold m_law24_example at hm
 refine ewp_seq (ewp_region (l_alloc 2 O rfl fun g1 w2 O3 S4 h5 => ?_))
 refine o_z ?_
 refine ewp_seq (ewp_region (l_bslice 3 (by decide) O3 (xs := (([2, 3] : List Int) : List Int)) rfl rfl rfl rfl ⟨(vInt (show inI64 (2) from by decide)), (vInt (show inI64 (3) from by decide)), trivial⟩ (by decide) (by decide) rfl fun g6 w7 O8 S9 h10 => ?_))
 refine l_bslice 4 (by decide) O8 (xs := (([0, 0] : List Int) : List Int)) rfl rfl rfl rfl ⟨(vInt (show inI64 (0) from by decide)), (vInt (show inI64 (0) from by decide)), trivial⟩ (by decide) (by decide) rfl fun g12 w13 O14 S15 h16 => ?_
 refine o_bd rfl rfl rfl ?_
 refine l_bslice 5 (by decide) O14 (xs := ([(⟨0, 1⟩ : Fct)] : List Fct)) rfl rfl rfl rfl ⟨(Vb.ofAgg (cs := [(.int .i64 0), (.int .i64 1)]) (x := (⟨0, 1⟩ : Fct)) rfl ⟨rfl, (show inI64 (0) from by decide), (show inI64 (1) from by decide)⟩), trivial⟩ (by decide) (by decide) rfl fun g18 w19 O20 S21 h22 => ?_
 refine o_bd rfl rfl rfl ?_
 refine o_bd rfl rfl rfl ?_
 refine l_bslice 6 (by decide) O20 (xs := ([(⟨([] : List Fct), 1, 2⟩ : Eff)] : List Eff)) rfl rfl rfl rfl ⟨(Vb.ofAgg (cs := [(.slice none 0 0), (.int .i64 1), (.int .i64 2)]) (x := (⟨([] : List Fct), 1, 2⟩ : Eff)) rfl ⟨_, rfl, (Vb.nil _ _), (show inI64 (1) from by decide), (show inI64 (2) from by decide)⟩), trivial⟩ (by decide) (by decide) rfl fun g24 w25 O26 S27 h28 => ?_
 refine o_bd rfl rfl rfl ?_
 refine o_bd rfl rfl rfl ?_
 refine o_bd rfl rfl rfl ?_
 refine l_bslice 7 (by decide) O26 (xs := ([(⟨0, 1⟩ : Fct), (⟨1, 2⟩ : Fct)] : List Fct)) rfl rfl rfl rfl ⟨(Vb.ofAgg (cs := [(.int .i64 0), (.int .i64 1)]) (x := (⟨0, 1⟩ : Fct)) rfl ⟨rfl, (show inI64 (0) from by decide), (show inI64 (1) from by decide)⟩), (Vb.ofAgg (cs := [(.int .i64 1), (.int .i64 2)]) (x := (⟨1, 2⟩ : Fct)) rfl ⟨rfl, (show inI64 (1) from by decide), (show inI64 (2) from by decide)⟩), trivial⟩ (by decide) (by decide) rfl fun g30 w31 O32 S33 h34 => ?_
 refine o_bd rfl rfl rfl ?_
 replace h22 := (h22.st S27).st S33
 obtain ⟨O36, S37, h22⟩ := h22.freeze
 replace h28 := (h28.st S33).st S37
 obtain ⟨O38, S39, h28⟩ := h28.freeze
 replace h34 := (h34.st S37).st S39
 obtain ⟨O40, S41, h34⟩ := h34.freeze
 replace h22 := (h22.st S39).st S41
 replace h28 := h28.st S41
 refine l_bslice 8 (by decide) O40 (xs := ([(⟨(⟨#[]⟩ : ByteArray), 0, [(⟨0, 1⟩ : Fct)], ([] : List Eff)⟩ : Opr), (⟨(⟨#[]⟩ : ByteArray), 0, ([] : List Fct), [(⟨([] : List Fct), 1, 2⟩ : Eff)]⟩ : Opr), (⟨(⟨#[]⟩ : ByteArray), 0, [(⟨0, 1⟩ : Fct), (⟨1, 2⟩ : Fct)], ([] : List Eff)⟩ : Opr)] : List Opr)) rfl rfl rfl rfl ⟨(Vb.ofAgg (cs := [(.string (⟨#[]⟩ : ByteArray)), (.int .i64 0), (.slice (some ⟨g18, 0, none⟩) [(⟨0, 1⟩ : Fct)].length 1), (.slice none 0 0)]) (x := (⟨(⟨#[]⟩ : ByteArray), 0, [(⟨0, 1⟩ : Fct)], ([] : List Eff)⟩ : Opr)) rfl ⟨_, _, rfl, h22, (Vb.nil _ _), (show inI64 0 from by decide), (show (⟨#[]⟩ : ByteArray).size ≤ 9223372036854775807 from by decide)⟩), (Vb.ofAgg (cs := [(.string (⟨#[]⟩ : ByteArray)), (.int .i64 0), (.slice none 0 0), (.slice (some ⟨g24, 0, none⟩) [(⟨([] : List Fct), 1, 2⟩ : Eff)].length 1)]) (x := (⟨(⟨#[]⟩ : ByteArray), 0, ([] : List Fct), [(⟨([] : List Fct), 1, 2⟩ : Eff)]⟩ : Opr)) rfl ⟨_, _, rfl, (Vb.nil _ _), h28, (show inI64 0 from by decide), (show (⟨#[]⟩ : ByteArray).size ≤ 9223372036854775807 from by decide)⟩), (Vb.ofAgg (cs := [(.string (⟨#[]⟩ : ByteArray)), (.int .i64 0), (.slice (some ⟨g30, 0, none⟩) [(⟨0, 1⟩ : Fct), (⟨1, 2⟩ : Fct)].length 2), (.slice none 0 0)]) (x := (⟨(⟨#[]⟩ : ByteArray), 0, [(⟨0, 1⟩ : Fct), (⟨1, 2⟩ : Fct)], ([] : List Eff)⟩ : Opr)) rfl ⟨_, _, rfl, h34, (Vb.nil _ _), (show inI64 0 from by decide), (show (⟨#[]⟩ : ByteArray).size ≤ 9223372036854775807 from by decide)⟩), trivial⟩ (by decide) (by decide) rfl fun g42 w43 O44 S45 h46 => ?_
 refine o_bd rfl rfl rfl ?_
 replace h5 := ((((((((h5.st S9).st S15).st S21).st S27).st S33).st S37).st S39).st S41).st S45
 refine l_store h5 rfl rfl rfl (nle_b rfl) (allOne rfl) fun w48 S49 h5 => ?_
 replace h5 : Lc 2 w48 O44 g1 26 [(.slice (some ⟨g6, 0, none⟩) ([2, 3] : List Int).length 2), (.slice (some ⟨g12, 0, none⟩) ([0, 0] : List Int).length 2), (.slice none 0 0), (.slice (some ⟨g42, 0, none⟩) [(⟨(⟨#[]⟩ : ByteArray), 0, [(⟨0, 1⟩ : Fct)], ([] : List Eff)⟩ : Opr), (⟨(⟨#[]⟩ : ByteArray), 0, ([] : List Fct), [(⟨([] : List Fct), 1, 2⟩ : Eff)]⟩ : Opr), (⟨(⟨#[]⟩ : ByteArray), 0, [(⟨0, 1⟩ : Fct), (⟨1, 2⟩ : Fct)], ([] : List Eff)⟩ : Opr)].length 3)] := h5
 refine o_z ?_
 refine ewp_ret ?_
 replace h10 := ((((((((h10.st S15).st S21).st S27).st S33).st S37).st S39).st S41).st S45).st S49
 obtain ⟨O50, S51, h10⟩ := h10.freeze
 replace h16 := ((((((((h16.st S21).st S27).st S33).st S37).st S39).st S41).st S45).st S49).st S51
 obtain ⟨O52, S53, h16⟩ := h16.freeze
 replace h46 := ((h46.st S49).st S51).st S53
 obtain ⟨O54, S55, h46⟩ := h46.freeze
 obtain rfl := sm hm
 replace hB := (((((((((((((hB.st S4).st S9).st S15).st S21).st S27).st S33).st S37).st S39).st S41).st S45).st S49).st S51).st S53).st S55
 replace h5 := ((h5.st S51).st S53).st S55
 replace h10 := (h10.st S53).st S55
 replace h16 := h16.st S55
 exact ret1v rfl (res_cell (cs := [(.slice (some ⟨g6, 0, none⟩) ([2, 3] : List Int).length 2), (.slice (some ⟨g12, 0, none⟩) ([0, 0] : List Int).length 2), (.slice none 0 0), (.slice (some ⟨g42, 0, none⟩) [(⟨(⟨#[]⟩ : ByteArray), 0, [(⟨0, 1⟩ : Fct)], ([] : List Eff)⟩ : Opr), (⟨(⟨#[]⟩ : ByteArray), 0, ([] : List Fct), [(⟨([] : List Fct), 1, 2⟩ : Eff)]⟩ : Opr), (⟨(⟨#[]⟩ : ByteArray), 0, [(⟨0, 1⟩ : Fct), (⟨1, 2⟩ : Fct)], ([] : List Eff)⟩ : Opr)].length 3)]) rfl rfl h5.1.cellsAt) ⟨hB.ext, (Vb.mono (F := Fr 0 w48 O54) (Vb.ofAgg (cs := [(.slice (some ⟨g6, 0, none⟩) ([2, 3] : List Int).length 2), (.slice (some ⟨g12, 0, none⟩) ([0, 0] : List Int).length 2), (.slice none 0 0), (.slice (some ⟨g42, 0, none⟩) [(⟨(⟨#[]⟩ : ByteArray), 0, [(⟨0, 1⟩ : Fct)], ([] : List Eff)⟩ : Opr), (⟨(⟨#[]⟩ : ByteArray), 0, ([] : List Fct), [(⟨([] : List Fct), 1, 2⟩ : Eff)]⟩ : Opr), (⟨(⟨#[]⟩ : ByteArray), 0, [(⟨0, 1⟩ : Fct), (⟨1, 2⟩ : Fct)], ([] : List Eff)⟩ : Opr)].length 3)]) (x := (⟨([2, 3] : List Int), ([0, 0] : List Int), ([] : List Fct), [(⟨(⟨#[]⟩ : ByteArray), 0, [(⟨0, 1⟩ : Fct)], ([] : List Eff)⟩ : Opr), (⟨(⟨#[]⟩ : ByteArray), 0, ([] : List Fct), [(⟨([] : List Fct), 1, 2⟩ : Eff)]⟩ : Opr), (⟨(⟨#[]⟩ : ByteArray), 0, [(⟨0, 1⟩ : Fct), (⟨1, 2⟩ : Fct)], ([] : List Eff)⟩ : Opr)]⟩ : Tsk)) rfl ⟨_, _, _, _, rfl, h10, h16, (Vb.nil _ _), h46⟩) hB.out)⟩
end
section
open Go Go.RowKit
attribute [local irreducible] ewp owp hwp hwq hws Ev Evg Fn retPost loud loudS Res1
noncomputable def m_law24_awake  : Option Bool :=
  bnd (m_law24_example) fun q1 => bnd (m_succgen_New q1) fun q25 => bnd (if q25.2.n ≠ 0 then (some true) else (if q25.1.isNone = true then (some true) else (some false)) : Option Bool) fun y39 => if y39 = true then (some false) else (bnd (m_succgen_Generator_Successors q25.1 ([0, 0] : List Int)) fun q58 => bnd (bnd (m_succgen_Generator_Applicable q25.1 ([0, 0] : List Int)) fun q79 => bnd (m_base_Ints q79 ([1] : List Int)) fun q95 => if q95 = true then bnd (m_succgen_Generator_Applicable q25.1 ([1, 2] : List Int)) fun q110 => bnd (m_base_Ints q110 ([0, 1, 2] : List Int)) fun q126 => if q126 = true then if (q58.length : Int) = 1 then (bnd (atI q58 0) fun a136 => if a136.op = 1 then (bnd (atI q58 0) fun a153 => bnd (m_base_Ints a153.state ([0, 2] : List Int)) fun q175 => if q175 = true then some true else some false) else (some false)) else (some false) else some false else some false : Option Bool) fun y67 => some y67)
theorem c_law24_awake {w : World} {A : Nat → Prop} (hA : ∀ k, A k → k < w.heap.size)  {r : Bool} (hm : m_law24_awake  = some r) :
    Fn Try.prog 13 [] w fun v w' => Ext w w' ∧ Vb w' (upA A w w') v r := by
 obtain ⟨O, hB, hA0⟩ := enter hA
 refine fn_enter Try.func13 rfl Try.ntmps13 rfl ?_
 unfold m_law24_awake at hm
 refine ewp_seq (ewp_region (o_as rfl rfl (o_z ?_)))
 refine ewp_seq (ewp_region ?_)
 obtain ⟨q1, e2, hm⟩ := bs hm
 refine l_call (O := O) (R := fun w' F v => Vb w' F v q1) (c_law24_example Fr.lt  e2) rfl rfl fun v7 w3 O4 S5 h6 => ?_
 obtain ⟨cs8, rfl, v9, v10, v11, v12, rfl, h13, h16, h19, h22⟩ := h6
 obtain ⟨A14, c15, rfl⟩ := h13.form
 obtain ⟨A17, c18, rfl⟩ := h16.form
 obtain ⟨A20, c21, rfl⟩ := h19.form
 obtain ⟨A23, c24, rfl⟩ := h22.form
 obtain ⟨q25, e26, hm⟩ := bs hm
 refine l_call (O := O4) (R := fun w' F v => T2 w' F v q25) (c_succgen_New Fr.lt (Vb.ofAgg (cs := [(.slice A14 q1.vars.length c15), (.slice A17 q1.init.length c18), (.slice A20 q1.goal.length c21), (.slice A23 q1.ops.length c24)]) (x := q1) rfl ⟨_, _, _, _, rfl, h13, h16, h19, h22⟩) e26) rfl rfl fun v31 w27 O28 S29 h30 => ?_
 obtain ⟨v32, v33, rfl, h34, h35⟩ := h30
 obtain ⟨p36, rfl, hq37⟩ := h34.ptr
 obtain ⟨rfl, r38⟩ := h35.err
 refine o_mv rfl rfl (o_ex rfl rfl rfl (o_ex rfl rfl rfl (o_as rfl rfl (o_as rfl rfl (o_z ?_)))))
 refine ewp_seq (ewp_seq ?_)
 obtain ⟨y39, hy40, hm⟩ := bs hm
 refine ewp_join (fun l' w' => ∃ (x42 : Unit) (O' : Lab), subs l' [(1, (.pointer p36)), (14, (.bool y39))] ∧ Bs w A w' O' ∧ Vb w' (Fr 0 w' O') (.pointer p36) q25.1) ?_ ?_
 ·
  refine ewp_region (o_mv rfl rfl (o_rnS rfl rfl (fun c43 => ?_) fun c43 => ?_))
  ·
   replace hy40 := ip hy40 c43
   refine o_mv rfl rfl (owp_no rfl rfl rfl rfl (owp_no rfl rfl rfl rfl (o_pt rfl rfl rfl (o_z ?_))))
   obtain rfl := sm hy40
   replace hB := (hB.st S5).st S29
   exact ⟨(), _, ⟨rfl, rfl, trivial⟩, hB, h34⟩
  replace hy40 := im hy40 c43
  refine o_mv rfl rfl (owp_yes rfl rfl (o_mv rfl rfl (owp_yes rfl rfl (o_pnS hq37 rfl rfl (fun c44 => ?_) fun c44 => ?_))))
  ·
   replace hy40 := ip hy40 c44
   refine o_pf rfl rfl rfl (o_z ?_)
   obtain rfl := sm hy40
   replace hB := (hB.st S5).st S29
   exact ⟨(), _, ⟨rfl, rfl, trivial⟩, hB, h34⟩
  replace hy40 := im hy40 c44
  refine o_pf rfl rfl rfl (o_z ?_)
  obtain rfl := sm hy40
  replace hB := (hB.st S5).st S29
  exact ⟨(), _, ⟨rfl, rfl, trivial⟩, hB, h34⟩
 replace hB := (hB.st S5).st S29
 rintro l45 w46 ⟨x42, O47, hs48, hB, h34⟩
 refine ewp_sub _ hs48 ?_
 refine ewp_cond rfl (fun c49 => ?_) (fun c49 => ?_)
 ·
  replace hm := ip hm c49
  refine ewp_seq (ewp_region (o_as rfl rfl (o_z ?_)))
  refine ewp_ret ?_
  obtain rfl := sm hm
  exact ret1v rfl (res_tmp rfl) ⟨hB.ext, vBool⟩
 replace hm := im' hm c49
 refine ewp_skip (ewp_seq (ewp_region (o_mv rfl rfl (l_bslice 2 (by decide) O47 (xs := (([0, 0] : List Int) : List Int)) rfl rfl rfl rfl ⟨(vInt (show inI64 (0) from by decide)), (vInt (show inI64 (0) from by decide)), trivial⟩ (by decide) (by decide) rfl fun g50 w51 O52 S53 h54 => ?_))))
 obtain ⟨O56, S57, h54⟩ := h54.freeze
 obtain ⟨q58, e59, hm⟩ := bs hm
 replace h34 := (h34.st S53).st S57
 refine l_call (O := O56) (R := fun w' F v => Vb w' F v q58) (c_succgen_Generator_Successors Fr.lt h34 h54 e59) rfl rfl fun v64 w60 O61 S62 h63 => ?_
 obtain ⟨A65, c66, rfl⟩ := h63.form
 refine o_as rfl rfl (o_z ?_)
 refine ewp_seq ?_
 obtain ⟨y67, hy68, hm⟩ := bs hm
 refine ewp_join (fun l' w' => ∃ (x70 : Unit) (O' : Lab), subs l' [(0, (.bool y67))] ∧ Bs w A w' O') ?_ ?_
 ·
  refine ewp_region (o_mv rfl rfl (l_bslice 3 (by decide) O61 (xs := (([0, 0] : List Int) : List Int)) rfl rfl rfl rfl ⟨(vInt (show inI64 (0) from by decide)), (vInt (show inI64 (0) from by decide)), trivial⟩ (by decide) (by decide) rfl fun g71 w72 O73 S74 h75 => ?_))
  obtain ⟨O77, S78, h75⟩ := h75.freeze
  obtain ⟨q79, e80, hy68⟩ := bs hy68
  replace h34 := ((h34.st S62).st S74).st S78
  refine l_callRow 4 (by decide) (O := O77) (c_succgen_Generator_Applicable Fr.lt h34 h75 e80) rfl rfl fun A86 c87 w81 O82 S83 h84 => ?_
  refine l_bslice 5 (by decide) O82 (xs := (([1] : List Int) : List Int)) rfl rfl rfl rfl ⟨(vInt (show inI64 (1) from by decide)), trivial⟩ (by decide) (by decide) rfl fun g89 w90 O91 S92 h93 => ?_
  obtain ⟨q95, e96, hy68⟩ := bs hy68
  replace h84 := h84.st S92
  refine l_callA (O := O91) (A := All w90) (R := fun w' F v => Vb w' F v q95) (c_base_Ints (fun _ h => h) (h84).all (h93).all e96) rfl rfl fun v101 w97 O98 S99 h100 => ?_
  obtain rfl := h100.bool
  cases q95
  case false =>
   replace hy68 := iF hy68
   refine o_mv rfl rfl (owp_no rfl rfl rfl rfl (owp_no rfl rfl rfl rfl (owp_no rfl rfl rfl rfl (owp_no rfl rfl rfl rfl (owp_no rfl rfl rfl rfl (o_pf rfl rfl rfl (o_mv rfl rfl (owp_no rfl rfl rfl rfl (owp_no rfl rfl rfl rfl (owp_no rfl rfl rfl rfl (o_pf rfl rfl rfl (o_mv rfl rfl (owp_no rfl rfl rfl rfl (owp_no rfl rfl rfl rfl ?_))))))))))))))
   refine owp_no rfl rfl rfl rfl (owp_no rfl rfl rfl rfl (owp_no rfl rfl rfl rfl (o_pf rfl rfl rfl (o_mv rfl rfl (owp_no rfl rfl rfl rfl (owp_no rfl rfl rfl rfl (owp_no rfl rfl rfl rfl (owp_no rfl rfl rfl rfl (owp_no rfl rfl rfl rfl (owp_no rfl rfl rfl rfl (o_pf rfl rfl rfl (o_as rfl rfl (o_z ?_)))))))))))))
   obtain rfl := sm hy68
   replace hB := (((((((hB.st S53).st S57).st S62).st S74).st S78).st S83).st S92).st S99
   exact ⟨(), _, ⟨rfl, trivial⟩, hB⟩
  replace hy68 := iT hy68
  refine o_mv rfl rfl (owp_yes rfl rfl (o_mv rfl rfl (owp_yes rfl rfl (l_bslice 6 (by decide) O98 (xs := (([1, 2] : List Int) : List Int)) rfl rfl rfl rfl ⟨(vInt (show inI64 (1) from by decide)), (vInt (show inI64 (2) from by decide)), trivial⟩ (by decide) (by decide) rfl fun g102 w103 O104 S105 h106 => ?_))))
  refine owp_yes rfl rfl ?_
  obtain ⟨O108, S109, h106⟩ := h106.freeze
  obtain ⟨q110, e111, hy68⟩ := bs hy68
  replace h34 := ((((h34.st S83).st S92).st S99).st S105).st S109
  refine l_callRow 7 (by decide) (O := O108) (c_succgen_Generator_Applicable Fr.lt h34 h106 e111) rfl rfl fun A117 c118 w112 O113 S114 h115 => ?_
  refine owp_yes rfl rfl (l_bslice 8 (by decide) O113 (xs := (([0, 1, 2] : List Int) : List Int)) rfl rfl rfl rfl ⟨(vInt (show inI64 (0) from by decide)), (vInt (show inI64 (1) from by decide)), (vInt (show inI64 (2) from by decide)), trivial⟩ (by decide) (by decide) rfl fun g120 w121 O122 S123 h124 => ?_)
  refine owp_yes rfl rfl ?_
  obtain ⟨q126, e127, hy68⟩ := bs hy68
  replace h115 := h115.st S123
  refine l_callA (O := O122) (A := All w121) (R := fun w' F v => Vb w' F v q126) (c_base_Ints (fun _ h => h) (h115).all (h124).all e127) rfl rfl fun v132 w128 O129 S130 h131 => ?_
  obtain rfl := h131.bool
  cases q126
  case false =>
   replace hy68 := iF hy68
   refine o_pt rfl rfl rfl (o_mv rfl rfl (owp_no rfl rfl rfl rfl (owp_no rfl rfl rfl rfl (owp_no rfl rfl rfl rfl (o_pf rfl rfl rfl (o_mv rfl rfl (owp_no rfl rfl rfl rfl (owp_no rfl rfl rfl rfl (owp_no rfl rfl rfl rfl (owp_no rfl rfl rfl rfl (owp_no rfl rfl rfl rfl (o_pf rfl rfl rfl (o_mv rfl rfl (owp_no rfl rfl rfl rfl ?_))))))))))))))
   refine owp_no rfl rfl rfl rfl (owp_no rfl rfl rfl rfl (owp_no rfl rfl rfl rfl (owp_no rfl rfl rfl rfl (owp_no rfl rfl rfl rfl (o_pf rfl rfl rfl (o_as rfl rfl (o_z ?_)))))))
   obtain rfl := sm hy68
   replace hB := ((((((((((((hB.st S53).st S57).st S62).st S74).st S78).st S83).st S92).st S99).st S105).st S109).st S114).st S123).st S130
   exact ⟨(), _, ⟨rfl, trivial⟩, hB⟩
  replace hy68 := iT hy68
  refine o_pt rfl rfl rfl (o_mv rfl rfl (owp_yes rfl rfl (o_mv rfl rfl (owp_yes rfl rfl (o_ln rfl rfl ?_)))))
  replace h63 := (((((((((h63.st S74).st S78).st S83).st S92).st S99).st S105).st S109).st S114).st S123).st S130
  have l134 : q58.length ≤ 9223372036854775807 := Nat.le_trans h63.len.2.1 h63.len.2.2
  have r133 : inI64 (q58.length : Int) := rngNat l134
  refine owp_yes rfl rfl (o_eeS rfl rfl rfl (fun c135 => ?_) fun c135 => ?_)
  ·
   replace hy68 := ip hy68 c135
   refine o_pt rfl rfl rfl (o_mv rfl rfl (owp_yes rfl rfl (o_mv rfl rfl (owp_yes rfl rfl ?_))))
   obtain ⟨a136, e137, hy68⟩ := bs hy68
   obtain ⟨p139, x138⟩ := atI_some' e137
   obtain ⟨b140, o141, ce142, hA143, hl144, hd145, v147, rfl, h148, r151⟩ := h63.elem' x138
   obtain ⟨A149, c150, rfl⟩ := h148.form
   refine o_iaE (hA := hA143) (hj := (Int.toNat_of_nonneg p139).symm) (hlt := hl144) rfl rfl rfl ?_
   refine owp_yes rfl rfl (o_fa rfl rfl (owp_yes rfl rfl (o_ld (hc := cat0 hd145) rfl rfl ?_)))
   refine owp_yes rfl rfl (o_eeS rfl rfl rfl (fun c152 => ?_) fun c152 => ?_)
   ·
    replace hy68 := ip hy68 c152
    refine o_pt rfl rfl rfl (o_mv rfl rfl (owp_yes rfl rfl (o_mv rfl rfl (owp_yes rfl rfl ?_))))
    obtain ⟨a153, e154, hy68⟩ := bs hy68
    obtain ⟨p156, x155⟩ := atI_some' e154
    obtain ⟨b157, o158, ce159, hA160, hl161, hd162, v164, rfl, h165, r168⟩ := h63.elem' x155
    obtain ⟨A166, c167, rfl⟩ := h165.form
    refine o_iaE (hA := hA160) (hj := (Int.toNat_of_nonneg p156).symm) (hlt := hl161) rfl rfl rfl ?_
    refine owp_yes rfl rfl (o_fa rfl rfl (owp_yes rfl rfl (o_ld (hc := cat1 hd162) rfl rfl ?_)))
    refine owp_yes rfl rfl (l_bslice 9 (by decide) O129 (xs := (([0, 2] : List Int) : List Int)) rfl rfl rfl rfl ⟨(vInt (show inI64 (0) from by decide)), (vInt (show inI64 (2) from by decide)), trivial⟩ (by decide) (by decide) rfl fun g169 w170 O171 S172 h173 => ?_)
    refine owp_yes rfl rfl ?_
    obtain ⟨q175, e176, hy68⟩ := bs hy68
    replace h165 := h165.st S172
    refine l_callA (O := O171) (A := All w170) (R := fun w' F v => Vb w' F v q175) (c_base_Ints (fun _ h => h) (Vb.mono (F := Fr 0 w170 O171) h165 Fr.lt) (h173).all e176) rfl rfl fun v181 w177 O178 S179 h180 => ?_
    obtain rfl := h180.bool
    cases q175
    case false =>
     replace hy68 := iF hy68
     refine o_pt rfl rfl rfl (o_as rfl rfl (o_z ?_))
     obtain rfl := sm hy68
     replace hB := ((((((((((((((hB.st S53).st S57).st S62).st S74).st S78).st S83).st S92).st S99).st S105).st S109).st S114).st S123).st S130).st S172).st S179
     exact ⟨(), _, ⟨rfl, trivial⟩, hB⟩
    replace hy68 := iT hy68
    refine o_pt rfl rfl rfl (o_as rfl rfl (o_z ?_))
    obtain rfl := sm hy68
    replace hB := ((((((((((((((hB.st S53).st S57).st S62).st S74).st S78).st S83).st S92).st S99).st S105).st S109).st S114).st S123).st S130).st S172).st S179
    exact ⟨(), _, ⟨rfl, trivial⟩, hB⟩
   replace hy68 := im hy68 c152
   refine o_pt rfl rfl rfl (o_mv rfl rfl (owp_no rfl rfl rfl rfl (owp_no rfl rfl rfl rfl (owp_no rfl rfl rfl rfl (owp_no rfl rfl rfl rfl (owp_no rfl rfl rfl rfl (owp_no rfl rfl rfl rfl (o_pf rfl rfl rfl (o_as rfl rfl (o_z ?_))))))))))
   obtain rfl := sm hy68
   replace hB := ((((((((((((hB.st S53).st S57).st S62).st S74).st S78).st S83).st S92).st S99).st S105).st S109).st S114).st S123).st S130
   exact ⟨(), _, ⟨rfl, trivial⟩, hB⟩
  replace hy68 := im hy68 c135
  refine o_pt rfl rfl rfl (o_mv rfl rfl (owp_no rfl rfl rfl rfl (owp_no rfl rfl rfl rfl (owp_no rfl rfl rfl rfl (owp_no rfl rfl rfl rfl (owp_no rfl rfl rfl rfl (o_pf rfl rfl rfl (o_mv rfl rfl (owp_no rfl rfl rfl rfl (owp_no rfl rfl rfl rfl (owp_no rfl rfl rfl rfl (owp_no rfl rfl rfl rfl (owp_no rfl rfl rfl rfl (owp_no rfl rfl rfl rfl ?_))))))))))))))
  refine o_pf rfl rfl rfl (o_as rfl rfl (o_z ?_))
  obtain rfl := sm hy68
  replace hB := ((((((((((((hB.st S53).st S57).st S62).st S74).st S78).st S83).st S92).st S99).st S105).st S109).st S114).st S123).st S130
  exact ⟨(), _, ⟨rfl, trivial⟩, hB⟩
 replace hB := ((hB.st S53).st S57).st S62
 rintro l182 w183 ⟨x70, O184, hs185, hB⟩
 refine ewp_sub _ hs185 ?_
 refine ewp_ret ?_
 obtain rfl := sm hm
 exact ret1v rfl (res_tmp rfl) ⟨hB.ext, vBool⟩
noncomputable def m_law24_right (x0 : Tsk) (x1 : Option Gnr) (x2 : List Int) : Option Bool :=
  bnd (m_ref24_Applicable x0 x2) fun q30 => bnd (m_succgen_Generator_Successors x1 x2) fun q40 => bnd (bnd (m_succgen_Generator_Applicable x1 x2) fun q53 => bnd (m_base_Ints q53 q30) fun q63 => if q63 = true then bnd (m_succgen_Generator_Count x1 x2) fun q70 => if q70 ≠ (q30.length : Int) then (some true) else (if (q40.length : Int) ≠ (q30.length : Int) then (some true) else (some false)) else some true : Option Bool) fun y49 => if y49 = true then (some false) else (bnd (rng (ρ := Bool) (fun (k97 : Nat) (a98 : Int) (s95 : Unit) => bnd (m_base_Apply x0 x2 a98) fun q116 => bnd (if (!q116.2) = true then (some true) else (bnd (q40[k97]?) fun a134 => if a134.op ≠ a98 then (some true) else (bnd (q40[k97]?) fun a149 => bnd (m_base_Ints a149.state q116.1) fun q163 => if q163 = true then some false else some true)) : Option Bool) fun y129 => if y129 = true then (some (.ret false)) else (some (.next ()))) q30 0 ()) fun res93 => fin res93 fun (s179 : Unit) => some true)
theorem c_law24_right {w : World} {A : Nat → Prop} (hA : ∀ k, A k → k < w.heap.size) {vx0 : Value} {x0 : Tsk} (hx0 : Vb w A vx0 x0) {vx1 : Value} {x1 : Option Gnr} (hx1 : Vb w A vx1 x1) {vx2 : Value} {x2 : List Int} (hx2 : Vb w A vx2 x2) {r : Bool} (hm : m_law24_right x0 x1 x2 = some r) :
    Fn Try.prog 18 [vx0, vx1, vx2] w fun v w' => Ext w w' ∧ Vb w' (upA A w w') v r := by
 obtain ⟨O, hB, hA0⟩ := enter hA
 replace hx0 := hx0.mono hA0
 obtain ⟨cs4, rfl, v5, v6, v7, v8, rfl, h9, h12, h15, h18⟩ := hx0
 obtain ⟨A10, c11, rfl⟩ := h9.form
 obtain ⟨A13, c14, rfl⟩ := h12.form
 obtain ⟨A16, c17, rfl⟩ := h15.form
 obtain ⟨A19, c20, rfl⟩ := h18.form
 replace hx1 := hx1.mono hA0
 obtain ⟨p21, rfl, hq22⟩ := hx1.ptr
 replace hx2 := hx2.mono hA0
 obtain ⟨A23, c24, rfl⟩ := hx2.form
 refine fn_enter Try.func18 rfl Try.ntmps18 rfl ?_
 unfold m_law24_right at hm
 refine ewp_seq (ewp_region (l_box 2 O rfl rfl fun g25 w26 O27 S28 h29 => ?_))
 replace h29 : Lc 2 w26 O27 g25 26 [(.slice A10 x0.vars.length c11), (.slice A13 x0.init.length c14), (.slice A16 x0.goal.length c17), (.slice A19 x0.ops.length c20)] := h29
 refine o_as rfl rfl (o_z ?_)
 refine ewp_seq (ewp_region (o_la (hl := rfl) (hc := (h29.1).cellsAt) rfl rfl ?_))
 refine o_mv rfl rfl ?_
 obtain ⟨q30, e31, hm⟩ := bs hm
 replace hx2 := hx2.st S28
 replace h9 := h9.st S28
 replace h12 := h12.st S28
 replace h15 := h15.st S28
 replace h18 := h18.st S28
 refine l_callRow 3 (by decide) (O := O27) (c_ref24_Applicable Fr.lt (Vb.ofAgg (cs := [(.slice A10 x0.vars.length c11), (.slice A13 x0.init.length c14), (.slice A16 x0.goal.length c17), (.slice A19 x0.ops.length c20)]) (x := x0) rfl ⟨_, _, _, _, rfl, h9, h12, h15, h18⟩) hx2 e31) rfl rfl fun A37 c38 w32 O33 S34 h35 => ?_
 refine o_as rfl rfl (o_z ?_)
 refine ewp_seq (ewp_region (o_mv rfl rfl (o_mv rfl rfl ?_)))
 obtain ⟨q40, e41, hm⟩ := bs hm
 replace hx1 := (hx1.st S28).st S34
 replace hx2 := hx2.st S34
 refine l_call (O := O33) (R := fun w' F v => Vb w' F v q40) (c_succgen_Generator_Successors Fr.lt hx1 hx2 e41) rfl rfl fun v46 w42 O43 S44 h45 => ?_
 obtain ⟨A47, c48, rfl⟩ := h45.form
 refine o_as rfl rfl (o_z ?_)
 refine ewp_seq (ewp_seq ?_)
 obtain ⟨y49, hy50, hm⟩ := bs hm
 refine ewp_join (fun l' w' => ∃ (x52 : Unit) (O' : Lab), subs l' [(2, (.slice A23 x2.length c24)), (3, (.pointer (some ⟨g25, 0, none⟩))), (7, (.slice A37 q30.length c38)), (8, (.slice A47 q40.length c48)), (39, (.bool y49))] ∧ Bs w A w' O' ∧ Vb w' (Fr 0 w' O') (.slice A23 x2.length c24) x2 ∧ Lc 2 w' O' g25 26 [(.slice A10 x0.vars.length c11), (.slice A13 x0.init.length c14), (.slice A16 x0.goal.length c17), (.slice A19 x0.ops.length c20)] ∧ Vb w' (Fr 0 w' O') (.slice A10 x0.vars.length c11) x0.vars ∧ Vb w' (Fr 0 w' O') (.slice A13 x0.init.length c14) x0.init ∧ Vb w' (Fr 0 w' O') (.slice A16 x0.goal.length c17) x0.goal ∧ Vb w' (Fr 0 w' O') (.slice A19 x0.ops.length c20) x0.ops ∧ Rw 3 w' O' 3 (.slice A37 q30.length c38) q30 ∧ Vb w' (Fr 0 w' O') (.slice A47 q40.length c48) q40) ?_ ?_
 ·
  refine ewp_region (o_mv rfl rfl (o_mv rfl rfl ?_))
  obtain ⟨q53, e54, hy50⟩ := bs hy50
  replace hx1 := hx1.st S44
  replace hx2 := hx2.st S44
  refine l_callRow 4 (by decide) (O := O43) (c_succgen_Generator_Applicable Fr.lt hx1 hx2 e54) rfl rfl fun A60 c61 w55 O56 S57 h58 => ?_
  refine o_mv rfl rfl ?_
  obtain ⟨q63, e64, hy50⟩ := bs hy50
  replace h35 := (h35.st S44).st S57
  refine l_callA (O := O56) (A := All w55) (R := fun w' F v => Vb w' F v q63) (c_base_Ints (fun _ h => h) (h58).all (h35).all e64) rfl rfl fun v69 w65 O66 S67 h68 => ?_
  obtain rfl := h68.bool
  cases q63
  case false =>
   replace hy50 := iF hy50
   refine o_nf rfl rfl (o_mv rfl rfl (owp_no rfl rfl rfl rfl (owp_no rfl rfl rfl rfl (owp_no rfl rfl rfl rfl (owp_no rfl rfl rfl rfl (owp_no rfl rfl rfl rfl (owp_no rfl rfl rfl rfl (o_pt rfl rfl rfl (o_mv rfl rfl (owp_no rfl rfl rfl rfl (owp_no rfl rfl rfl rfl (owp_no rfl rfl rfl rfl (owp_no rfl rfl rfl rfl (owp_no rfl rfl rfl rfl ?_))))))))))))))
   refine o_pt rfl rfl rfl (o_z ?_)
   obtain rfl := sm hy50
   replace hB := ((((hB.st S28).st S34).st S44).st S57).st S67
   replace hx2 := (hx2.st S57).st S67
   replace h9 := (((h9.st S34).st S44).st S57).st S67
   replace h12 := (((h12.st S34).st S44).st S57).st S67
   replace h15 := (((h15.st S34).st S44).st S57).st S67
   replace h18 := (((h18.st S34).st S44).st S57).st S67
   replace h29 := (((h29.st S34).st S44).st S57).st S67
   replace h35 := h35.st S67
   replace h45 := (h45.st S57).st S67
   exact ⟨(), _, ⟨rfl, rfl, rfl, rfl, rfl, trivial⟩, hB, hx2, h29, h9, h12, h15, h18, h35, h45⟩
  replace hy50 := iT hy50
  refine o_nt rfl rfl (o_mv rfl rfl (owp_yes rfl rfl (o_mv rfl rfl (owp_yes rfl rfl (o_mv rfl rfl (owp_yes rfl rfl ?_))))))
  obtain ⟨q70, e71, hy50⟩ := bs hy50
  replace hx1 := (hx1.st S57).st S67
  replace hx2 := (hx2.st S57).st S67
  refine l_callA (O := O66) (A := All w65) (R := fun w' F v => Vb w' F v q70) (c_succgen_Generator_Count (fun _ h => h) (Vb.mono (F := Fr 0 w65 O66) hx1 Fr.lt) (Vb.mono (F := Fr 0 w65 O66) hx2 Fr.lt) e71) rfl rfl fun v76 w72 O73 S74 h75 => ?_
  obtain ⟨rfl, r77⟩ := h75.int
  refine owp_yes rfl rfl (o_mv rfl rfl (owp_yes rfl rfl (o_ln rfl rfl ?_)))
  replace h35 := (h35.st S67).st S74
  have l79 : q30.length ≤ 9223372036854775807 := Nat.le_trans h35.len.2.1 h35.len.2.2
  have r78 : inI64 (q30.length : Int) := rngNat l79
  refine owp_yes rfl rfl (o_neS rfl rfl rfl (fun c80 => ?_) fun c80 => ?_)
  ·
   replace hy50 := ip hy50 c80
   refine o_pf rfl rfl rfl (o_mv rfl rfl (owp_no rfl rfl rfl rfl (owp_no rfl rfl rfl rfl (owp_no rfl rfl rfl rfl (owp_no rfl rfl rfl rfl (owp_no rfl rfl rfl rfl (o_pt rfl rfl rfl (o_z ?_))))))))
   obtain rfl := sm hy50
   replace hB := (((((hB.st S28).st S34).st S44).st S57).st S67).st S74
   replace hx2 := hx2.st S74
   replace h9 := ((((h9.st S34).st S44).st S57).st S67).st S74
   replace h12 := ((((h12.st S34).st S44).st S57).st S67).st S74
   replace h15 := ((((h15.st S34).st S44).st S57).st S67).st S74
   replace h18 := ((((h18.st S34).st S44).st S57).st S67).st S74
   replace h29 := ((((h29.st S34).st S44).st S57).st S67).st S74
   replace h45 := ((h45.st S57).st S67).st S74
   exact ⟨(), _, ⟨rfl, rfl, rfl, rfl, rfl, trivial⟩, hB, hx2, h29, h9, h12, h15, h18, h35, h45⟩
  replace hy50 := im hy50 c80
  refine o_pf rfl rfl rfl (o_mv rfl rfl (owp_yes rfl rfl (o_mv rfl rfl (owp_yes rfl rfl (o_ln rfl rfl ?_)))))
  replace h45 := ((h45.st S57).st S67).st S74
  have l82 : q40.length ≤ 9223372036854775807 := Nat.le_trans h45.len.2.1 h45.len.2.2
  have r81 : inI64 (q40.length : Int) := rngNat l82
  refine owp_yes rfl rfl (o_mv rfl rfl (owp_yes rfl rfl (o_ln rfl rfl ?_)))
  have l84 : q30.length ≤ 9223372036854775807 := Nat.le_trans h35.len.2.1 h35.len.2.2
  have r83 : inI64 (q30.length : Int) := rngNat l84
  refine owp_yes rfl rfl (o_neS rfl rfl rfl (fun c85 => ?_) fun c85 => ?_)
  ·
   replace hy50 := ip hy50 c85
   refine o_pf rfl rfl rfl (o_z ?_)
   obtain rfl := sm hy50
   replace hB := (((((hB.st S28).st S34).st S44).st S57).st S67).st S74
   replace hx2 := hx2.st S74
   replace h9 := ((((h9.st S34).st S44).st S57).st S67).st S74
   replace h12 := ((((h12.st S34).st S44).st S57).st S67).st S74
   replace h15 := ((((h15.st S34).st S44).st S57).st S67).st S74
   replace h18 := ((((h18.st S34).st S44).st S57).st S67).st S74
   replace h29 := ((((h29.st S34).st S44).st S57).st S67).st S74
   exact ⟨(), _, ⟨rfl, rfl, rfl, rfl, rfl, trivial⟩, hB, hx2, h29, h9, h12, h15, h18, h35, h45⟩
  replace hy50 := im hy50 c85
  refine o_pf rfl rfl rfl (o_z ?_)
  obtain rfl := sm hy50
  replace hB := (((((hB.st S28).st S34).st S44).st S57).st S67).st S74
  replace hx2 := hx2.st S74
  replace h9 := ((((h9.st S34).st S44).st S57).st S67).st S74
  replace h12 := ((((h12.st S34).st S44).st S57).st S67).st S74
  replace h15 := ((((h15.st S34).st S44).st S57).st S67).st S74
  replace h18 := ((((h18.st S34).st S44).st S57).st S67).st S74
  replace h29 := ((((h29.st S34).st S44).st S57).st S67).st S74
  exact ⟨(), _, ⟨rfl, rfl, rfl, rfl, rfl, trivial⟩, hB, hx2, h29, h9, h12, h15, h18, h35, h45⟩
 replace hB := ((hB.st S28).st S34).st S44
 replace hx2 := hx2.st S44
 replace h9 := (h9.st S34).st S44
 replace h12 := (h12.st S34).st S44
 replace h15 := (h15.st S34).st S44
 replace h18 := (h18.st S34).st S44
 replace h29 := (h29.st S34).st S44
 replace h35 := h35.st S44
 rintro l86 w87 ⟨x52, O88, hs89, hB, hx2, h29, h9, h12, h15, h18, h35, h45⟩
 refine ewp_sub _ hs89 ?_
 refine ewp_cond rfl (fun c90 => ?_) (fun c90 => ?_)
 ·
  replace hm := ip hm c90
  refine ewp_seq (ewp_region (o_as rfl rfl (o_z ?_)))
  refine ewp_ret ?_
  obtain rfl := sm hm
  exact ret1v rfl (res_tmp rfl) ⟨hB.ext, vBool⟩
 replace hm := im' hm c90
 refine ewp_skip (ewp_seq (ewp_seq (ewp_region (o_mv rfl rfl (o_ln rfl rfl ?_)))))
 have l92 : q30.length ≤ 9223372036854775807 := Nat.le_trans h35.len.2.1 h35.len.2.2
 have r91 : inI64 (q30.length : Int) := rngNat l92
 refine o_mv rfl rfl (o_z ?_)
 obtain ⟨res93, hL94, hm⟩ := bs hm
 refine ewp_join (aft res93 (fun (s95 : Unit) (x96 : Unit) => []) (fun s95 x96 w' => ∃ O' : Lab, Bs w A w' O')) ?_ ?_
 ·
  refine ewp_block (ewp_rng (σ := Unit) (X := Unit) (q30.length) hL94 rfl l92 (fun (s95 : Unit) (x96 : Unit) => [(2, (.slice A23 x2.length c24)), (3, (.pointer (some ⟨g25, 0, none⟩))), (8, (.slice A47 q40.length c48)), (40, (.slice A37 q30.length c38))]) _ (fun s95 x96 w' => ∃ O' : Lab, Bs w A w' O' ∧ Vb w' (Fr 0 w' O') (.slice A23 x2.length c24) x2 ∧ Lc 2 w' O' g25 26 [(.slice A10 x0.vars.length c11), (.slice A13 x0.init.length c14), (.slice A16 x0.goal.length c17), (.slice A19 x0.ops.length c20)] ∧ Vb w' (Fr 0 w' O') (.slice A10 x0.vars.length c11) x0.vars ∧ Vb w' (Fr 0 w' O') (.slice A13 x0.init.length c14) x0.init ∧ Vb w' (Fr 0 w' O') (.slice A16 x0.goal.length c17) x0.goal ∧ Vb w' (Fr 0 w' O') (.slice A19 x0.ops.length c20) x0.ops ∧ Vb w' (Fr 0 w' O') (.slice A47 q40.length c48) q40 ∧ Rw 3 w' O' 3 (.slice A37 q30.length c38) q30) _ () ⟨O88, hB, hx2, h29, h9, h12, h15, h18, h45, h35⟩ ⟨rfl, rfl, rfl, rfl, rfl, rfl, trivial⟩ (fun _ _ => ⟨rfl, rfl⟩) (fun _ _ => trivial) (fun _ _ _ ⟨O', hB, hx2, h29, h9, h12, h15, h18, h45, h35⟩ => ⟨O', hB⟩) ⟨rfl, rfl, rfl⟩ ⟨rfl, rfl⟩ ?_)
  rintro k97 a98 s95 x96 w99 cc101 hx102 ⟨O100, hB, hx2, h29, h9, h12, h15, h18, h45, h35⟩ hf103 hret104 hbrk105
  have rk97 : inI64 (k97 : Int) := rngK hx102 l92
  refine ewp_seq (ewp_region (o_mv rfl rfl ?_))
  obtain ⟨b108, o109, ce110, hA111, hl112, hd113, rfl, r115⟩ := h35.elem hx102
  refine o_iaE (hA := hA111) (hj := rfl) (hlt := hl112) rfl rfl rfl ?_
  refine o_ld (hc := cat0 hd113) rfl rfl ?_
  refine o_as rfl rfl (o_as rfl rfl (o_z ?_))
  refine ewp_seq (ewp_region (o_la (hl := rfl) (hc := (h29.1).cellsAt) rfl rfl ?_))
  refine o_mv rfl rfl (o_mv rfl rfl ?_)
  obtain ⟨q116, e117, hf103⟩ := bs hf103
  refine l_call (O := O100) (R := fun w' F v => T2 w' F v q116) (c_base_Apply Fr.lt (Vb.ofAgg (cs := [(.slice A10 x0.vars.length c11), (.slice A13 x0.init.length c14), (.slice A16 x0.goal.length c17), (.slice A19 x0.ops.length c20)]) (x := x0) rfl ⟨_, _, _, _, rfl, h9, h12, h15, h18⟩) hx2 r115 e117) rfl rfl fun v122 w118 O119 S120 h121 => ?_
  obtain ⟨v123, v124, rfl, h125, h126⟩ := h121
  obtain ⟨A127, c128, rfl⟩ := h125.form
  obtain rfl := h126.bool
  refine o_mv rfl rfl (o_ex rfl rfl rfl (o_ex rfl rfl rfl (o_as rfl rfl (o_as rfl rfl (o_z ?_)))))
  refine ewp_seq ?_
  obtain ⟨y129, hy130, hf103⟩ := bs hf103
  refine ewp_join (fun l' w' => ∃ (x132 : Unit) (O' : Lab), subs l' [(2, (.slice A23 x2.length c24)), (3, (.pointer (some ⟨g25, 0, none⟩))), (8, (.slice A47 q40.length c48)), (40, (.slice A37 q30.length c38)), (41, (.int .i64 (q30.length : Int))), (42, (.int .i64 (k97 : Int))), (74, (.bool y129))] ∧ Bs w A w' O' ∧ Vb w' (Fr 0 w' O') (.slice A23 x2.length c24) x2 ∧ Lc 2 w' O' g25 26 [(.slice A10 x0.vars.length c11), (.slice A13 x0.init.length c14), (.slice A16 x0.goal.length c17), (.slice A19 x0.ops.length c20)] ∧ Vb w' (Fr 0 w' O') (.slice A10 x0.vars.length c11) x0.vars ∧ Vb w' (Fr 0 w' O') (.slice A13 x0.init.length c14) x0.init ∧ Vb w' (Fr 0 w' O') (.slice A16 x0.goal.length c17) x0.goal ∧ Vb w' (Fr 0 w' O') (.slice A19 x0.ops.length c20) x0.ops ∧ Vb w' (Fr 0 w' O') (.slice A47 q40.length c48) q40 ∧ Rw 3 w' O' 3 (.slice A37 q30.length c38) q30) ?_ ?_
  ·
   refine ewp_region (o_mv rfl rfl (o_nn rfl rfl (o_mv rfl rfl ?_)))
   rcases Bool.eq_false_or_eq_true (!q116.2) with c133 | c133
   ·
    try simp only [c133]
    replace hy130 := ip hy130 c133
    refine owp_no rfl rfl rfl rfl (owp_no rfl rfl rfl rfl (owp_no rfl rfl rfl rfl (owp_no rfl rfl rfl rfl (owp_no rfl rfl rfl rfl (owp_no rfl rfl rfl rfl (owp_no rfl rfl rfl rfl (o_pt rfl rfl rfl (o_mv rfl rfl (owp_no rfl rfl rfl rfl (owp_no rfl rfl rfl rfl (owp_no rfl rfl rfl rfl (owp_no rfl rfl rfl rfl (owp_no rfl rfl rfl rfl (owp_no rfl rfl rfl rfl ?_))))))))))))))
    refine owp_no rfl rfl rfl rfl (owp_no rfl rfl rfl rfl (o_pt rfl rfl rfl (o_z ?_)))
    obtain rfl := sm hy130
    replace hB := hB.st S120
    replace hx2 := hx2.st S120
    replace h9 := h9.st S120
    replace h12 := h12.st S120
    replace h15 := h15.st S120
    replace h18 := h18.st S120
    replace h29 := h29.st S120
    replace h35 := h35.st S120
    replace h45 := h45.st S120
    exact ⟨(), _, ⟨rfl, rfl, rfl, rfl, rfl, rfl, rfl, trivial⟩, hB, hx2, h29, h9, h12, h15, h18, h45, h35⟩
   try simp only [c133]
   replace hy130 := im' hy130 c133
   refine owp_yes rfl rfl (o_mv rfl rfl (owp_yes rfl rfl (o_mv rfl rfl (owp_yes rfl rfl ?_))))
   obtain ⟨a134, e135, hy130⟩ := bs hy130
   replace h45 := h45.st S120
   obtain ⟨b136, o137, ce138, hA139, hl140, hd141, v143, rfl, h144, r147⟩ := h45.elem' e135
   obtain ⟨A145, c146, rfl⟩ := h144.form
   refine o_iaE (hA := hA139) (hj := rfl) (hlt := hl140) rfl rfl rfl ?_
   refine owp_yes rfl rfl (o_fa rfl rfl (owp_yes rfl rfl (o_ld (hc := cat0 hd141) rfl rfl ?_)))
   refine owp_yes rfl rfl (o_mv rfl rfl (owp_yes rfl rfl (o_neS rfl rfl rfl (fun c148 => ?_) fun c148 => ?_)))
   ·
    replace hy130 := ip hy130 c148
    refine o_pf rfl rfl rfl (o_mv rfl rfl (owp_no rfl rfl rfl rfl (owp_no rfl rfl rfl rfl (owp_no rfl rfl rfl rfl (owp_no rfl rfl rfl rfl (owp_no rfl rfl rfl rfl (owp_no rfl rfl rfl rfl (owp_no rfl rfl rfl rfl (owp_no rfl rfl rfl rfl (o_pt rfl rfl rfl (o_z ?_)))))))))))
    obtain rfl := sm hy130
    replace hB := hB.st S120
    replace hx2 := hx2.st S120
    replace h9 := h9.st S120
    replace h12 := h12.st S120
    replace h15 := h15.st S120
    replace h18 := h18.st S120
    replace h29 := h29.st S120
    replace h35 := h35.st S120
    exact ⟨(), _, ⟨rfl, rfl, rfl, rfl, rfl, rfl, rfl, trivial⟩, hB, hx2, h29, h9, h12, h15, h18, h45, h35⟩
   replace hy130 := im hy130 c148
   refine o_pf rfl rfl rfl (o_mv rfl rfl (owp_yes rfl rfl (o_mv rfl rfl (owp_yes rfl rfl (o_mv rfl rfl (owp_yes rfl rfl ?_))))))
   obtain ⟨a149, e150, hy130⟩ := bs hy130
   obtain ⟨b151, o152, ce153, hA154, hl155, hd156, v158, rfl, h159, r162⟩ := h45.elem' e150
   obtain ⟨A160, c161, rfl⟩ := h159.form
   refine o_iaE (hA := hA154) (hj := rfl) (hlt := hl155) rfl rfl rfl ?_
   refine owp_yes rfl rfl (o_fa rfl rfl (owp_yes rfl rfl (o_ld (hc := cat1 hd156) rfl rfl ?_)))
   refine owp_yes rfl rfl (o_mv rfl rfl (owp_yes rfl rfl ?_))
   obtain ⟨q163, e164, hy130⟩ := bs hy130
   refine l_callA (O := O119) (A := All w118) (R := fun w' F v => Vb w' F v q163) (c_base_Ints (fun _ h => h) (Vb.mono (F := Fr 0 w118 O119) h159 Fr.lt) (Vb.mono (F := Fr 0 w118 O119) h125 Fr.lt) e164) rfl rfl fun v169 w165 O166 S167 h168 => ?_
   obtain rfl := h168.bool
   cases q163
   case false =>
    replace hy130 := iF hy130
    refine owp_yes rfl rfl (o_nf rfl rfl (o_pf rfl rfl rfl (o_z ?_)))
    obtain rfl := sm hy130
    replace hB := (hB.st S120).st S167
    replace hx2 := (hx2.st S120).st S167
    replace h9 := (h9.st S120).st S167
    replace h12 := (h12.st S120).st S167
    replace h15 := (h15.st S120).st S167
    replace h18 := (h18.st S120).st S167
    replace h29 := (h29.st S120).st S167
    replace h35 := (h35.st S120).st S167
    replace h45 := h45.st S167
    exact ⟨(), _, ⟨rfl, rfl, rfl, rfl, rfl, rfl, rfl, trivial⟩, hB, hx2, h29, h9, h12, h15, h18, h45, h35⟩
   replace hy130 := iT hy130
   refine owp_yes rfl rfl (o_nt rfl rfl (o_pf rfl rfl rfl (o_z ?_)))
   obtain rfl := sm hy130
   replace hB := (hB.st S120).st S167
   replace hx2 := (hx2.st S120).st S167
   replace h9 := (h9.st S120).st S167
   replace h12 := (h12.st S120).st S167
   replace h15 := (h15.st S120).st S167
   replace h18 := (h18.st S120).st S167
   replace h29 := (h29.st S120).st S167
   replace h35 := (h35.st S120).st S167
   replace h45 := h45.st S167
   exact ⟨(), _, ⟨rfl, rfl, rfl, rfl, rfl, rfl, rfl, trivial⟩, hB, hx2, h29, h9, h12, h15, h18, h45, h35⟩
  replace hB := hB.st S120
  replace hx2 := hx2.st S120
  replace h9 := h9.st S120
  replace h12 := h12.st S120
  replace h15 := h15.st S120
  replace h18 := h18.st S120
  replace h29 := h29.st S120
  replace h35 := h35.st S120
  replace h45 := h45.st S120
  rintro l170 w171 ⟨x132, O172, hs173, hB, hx2, h29, h9, h12, h15, h18, h45, h35⟩
  refine ewp_sub _ hs173 ?_
  refine ewp_cond rfl (fun c174 => ?_) (fun c174 => ?_)
  ·
   replace hf103 := ip hf103 c174
   refine ewp_seq (ewp_region (o_as rfl rfl (o_z ?_)))
   refine ewp_ret ?_
   obtain rfl := sm hf103
   obtain rfl := hret104 _ rfl
   obtain rfl := sm (fin_ret hm)
   exact ret1v rfl (res_tmp rfl) ⟨hB.ext, vBool⟩
  replace hf103 := im' hf103 c174
  refine ewp_skip ?_
  obtain rfl := sm hf103
  exact show Exists _ from ⟨_, (), rfl, ⟨rfl, rfl, rfl, rfl, rfl, rfl, trivial⟩, _, hB, hx2, h29, h9, h12, h15, h18, h45, h35⟩
 rintro l175 w176 ⟨s179, x180, rfl, hs178, O177, hB⟩
 replace hm := fin_done hm
 refine ewp_sub _ hs178 ?_
 refine ewp_seq (ewp_region (o_as rfl rfl (o_z ?_)))
 refine ewp_ret ?_
 obtain rfl := sm hm
 exact ret1v rfl (res_tmp rfl) ⟨hB.ext, vBool⟩
end
section
section
variable {α σ ρ : Type}
theorem fin_d {s : σ} {f : σ → Option ρ} : fin (.done s) f = f s := rfl
theorem if_t {x y : α} : (if true = true then x else y) = x := rfl
theorem if_f {x y : α} : (if false = true then x else y) = y := rfl
theorem not_t {x y : α} : (if (!true) = true then x else y) = y := rfl
theorem rng_inv_from {f : Nat → α → σ → Option (Ctl σ ρ)} {I : Nat → σ → Prop} {R : ρ → Prop} : ∀ (ys : List α) (j : Nat) (s : σ), I j s →
    (∀ k x s, ys[k]? = some x → I (j + k) s → (∃ s', f (j + k) x s = some (.next s') ∧ I (j + k + 1) s') ∨ (∃ r, f (j + k) x s = some (.ret r) ∧ R r)) →
    (∃ s', rng f ys j s = some (.done s') ∧ I (j + ys.length) s') ∨ ∃ r, rng f ys j s = some (.ret r) ∧ R r
  | [], j, s, h0, _ => .inl ⟨s, rfl, h0⟩
  | y :: ys, j, s, h0, h => by
    rcases h 0 y s rfl h0 with ⟨s', h1, h2⟩ | ⟨r, h1, h2⟩
    · have h1' : f j y s = some (.next s') := h1
      simp only [rng, h1']
      rcases rng_inv_from (I := I) (R := R) ys (j + 1) s' h2 (fun k x s hk hI => by
        have := h (k + 1) x s (by simpa using hk) (by rwa [show j + (k + 1) = j + 1 + k from by omega])
        rwa [show j + (k + 1) = j + 1 + k from by omega] at this) with ⟨s2, h3, h4⟩ | h3
      · exact .inl ⟨s2, h3, by rw [List.length_cons, show j + (ys.length + 1) = j + 1 + ys.length from by omega]; exact h4⟩
      · exact .inr h3
    · have h1' : f j y s = some (.ret r) := h1
      simp only [rng, h1']
      exact .inr ⟨r, rfl, h2⟩
theorem rng_inv {f : Nat → α → σ → Option (Ctl σ ρ)} {xs : List α} {s₀ : σ} (I : Nat → σ → Prop) (R : ρ → Prop) (h0 : I 0 s₀)
    (h : ∀ k x s, xs[k]? = some x → I k s → (∃ s', f k x s = some (.next s') ∧ I (k + 1) s') ∨ (∃ r, f k x s = some (.ret r) ∧ R r)) :
    (∃ s', rng f xs 0 s₀ = some (.done s') ∧ I xs.length s') ∨ ∃ r, rng f xs 0 s₀ = some (.ret r) ∧ R r := by
  have := rng_inv_from (f := f) (I := I) (R := R) xs 0 s₀ h0 (fun k x s hk hI => by rw [Nat.zero_add] at hI ⊢; exact h k x s hk hI)
  rwa [Nat.zero_add] at this
/-- A loop that runs to its end. -/
theorem rng_all {f : Nat → α → σ → Option (Ctl σ ρ)} {xs : List α} {s₀ : σ} (I : Nat → σ → Prop) (h0 : I 0 s₀) (h : ∀ k x s, xs[k]? = some x → I k s → ∃ s', f k x s = some (.next s') ∧ I (k + 1) s') :
    ∃ s', rng f xs 0 s₀ = some (.done s') ∧ I xs.length s' := by
  rcases rng_inv I (fun _ => False) h0 (fun k x s hk hI => .inl (h k x s hk hI)) with h | ⟨_, _, h⟩
  · exact h
  · exact h.elim
/-- A loop whose state is known in each round. -/
theorem rng_fun {f : Nat → α → σ → Option (Ctl σ ρ)} {xs : List α} (g : Nat → σ) (h : ∀ k x, xs[k]? = some x → f k x (g k) = some (.next (g (k + 1)))) : rng f xs 0 (g 0) = some (.done (g xs.length)) := by
  obtain ⟨s', h1, h2⟩ := rng_all (f := f) (xs := xs) (s₀ := g 0) (fun k s => s = g k) rfl (fun k x s hk hI => ⟨_, by rw [hI]; exact h k x hk, rfl⟩)
  rw [h1, h2]
theorem rng_from {f : Nat → α → σ → Option (Ctl σ ρ)} {xs : List α} {s₀ : σ} (g : Nat → σ) (h0 : s₀ = g 0) (h : ∀ k x, xs[k]? = some x → f k x (g k) = some (.next (g (k + 1)))) : rng f xs 0 s₀ = some (.done (g xs.length)) := by
  rw [h0]; exact rng_fun g h
theorem rng_unit {f : Nat → α → Unit → Option (Ctl Unit ρ)} {xs : List α} (h : ∀ k x, xs[k]? = some x → f k x () = some (.next ())) : rng f xs 0 () = some (.done ()) := rng_fun (fun _ => ()) h
theorem rngN_fun {f : Nat → σ → Option (Ctl σ ρ)} {N : Nat} (g : Nat → σ) (h : ∀ k, k < N → f k (g k) = some (.next (g (k + 1)))) : rngN f N (g 0) = some (.done (g N)) := by
  have := rng_fun (f := fun _ k s => f k s) (xs := List.range N) g (fun k x hk => by
    obtain ⟨hlt, rfl⟩ := List.getElem?_eq_some_iff.1 hk
    simpa using h k (by simpa using hlt))
  rwa [List.length_range] at this
theorem rngN_from {f : Nat → σ → Option (Ctl σ ρ)} {N : Nat} {s₀ : σ} (g : Nat → σ) (h0 : s₀ = g 0) (h : ∀ k, k < N → f k (g k) = some (.next (g (k + 1)))) : rngN f N s₀ = some (.done (g N)) := by
  rw [h0]; exact rngN_fun g h
theorem rngN_all {f : Nat → σ → Option (Ctl σ ρ)} {N : Nat} {s₀ : σ} (I : Nat → σ → Prop) (h0 : I 0 s₀) (h : ∀ k s, k < N → I k s → ∃ s', f k s = some (.next s') ∧ I (k + 1) s') :
    ∃ s', rngN f N s₀ = some (.done s') ∧ I N s' := by
  have := rng_all (f := fun _ k s => f k s) (xs := List.range N) (s₀ := s₀) I h0 (fun k x s hk hI => by
    obtain ⟨hlt, rfl⟩ := List.getElem?_eq_some_iff.1 hk
    simpa using h k s (by simpa using hlt) hI)
  rwa [List.length_range] at this
end
end
section
open Go Go.RowKit
theorem states_eq {vars : List Int} (h0 : ∀ (i : Nat) n, vars[i]? = some n → 0 ≤ n ∧ n ≤ 64) (hb : ∀ k, (statesL (vars.take k)).length ≤ 1000000) (hvn : vars.length ≤ 1000) : m_base_States vars = some (statesL vars) := by
  unfold m_base_States
  rw [rng_from (fun k => statesL (vars.take k)) ?_ ?_]
  · rw [bnd_some, fin_d, List.take_length]
  · rfl
  intro k n hn
  obtain ⟨N, rfl⟩ := Int.eq_ofNat_of_zero_le (h0 k n hn).1
  have hN := (h0 k _ hn).2
  have hk := lt_of_get hn
  have hlen := hb k
  rw [rng_from (fun i => ((statesL (vars.take k)).take i).flatMap (exts N)) ?_ ?_]
  · rw [bnd_some, fin_d, List.take_length, statesL_step hn]; rfl
  · rfl
  intro i s hs
  have hsl := statesL_mem vars k (by omega) s (List.mem_of_getElem? hs)
  have hfl := grows_len N ((statesL (vars.take k)).take i)
  have hfl2 : ((statesL (vars.take k)).take i).length * N ≤ 1000000 * 64 := Nat.mul_le_mul (by rw [List.length_take]; omega) (by omega)
  rw [natI_eq, bnd_some, rngN_from (fun x => ((statesL (vars.take k)).take i).flatMap (exts N) ++ exts x s) ?_ ?_]
  · rw [bnd_some, fin_d, flat_step _ hs]
  · simp [exts]
  intro x hx
  rw [appI_eq (by simp; omega) (by simp; omega), bnd_some, appI_eq (by simp; omega) (by simp; omega), bnd_some, appI_eq (by simp only [List.length_append, exts_len, List.length_singleton]; omega) (by simp only [List.length_append, exts_len, List.length_singleton]; omega), bnd_some, exts_step]
  simp
theorem holds_eq (f : List Fct) (s : List Int) : m_base_Holds f s = some (holdsB f s) := rfl
theorem effs_run {ρ : Type} {s : List Int} {effs : List Eff} (he : EffsIn s effs) (m : List Fct → List Int → Option Bool) (hm : ∀ f s, m f s = some (holdsB f s)) (u : List Int) (hu : u.length = s.length) :
    rng (ρ := ρ) (fun (_ : Nat) (e : Eff) (out : List Int) => bnd (m e.cond s) fun q => if q = true then bnd (atI out e.var) fun _ => some (.next (out.set (e.var).toNat e.val)) else some (.next out)) effs 0 u = some (.done (effsOn s effs u)) := by
  rw [rng_from (fun k => effsOn s (effs.take k) u) ?_ ?_, List.take_length]
  · rfl
  intro k e hk
  rw [hm, bnd_some, effsOn_step s hk]
  have hin := he k e hk
  have hl := effsOn_length s (effs.take k) u
  by_cases hb : holdsB e.cond s = true
  · rw [if_pos hb, if_pos hb]
    obtain ⟨j, hj⟩ := Int.eq_ofNat_of_zero_le hin.1
    rw [hj, atI_eq, List.getElem?_eq_getElem (by omega), bnd_some]
  · rw [if_neg hb, if_neg hb]
theorem apply_eq {t : Tsk} {s : List Int} {j : Nat} {o : Opr} (ho : t.ops[j]? = some o) (hp : holdsB o.pre s = true) (hl : s.length ≤ 1000000) (he : EffsIn s o.effs) : m_base_Apply t s (j : Int) = some (succ o s, true) := by
  have hj := lt_of_get ho
  unfold m_base_Apply
  rw [if_neg (by omega), if_neg (by omega), atI_eq, ho, bnd_some, holds_eq, bnd_some, hp, if_t, bnd_some, if_f, appI_eq (by simp; omega) (by simp; omega), bnd_some, bnd_some, List.nil_append, effs_run he m_base_Holds holds_eq s rfl, bnd_some, fin_d]
  rfl
theorem clone_eq {s : List Int} (hl : s.length ≤ 1000000) : m_slices_Clone_Lint_int s = some s := if_pos ⟨by omega, by omega⟩
theorem succ_eq {t : Tsk} {s : List Int} (hok : TaskOk t) (hl : s.length ≤ 1000000) : m_succgen_Generator_Successors (some ⟨t⟩) s = some ((appS t s).map (sucOf t s)) := by
  have ha : m_succgen_Generator_Applicable (some ⟨t⟩) s = some (appS t s) := if_pos hl
  have hol := hok.2.1
  have hal := appS_len t s
  unfold m_succgen_Generator_Successors
  rw [ha, bnd_some]
  rw [rng_from (fun k => ((appS t s).take k).map (sucOf t s)) ?_ ?_, bnd_some, fin_d, List.take_length]
  · rfl
  intro k x hk
  have hkl := lt_of_get hk
  obtain ⟨hst, hmem⟩ := appS_mem (List.mem_of_getElem? hk)
  obtain ⟨j, o, rfl, hj, hp⟩ := appl_mem hmem
  rw [clone_eq hl, bnd_some, bnd_some, atI_eq, hj, bnd_some, effs_run (hok.effs hst j o hj) m_task_Holds (fun _ _ => rfl) s rfl, bnd_some, fin_d, appI_eq (by simp; omega) (by simp; omega), bnd_some, List.take_add_one, hk, List.map_append]
  simp [sucOf, hj, succ]
theorem new_ok {t : Tsk} (h : TaskOk t) : m_succgen_New t = some (some ⟨t⟩, ⟨0⟩) := by unfold m_succgen_New; rw [bof_t h, if_t, check_ok.2 h]
theorem appl_ok {t : Tsk} {s : List Int} (h : StateOk t.vars s) (hl : s.length ≤ 1000000) : m_succgen_Generator_Applicable (some ⟨t⟩) s = some (appl t s) := by
  have : m_succgen_Generator_Applicable (some ⟨t⟩) s = some (appS t s) := if_pos hl
  rw [this, appS_ok h]
theorem ints_t {a : List Int} : m_base_Ints a a = some true := by unfold m_base_Ints; rw [bof_t rfl]
theorem state_len {t : Tsk} {s : List Int} (h : TaskOk t) (hs : StateOk t.vars s) : s.length ≤ 1000000 := by have := hs.1; have := h.1; omega
theorem awake_eq : m_law24_awake = some true := by
  have h1 : m_law24_example = some tskEx := rfl
  have h2 : (appS tskEx [0, 0]).map (sucOf tskEx [0, 0]) = [⟨1, [0, 2]⟩] := by rw [ex_a1]; rfl
  have h3 : m_succgen_Generator_Applicable (some ⟨tskEx⟩) [0, 0] = some [1] := by rw [← ex_a1]; exact if_pos (by decide)
  have h4 : m_succgen_Generator_Applicable (some ⟨tskEx⟩) [1, 2] = some [0, 1, 2] := by rw [← ex_a2]; exact if_pos (by decide)
  unfold m_law24_awake
  rw [h1, bnd_some, new_ok ex_ok, bnd_some, if_neg (by simp), if_neg (by simp), bnd_some, if_f, succ_eq ex_ok (by decide), bnd_some, h2, h3, bnd_some, ints_t, bnd_some, if_t, h4, bnd_some, ints_t, bnd_some, if_t, if_pos (by simp)]
  rw [show atI [(⟨1, [0, 2]⟩ : Suc)] 0 = some ⟨1, [0, 2]⟩ from rfl, bnd_some, if_pos rfl, bnd_some, ints_t]
  rfl
theorem right_eq {t : Tsk} {s : List Int} (hok : TaskOk t) (hs : StateOk t.vars s) : m_law24_right t (some ⟨t⟩) s = some true := by
  have hl := state_len hok hs
  have hol := hok.2.1
  have h1 : m_ref24_Applicable t s = some (appl t s) := if_pos (by omega)
  have h2 : m_succgen_Generator_Count (some ⟨t⟩) s = some ((appl t s).length : Int) := by rw [← appS_ok hs]; exact if_pos hl
  unfold m_law24_right
  rw [h1, bnd_some, succ_eq hok hl, bnd_some, appl_ok hs hl, bnd_some, ints_t, bnd_some, if_t, h2, bnd_some, if_neg (by simp), if_neg (by rw [List.length_map, appS_ok hs]; simp), bnd_some, if_f, rng_unit, bnd_some, fin_d]
  intro k x hk
  obtain ⟨j, o, rfl, hj, hp⟩ := appl_mem (List.mem_of_getElem? hk)
  have hget : ((appS t s).map (sucOf t s))[k]? = some ⟨(j : Int), succ o s⟩ := by rw [appS_ok hs, List.getElem?_map, hk]; simp [sucOf, hj]
  rw [apply_eq hj hp hl (hok.effs hs j o hj), bnd_some, not_t, hget, bnd_some, if_neg (by simp), bnd_some, ints_t, bnd_some, if_t, bnd_some, if_f]
theorem states_small {t : Tsk} (h : SmallOk t) : m_base_States t.vars = some (statesL t.vars) :=
  states_eq (fun i n hn => by have := h.ok.vars i n hn; omega) (fun k => by have := h.states k; omega) (by have := h.1; omega)
theorem small_t {t : Tsk} (h : SmallOk t) : m_base_Small t = some true := by unfold m_base_Small; rw [bof_t h]
theorem small_f {t : Tsk} (h : ¬ SmallOk t) : m_base_Small t = some false := by unfold m_base_Small; rw [bof_f h]
end
section
open Go Go.RowKit
attribute [local irreducible] ewp owp hwp hwq hws Ev Evg Fn retPost loud loudS Res1
noncomputable def m_succgen_Generator_Successors_nr (x0 : Option Gnr) (x1 : List Int) : Option (List Suc) :=
  bnd (m_succgen_Generator_Applicable x0 x1) fun q7 => bnd (rng (ρ := (List Suc)) (fun (k23 : Nat) (a24 : Int) (s21 : (List Suc)) => bnd (m_slices_Clone_Lint_int x1) fun q46 => bnd (x0) fun o56 => bnd (atI o56.t.ops a24) fun a88 => bnd (rng (ρ := Ctl (List Suc) (List Suc)) (fun (k115 : Nat) (a116 : Eff) (s113 : (List Int)) => bnd (m_task_Holds a116.cond x1) fun q150 => if q150 = true then bnd (atI s113 a116.var) fun a157 => some (.next (s113.set (a116.var : Int).toNat a116.val)) else some (.next s113)) a88.effs 0 q46) fun res111 => fin res111 fun (s175 : (List Int)) => bnd (appI 32 s21 [(⟨a24, s175⟩ : Suc)]) fun u177 => some (.next u177)) q7 0 ([] : List Suc)) fun res19 => fin res19 fun (s193 : (List Suc)) => some s193
theorem c_succgen_Generator_Successors_nr {w : World} {A : Nat → Prop} (hA : ∀ k, A k → k < w.heap.size) {vx0 : Value} {x0 : Option Gnr} (hx0 : Vb w A vx0 x0) {vx1 : Value} {x1 : List Int} (hx1 : Vb w A vx1 x1) {r : (List Suc)} (hm : m_succgen_Generator_Successors_nr x0 x1 = some r) :
    Fn Try.prog 20 [vx0, vx1] w fun v w' => Ext w w' ∧ NRout Int w w' (upA A w w') 56 3 v r := by
 obtain ⟨O, hB, hA0⟩ := enter hA
 replace hx0 := hx0.mono hA0
 obtain ⟨p3, rfl, hq4⟩ := hx0.ptr
 replace hx1 := hx1.mono hA0
 obtain ⟨A5, c6, rfl⟩ := hx1.form
 refine fn_enter Try.func20 rfl Try.ntmps20 rfl ?_
 unfold m_succgen_Generator_Successors_nr at hm
 refine ewp_seq (ewp_region (o_as rfl rfl (o_z ?_)))
 refine ewp_seq (ewp_region (o_as rfl rfl (o_z ?_)))
 refine ewp_seq (ewp_seq (ewp_region (o_mv rfl rfl (o_mv rfl rfl ?_))))
 obtain ⟨q7, e8, hm⟩ := bs hm
 refine l_callRow 2 (by decide) (O := O) (c_succgen_Generator_Applicable Fr.lt hx0 hx1 e8) rfl rfl fun A14 c15 w9 O10 S11 h12 => ?_
 refine o_ln rfl rfl ?_
 have l18 : q7.length ≤ 9223372036854775807 := Nat.le_trans h12.len.2.1 h12.len.2.2
 have r17 : inI64 (q7.length : Int) := rngNat l18
 refine o_mv rfl rfl (o_z ?_)
 obtain ⟨res19, hL20, hm⟩ := bs hm
 refine ewp_join (aft res19 (fun (s21 : (List Suc)) (x22 : (Option Addr × Nat)) => [(5, (.slice x22.1 s21.length x22.2))]) (fun s21 x22 w' => ∃ O' : Lab, Bs w A w' O' ∧ NR Int 5 w' O' 56 3 (.slice x22.1 s21.length x22.2) s21 none)) ?_ ?_
 ·
  refine ewp_block ?_
  replace hx0 := hx0.st S11
  replace hB := hB.st S11
  replace hx1 := hx1.st S11
  refine ewp_rng (σ := (List Suc)) (X := (Option Addr × Nat)) (q7.length) hL20 rfl l18 (fun (s21 : (List Suc)) (x22 : (Option Addr × Nat)) => [(0, (.pointer p3)), (1, (.slice A5 x1.length c6)), (5, (.slice x22.1 s21.length x22.2)), (13, (.slice A14 q7.length c15))]) _ (fun s21 x22 w' => ∃ O' : Lab, Bs w A w' O' ∧ Vb w' (Fr 0 w' O') (.pointer p3) x0 ∧ Vb w' (Fr 0 w' O') (.slice A5 x1.length c6) x1 ∧ NR Int 5 w' O' 56 3 (.slice x22.1 s21.length x22.2) s21 none ∧ Rw 2 w' O' 3 (.slice A14 q7.length c15) q7) _ (none, 0) ⟨O10, hB, hx0, hx1, (NR.nil 5 (by decide)), h12⟩ ⟨rfl, rfl, rfl, rfl, rfl, rfl, trivial⟩ (fun _ _ => ⟨rfl, rfl⟩) (fun _ _ => ⟨rfl, trivial⟩) (fun _ _ _ ⟨O', hB, hx0, hx1, h36, h12⟩ => ⟨O', hB, h36⟩) ⟨rfl, rfl, rfl⟩ ⟨rfl, rfl⟩ ?_
  rintro k23 a24 s21 x22 w25 cc27 hx28 ⟨O26, hB, hx0, hx1, h36, h12⟩ hf29 hret30 hbrk31
  have rk23 : inI64 (k23 : Int) := rngK hx28 l18
  refine ewp_seq (ewp_region ?_)
  obtain ⟨b38, o39, ce40, hA41, hl42, hd43, rfl, r45⟩ := h12.elem hx28
  refine o_iaE (hA := hA41) (hj := rfl) (hlt := hl42) rfl rfl rfl ?_
  refine o_ld (hc := cat0 hd43) rfl rfl ?_
  refine o_as rfl rfl (o_z ?_)
  refine ewp_seq (ewp_region (o_mv rfl rfl ?_))
  obtain ⟨q46, e47, hf29⟩ := bs hf29
  refine l_callRow 3 (by decide) (O := O26) (c_slices_Clone_Lint_int Fr.lt hx1 e47) rfl rfl fun A53 c54 w48 O49 S50 h51 => ?_
  refine o_as rfl rfl (o_z ?_)
  refine ewp_seq (ewp_seq (ewp_region (o_mv rfl rfl ?_)))
  obtain ⟨o56, e57, hf29⟩ := bs hf29
  obtain ⟨ad59, hp58⟩ := some_of_isNone (hq4.trans (by rw [e57]; rfl))
  refine o_ncE (hA := hp58) rfl rfl ?_
  replace hx0 := hx0.st S50
  obtain ⟨b84, v67, v71, v75, v79, v83, hA85, hF86, hd87, h68, h72, h76, h80⟩ := Gnr_open hx0 e57
  obtain ⟨A69, c70, rfl⟩ := h68.form
  obtain ⟨A73, c74, rfl⟩ := h72.form
  obtain ⟨A77, c78, rfl⟩ := h76.form
  obtain ⟨A81, c82, rfl⟩ := h80.form
  refine o_faE (hA := hA85) rfl rfl ?_
  refine o_fa rfl rfl (o_ld (hc := cat3 hd87) rfl rfl ?_)
  refine o_mv rfl rfl ?_
  obtain ⟨a88, e89, hf29⟩ := bs hf29
  obtain ⟨p91, x90⟩ := atI_some' e89
  obtain ⟨b92, o93, ce94, hA95, hl96, hd97, v99, v100, rfl, h101, h104, r107, z108⟩ := h80.elem' x90
  obtain ⟨A102, c103, rfl⟩ := h101.form
  obtain ⟨A105, c106, rfl⟩ := h104.form
  refine o_iaE (hA := hA95) (hj := (Int.toNat_of_nonneg p91).symm) (hlt := hl96) rfl rfl rfl ?_
  refine o_fa rfl rfl (o_ld (hc := cat3 hd97) rfl rfl ?_)
  refine o_ln rfl rfl ?_
  have l110 : a88.effs.length ≤ 9223372036854775807 := Nat.le_trans h104.len.2.1 h104.len.2.2
  have r109 : inI64 (a88.effs.length : Int) := rngNat l110
  refine o_mv rfl rfl (o_z ?_)
  obtain ⟨res111, hL112, hf29⟩ := bs hf29
  refine ewp_join (aft res111 (fun (s113 : (List Int)) (x114 : Unit) => [(0, (.pointer p3)), (1, (.slice A5 x1.length c6)), (5, (.slice x22.1 s21.length x22.2)), (7, (.int .i64 a24)), (8, (.slice A53 q46.length c54)), (13, (.slice A14 q7.length c15)), (14, (.int .i64 (q7.length : Int))), (15, (.int .i64 (k23 : Int)))]) (fun s113 x114 w' => ∃ O' : Lab, Bs w A w' O' ∧ Vb w' (Fr 0 w' O') (.pointer p3) x0 ∧ Vb w' (Fr 0 w' O') (.slice A5 x1.length c6) x1 ∧ NR Int 5 w' O' 56 3 (.slice x22.1 s21.length x22.2) s21 none ∧ Rw 3 w' O' 3 (.slice A53 q46.length c54) s113 ∧ Rw 2 w' O' 3 (.slice A14 q7.length c15) q7)) ?_ ?_
  ·
   refine ewp_block ?_
   replace hB := hB.st S50
   replace hx1 := hx1.st S50
   replace h12 := h12.st S50
   replace h36 := h36.st S50
   refine ewp_rng (σ := (List Int)) (X := Unit) (a88.effs.length) hL112 rfl l110 (fun (s113 : (List Int)) (x114 : Unit) => [(0, (.pointer p3)), (1, (.slice A5 x1.length c6)), (5, (.slice x22.1 s21.length x22.2)), (7, (.int .i64 a24)), (8, (.slice A53 q46.length c54)), (13, (.slice A14 q7.length c15)), (14, (.int .i64 (q7.length : Int))), (15, (.int .i64 (k23 : Int))), (29, (.slice A105 a88.effs.length c106))]) _ (fun s113 x114 w' => ∃ O' : Lab, Bs w A w' O' ∧ Vb w' (Fr 0 w' O') (.pointer p3) x0 ∧ Vb w' (Fr 0 w' O') (.slice A5 x1.length c6) x1 ∧ NR Int 5 w' O' 56 3 (.slice x22.1 s21.length x22.2) s21 none ∧ Rw 3 w' O' 3 (.slice A53 q46.length c54) s113 ∧ Rw 2 w' O' 3 (.slice A14 q7.length c15) q7 ∧ Vb w' (Fr 0 w' O') (.slice A105 a88.effs.length c106) a88.effs) _ () ⟨O49, hB, hx0, hx1, h36, h51, h12, h104⟩ ⟨rfl, rfl, rfl, rfl, rfl, rfl, rfl, rfl, rfl, rfl, rfl, trivial⟩ (fun _ _ => ⟨rfl, rfl⟩) (fun _ _ => ⟨rfl, rfl, rfl, rfl, rfl, rfl, rfl, rfl, trivial⟩) (fun _ _ _ ⟨O', hB, hx0, hx1, h36, h128, h12, h104⟩ => ⟨O', hB, hx0, hx1, h36, h128, h12⟩) ⟨rfl, rfl, rfl⟩ ⟨rfl, rfl⟩ ?_
   rintro k115 a116 s113 x114 w117 cc119 hx120 ⟨O118, hB, hx0, hx1, h36, h128, h12, h104⟩ hf121 hret122 hbrk123
   have rk115 : inI64 (k115 : Int) := rngK hx120 l110
   refine ewp_seq (ewp_region ?_)
   obtain ⟨b130, o131, ce132, hA133, hl134, hd135, v137, rfl, h138, r141, r142⟩ := h104.elem' hx120
   obtain ⟨A139, c140, rfl⟩ := h138.form
   refine o_iaE (hA := hA133) (hj := rfl) (hlt := hl134) rfl rfl rfl ?_
   refine o_la (hl := rfl) (hc := hd135) rfl rfl ?_
   refine l_alloc 4 O118 rfl fun g143 w144 O145 S146 h147 => ?_
   refine l_store h147 rfl rfl rfl (nle_b rfl) (allOne rfl) fun w148 S149 h147 => ?_
   replace h147 : Lc 4 w148 O145 g143 52 [(.slice A139 a116.cond.length c140), (.int .i64 a116.var), (.int .i64 a116.val)] := h147
   refine o_z ?_
   refine ewp_seq (ewp_region (o_fa rfl rfl (o_ld (hc := Blk.cell (i := 0) (h147.1) rfl) rfl rfl ?_)))
   refine o_mv rfl rfl ?_
   obtain ⟨q150, e151, hf121⟩ := bs hf121
   replace hx1 := (hx1.st S146).st S149
   replace h138 := (h138.st S146).st S149
   refine l_callA (O := O145) (A := All w148) (R := fun w' F v => Vb w' F v q150) (c_task_Holds (fun _ h => h) (Vb.mono (F := Fr 0 w148 O145) h138 Fr.lt) (Vb.mono (F := Fr 0 w148 O145) hx1 Fr.lt) e151) rfl rfl fun v156 w152 O153 S154 h155 => ?_
   obtain rfl := h155.bool
   cases q150
   case false =>
    replace hf121 := iF hf121
    refine o_z ?_
    refine ewp_false rfl (ewp_skip ?_)
    obtain rfl := sm hf121
    replace hx0 := ((hx0.st S146).st S149).st S154
    replace hB := ((hB.st S146).st S149).st S154
    replace hx1 := hx1.st S154
    replace h12 := ((h12.st S146).st S149).st S154
    replace h36 := ((h36.st S146).st S149).st S154
    replace h104 := ((h104.st S146).st S149).st S154
    replace h128 := ((h128.st S146).st S149).st S154
    exact show Exists _ from ⟨_, (), rfl, ⟨rfl, rfl, rfl, rfl, rfl, rfl, rfl, rfl, rfl, rfl, rfl, trivial⟩, _, hB, hx0, hx1, h36, h128, h12, h104⟩
   replace hf121 := iT hf121
   refine o_z ?_
   refine ewp_true rfl (ewp_region (o_mv rfl rfl (o_fa rfl rfl ?_)))
   replace h147 := h147.st S154
   refine o_ld (hc := Blk.cell (i := 1) (h147.1) rfl) rfl rfl ?_
   refine o_fa rfl rfl (o_ld (hc := Blk.cell (i := 2) (h147.1) rfl) rfl rfl ?_)
   obtain ⟨a157, e158, hf121⟩ := bs hf121
   obtain ⟨p160, x159⟩ := atI_some' e158
   replace h128 := ((h128.st S146).st S149).st S154
   obtain ⟨b161, o162, ce163, hA164, hl165, hd166, rfl, r168⟩ := h128.elem x159
   refine o_iaE (hA := hA164) (hj := (Int.toNat_of_nonneg p160).symm) (hlt := hl165) rfl rfl rfl ?_
   refine l_setE rfl h128 (a := a116.val) (vInt r142) hA164 rfl rfl (lt_of_get x159) fun w169 S170 h128 => ?_
   refine o_z ?_
   obtain rfl := sm hf121
   replace hx0 := (((hx0.st S146).st S149).st S154).st S170
   replace hB := (((hB.st S146).st S149).st S154).st S170
   replace hx1 := (hx1.st S154).st S170
   replace h12 := (((h12.st S146).st S149).st S154).st S170
   replace h36 := (((h36.st S146).st S149).st S154).st S170
   replace h104 := (((h104.st S146).st S149).st S154).st S170
   exact show Exists _ from ⟨_, (), rfl, ⟨rfl, rfl, rfl, rfl, rfl, rfl, rfl, rfl, rfl, rfl, rfl, trivial⟩, _, hB, hx0, hx1, h36, h128, h12, h104⟩
  replace hB := hB.st S50
  replace hx1 := hx1.st S50
  replace h12 := h12.st S50
  replace h36 := h36.st S50
  rintro l171 w172 ⟨s175, x176, rfl, hs174, O173, hB, hx0, hx1, h36, h128, h12⟩
  replace hf29 := fin_done hf29
  refine ewp_sub _ hs174 ?_
  refine ewp_region (o_mv rfl rfl (o_mv rfl rfl (o_mv rfl rfl (o_bd rfl rfl rfl ?_))))
  obtain ⟨u177, e178, hf29⟩ := bs hf29
  obtain ⟨e178, e179, e180⟩ := appI_some e178
  refine l_appendN (β := Int) (j := 3) (cs := [(.int .i64 a24), (.slice A53 q46.length c54)]) (a := (⟨a24, s175⟩ : Suc)) rfl rfl h36 rfl rfl (by first | exact allOne rfl | simp [Value.oneCell', errV_one]) ⟨_, rfl, (Vb.nil _ _), r45⟩ rfl h128 (by decide) (fun _ => rfl) rfl (by decide) (by decide) e179 e180 ⟨rfl, rfl⟩ fun g181 A182 c183 w184 O185 S186 h187 => ?_
  rw [← e178] at h187 ⊢
  refine o_as rfl rfl (o_z ?_)
  obtain rfl := sm hf29
  replace hx0 := hx0.st S186
  replace hB := hB.st S186
  replace hx1 := hx1.st S186
  replace h12 := h12.st S186
  exact show Exists _ from ⟨_, (A182, c183), rfl, ⟨rfl, rfl, rfl, rfl, rfl, rfl, trivial⟩, _, hB, hx0, hx1, h187, h12⟩
 replace hB := hB.st S11
 rintro l189 w190 ⟨s193, x194, rfl, hs192, O191, hB, h36⟩
 replace hm := fin_done hm
 refine ewp_sub _ hs192 ?_
 refine ewp_seq (ewp_region (o_mv rfl rfl (o_as rfl rfl (o_z ?_))))
 refine ewp_ret ?_
 obtain rfl := sm hm
 exact ret1v rfl (res_tmp rfl) ⟨hB.ext, (h36.out hB (by decide))⟩
noncomputable def m_law24_SuccgenKeeps (x0 : Tsk) : Option Bool :=
  bnd (bnd (m_base_Small x0) fun q28 => if q28 = true then bnd (m_law24_awake) fun q35 => if q35 = true then some false else some true else some true : Option Bool) fun y24 => if y24 = true then (bnd (bnd (m_law24_awake) fun q51 => if q51 = true then some true else some false : Option Bool) fun y47 => some y47) else (bnd (appI 8 ([] : List Int) x0.vars) fun u75 => bnd (rng (ρ := Bool) (fun (k96 : Nat) (a97 : Opr) (s94 : (List Opr)) => bnd (appI 16 ([] : List Fct) a97.pre) fun u141 => bnd (appI 40 ([] : List Eff) a97.effs) fun u160 => bnd (appI 72 s94 [(⟨a97.name, a97.cost, u141, u160⟩ : Opr)]) fun u173 => some (.next u173)) x0.ops 0 ([] : List Opr)) fun res92 => fin res92 fun (s191 : (List Opr)) => bnd (m_succgen_New (⟨u75, x0.init, x0.goal, s191⟩ : Tsk)) fun q193 => if q193.2.n ≠ 0 then (some false) else (bnd (rngN (ρ := Bool) (fun (k214 : Nat) (s212 : (List Opr)) => bnd (s212[k214]?) fun a233 => bnd (rng (ρ := Ctl (List Opr) Bool) (fun (k256 : Nat) (a257 : Fct) (s254 : (List Opr)) => bnd (s254[k214]?) fun a271 => bnd (a271.pre[k256]?) fun a288 => bnd (a271.pre[k256]?) fun a299 => some (.next (s254.set k214 ({ a271 with pre := a271.pre.set k256 ({ a299 with val := (wr (a288.val + 1)) } : Fct) } : Opr)))) a233.pre 0 s212) fun res252 => fin res252 fun (s320 : (List Opr)) => bnd (s320[k214]?) fun a322 => bnd (rng (ρ := Ctl (List Opr) Bool) (fun (k345 : Nat) (a346 : Eff) (s343 : (List Opr)) => bnd (s343[k214]?) fun a360 => bnd (a360.effs[k345]?) fun a377 => some (.next (s343.set k214 ({ a360 with effs := a360.effs.set k345 ({ a377 with val := 0 } : Eff) } : Opr)))) a322.effs 0 s320) fun res341 => fin res341 fun (s406 : (List Opr)) => some (.next s406)) s191.length s191) fun res210 => fin res210 fun (s412 : (List Opr)) => bnd (m_base_States x0.vars) fun q414 => bnd (rng (ρ := Bool) (fun (k429 : Nat) (a430 : List Int) (s427 : Unit) => bnd (m_succgen_Generator_Successors_nr q193.1 a430) fun q451 => bnd (rngN (ρ := Ctl Unit Bool) (fun (k467 : Nat) (s465 : (List Suc)) => bnd (s465[k467]?) fun a486 => bnd (rngN (ρ := Ctl (List Suc) (Ctl Unit Bool)) (fun (k518 : Nat) (s516 : (List Int)) => bnd (s516[k518]?) fun a537 => bnd (s516[k518]?) fun a547 => some (.next (s516.set k518 (wr (a537 + 1))))) a486.state.length a486.state) fun res514 => fin res514 fun (s563 : (List Int)) => some (.next (s465.set k467 ({ a486 with state := s563 } : Suc)))) q451.length q451) fun res463 => fin res463 fun (s572 : (List Suc)) => bnd (m_succgen_Generator_Applicable q193.1 a430) fun q574 => bnd (lop (ρ := Ctl Unit Bool) (fun (s586 : Int × (List Int)) => if s586.1 < (q574.length : Int) then (bnd (atI s586.2 s586.1) fun a608 => some (.next ((wr (s586.1 + 1)), (s586.2.set (s586.1 : Int).toNat (-1))))) else (some (.brk (s586.1, s586.2)))) (0, q574)) fun res584 => fin res584 fun (s626 : Int × (List Int)) => bnd (m_law24_right x0 q193.1 a430) fun q628 => if q628 = true then some (.next ()) else some (.ret false)) q414 0 ()) fun res425 => fin res425 fun (s639 : Unit) => some true))
theorem c_law24_SuccgenKeeps {w : World} {A : Nat → Prop} (hA : ∀ k, A k → k < w.heap.size) {vx0 : Value} {x0 : Tsk} (hx0 : Vb w A vx0 x0) {r : Bool} (hm : m_law24_SuccgenKeeps x0 = some r) :
    Fn Try.prog 7 [vx0] w fun v w' => Ext w w' ∧ Vb w' (upA A w w') v r := by
 obtain ⟨O, hB, hA0⟩ := enter hA
 replace hx0 := hx0.mono hA0
 obtain ⟨cs2, rfl, v3, v4, v5, v6, rfl, h7, h10, h13, h16⟩ := hx0
 obtain ⟨A8, c9, rfl⟩ := h7.form
 obtain ⟨A11, c12, rfl⟩ := h10.form
 obtain ⟨A14, c15, rfl⟩ := h13.form
 obtain ⟨A17, c18, rfl⟩ := h16.form
 refine fn_enter Try.func7 rfl Try.ntmps7 rfl ?_
 unfold m_law24_SuccgenKeeps at hm
 refine ewp_seq (ewp_region (l_box 2 O rfl rfl fun g19 w20 O21 S22 h23 => ?_))
 replace h23 : Lc 2 w20 O21 g19 26 [(.slice A8 x0.vars.length c9), (.slice A11 x0.init.length c12), (.slice A14 x0.goal.length c15), (.slice A17 x0.ops.length c18)] := h23
 refine o_as rfl rfl (o_z ?_)
 refine ewp_seq (ewp_seq ?_)
 obtain ⟨y24, hy25, hm⟩ := bs hm
 refine ewp_join (fun l' w' => ∃ (x27 : Unit) (O' : Lab), subs l' [(1, (.pointer (some ⟨g19, 0, none⟩))), (24, (.bool y24))] ∧ Bs w A w' O' ∧ Lc 2 w' O' g19 26 [(.slice A8 x0.vars.length c9), (.slice A11 x0.init.length c12), (.slice A14 x0.goal.length c15), (.slice A17 x0.ops.length c18)] ∧ Vb w' (Fr 0 w' O') (.slice A8 x0.vars.length c9) x0.vars ∧ Vb w' (Fr 0 w' O') (.slice A11 x0.init.length c12) x0.init ∧ Vb w' (Fr 0 w' O') (.slice A14 x0.goal.length c15) x0.goal ∧ Vb w' (Fr 0 w' O') (.slice A17 x0.ops.length c18) x0.ops) ?_ ?_
 ·
  refine ewp_region (o_la (hl := rfl) (hc := (h23.1).cellsAt) rfl rfl ?_)
  obtain ⟨q28, e29, hy25⟩ := bs hy25
  replace h7 := h7.st S22
  replace h10 := h10.st S22
  replace h13 := h13.st S22
  replace h16 := h16.st S22
  refine l_callA (O := O21) (A := All w20) (R := fun w' F v => Vb w' F v q28) (c_base_Small (fun _ h => h) (Vb.mono (F := Fr 0 w20 O21) (Vb.ofAgg (cs := [(.slice A8 x0.vars.length c9), (.slice A11 x0.init.length c12), (.slice A14 x0.goal.length c15), (.slice A17 x0.ops.length c18)]) (x := x0) rfl ⟨_, _, _, _, rfl, h7, h10, h13, h16⟩) Fr.lt) e29) rfl rfl fun v34 w30 O31 S32 h33 => ?_
  obtain rfl := h33.bool
  cases q28
  case false =>
   replace hy25 := iF hy25
   refine o_nf rfl rfl (o_mv rfl rfl (owp_no rfl rfl rfl rfl (owp_no rfl rfl rfl rfl (o_pt rfl rfl rfl (o_z ?_)))))
   obtain rfl := sm hy25
   replace hB := (hB.st S22).st S32
   replace h7 := h7.st S32
   replace h10 := h10.st S32
   replace h13 := h13.st S32
   replace h16 := h16.st S32
   replace h23 := h23.st S32
   exact ⟨(), _, ⟨rfl, rfl, trivial⟩, hB, h23, h7, h10, h13, h16⟩
  replace hy25 := iT hy25
  refine o_nt rfl rfl (o_mv rfl rfl (owp_yes rfl rfl ?_))
  obtain ⟨q35, e36, hy25⟩ := bs hy25
  refine l_callA (O := O31) (A := All w30) (R := fun w' F v => Vb w' F v q35) (c_law24_awake (fun _ h => h)  e36) rfl rfl fun v41 w37 O38 S39 h40 => ?_
  obtain rfl := h40.bool
  cases q35
  case false =>
   replace hy25 := iF hy25
   refine owp_yes rfl rfl (o_nf rfl rfl (o_pf rfl rfl rfl (o_z ?_)))
   obtain rfl := sm hy25
   replace hB := ((hB.st S22).st S32).st S39
   replace h7 := (h7.st S32).st S39
   replace h10 := (h10.st S32).st S39
   replace h13 := (h13.st S32).st S39
   replace h16 := (h16.st S32).st S39
   replace h23 := (h23.st S32).st S39
   exact ⟨(), _, ⟨rfl, rfl, trivial⟩, hB, h23, h7, h10, h13, h16⟩
  replace hy25 := iT hy25
  refine owp_yes rfl rfl (o_nt rfl rfl (o_pf rfl rfl rfl (o_z ?_)))
  obtain rfl := sm hy25
  replace hB := ((hB.st S22).st S32).st S39
  replace h7 := (h7.st S32).st S39
  replace h10 := (h10.st S32).st S39
  replace h13 := (h13.st S32).st S39
  replace h16 := (h16.st S32).st S39
  replace h23 := (h23.st S32).st S39
  exact ⟨(), _, ⟨rfl, rfl, trivial⟩, hB, h23, h7, h10, h13, h16⟩
 replace hB := hB.st S22
 replace h7 := h7.st S22
 replace h10 := h10.st S22
 replace h13 := h13.st S22
 replace h16 := h16.st S22
 rintro l42 w43 ⟨x27, O44, hs45, hB, h23, h7, h10, h13, h16⟩
 refine ewp_sub _ hs45 ?_
 refine ewp_cond rfl (fun c46 => ?_) (fun c46 => ?_)
 ·
  replace hm := ip hm c46
  refine ewp_seq ?_
  obtain ⟨y47, hy48, hm⟩ := bs hm
  refine ewp_join (fun l' w' => ∃ (x50 : Unit) (O' : Lab), subs l' [(2, (.bool y47))] ∧ Bs w A w' O') ?_ ?_
  ·
   refine ewp_region ?_
   obtain ⟨q51, e52, hy48⟩ := bs hy48
   refine l_callA (O := O44) (A := All w43) (R := fun w' F v => Vb w' F v q51) (c_law24_awake (fun _ h => h)  e52) rfl rfl fun v57 w53 O54 S55 h56 => ?_
   obtain rfl := h56.bool
   cases q51
   case false =>
    replace hy48 := iF hy48
    refine o_as rfl rfl (o_z ?_)
    obtain rfl := sm hy48
    replace hB := hB.st S55
    exact ⟨(), _, ⟨rfl, trivial⟩, hB⟩
   replace hy48 := iT hy48
   refine o_as rfl rfl (o_z ?_)
   obtain rfl := sm hy48
   replace hB := hB.st S55
   exact ⟨(), _, ⟨rfl, trivial⟩, hB⟩
  rintro l58 w59 ⟨x50, O60, hs61, hB⟩
  refine ewp_sub _ hs61 ?_
  refine ewp_ret ?_
  obtain rfl := sm hm
  exact ret1v rfl (res_tmp rfl) ⟨hB.ext, vBool⟩
 replace hm := im' hm c46
 refine ewp_skip (ewp_seq (ewp_region (o_la (hl := rfl) (hc := (h23.1).cellsAt) rfl rfl ?_)))
 refine l_alloc 3 O44 rfl fun g62 w63 O64 S65 h66 => ?_
 refine l_store h66 rfl rfl rfl (nle_b rfl) (allOne rfl) fun w67 S68 h66 => ?_
 replace h66 : Lc 3 w67 O64 g62 26 [(.slice A8 x0.vars.length c9), (.slice A11 x0.init.length c12), (.slice A14 x0.goal.length c15), (.slice A17 x0.ops.length c18)] := h66
 refine o_z ?_
 refine ewp_seq (ewp_region (l_bslice 4 (by decide) O64 (xs := (([] : List Int) : List Int)) rfl rfl rfl rfl trivial (by decide) (by decide) rfl fun g69 w70 O71 S72 h73 => ?_))
 refine o_fa rfl rfl ?_
 replace h23 := ((h23.st S65).st S68).st S72
 refine o_ld (hc := Blk.cell (i := 0) (h23.1) rfl) rfl rfl ?_
 obtain ⟨u75, e76, hm⟩ := bs hm
 obtain ⟨e76, e77, e78⟩ := appI_some e76
 replace h7 := ((h7.st S65).st S68).st S72
 refine l_append rfl h73 (h7.rd) rfl rfl (by decide) e77 e78 rfl fun A79 c80 w81 O82 S83 h84 => ?_
 rw [← e76] at h84 ⊢
 refine o_fa rfl rfl ?_
 replace h66 := (h66.st S72).st S83
 refine l_store h66 rfl rfl rfl (nle_b rfl) (allOne rfl) fun w86 S87 h66 => ?_
 replace h66 : Lc 3 w86 O82 g62 26 [(.slice A79 u75.length c80), (.slice A11 x0.init.length c12), (.slice A14 x0.goal.length c15), (.slice A17 x0.ops.length c18)] := h66
 refine o_z ?_
 refine ewp_seq (ewp_region (o_fa rfl rfl (l_store h66 rfl rfl rfl (nle_b rfl) (allOne rfl) fun w88 S89 h66 => ?_)))
 replace h66 : Lc 3 w88 O82 g62 26 [(.slice A79 u75.length c80), (.slice A11 x0.init.length c12), (.slice A14 x0.goal.length c15), (.slice none 0 0)] := h66
 refine o_z ?_
 refine ewp_seq (ewp_seq (ewp_region (o_fa rfl rfl ?_)))
 replace h23 := ((h23.st S83).st S87).st S89
 refine o_ld (hc := Blk.cell (i := 3) (h23.1) rfl) rfl rfl ?_
 refine o_ln rfl rfl ?_
 replace h16 := (((((h16.st S65).st S68).st S72).st S83).st S87).st S89
 have l91 : x0.ops.length ≤ 9223372036854775807 := Nat.le_trans h16.len.2.1 h16.len.2.2
 have r90 : inI64 (x0.ops.length : Int) := rngNat l91
 refine o_mv rfl rfl (o_z ?_)
 obtain ⟨res92, hL93, hm⟩ := bs hm
 refine ewp_join (aft res92 (fun (s94 : (List Opr)) (x95 : (Option Addr × Nat)) => [(1, (.pointer (some ⟨g19, 0, none⟩))), (3, (.pointer (some ⟨g62, 0, none⟩)))]) (fun s94 x95 w' => ∃ O' : Lab, Bs w A w' O' ∧ Lc 2 w' O' g19 26 [(.slice A8 x0.vars.length c9), (.slice A11 x0.init.length c12), (.slice A14 x0.goal.length c15), (.slice A17 x0.ops.length c18)] ∧ Vb w' (Fr 0 w' O') (.slice A8 x0.vars.length c9) x0.vars ∧ Vb w' (Fr 0 w' O') (.slice A11 x0.init.length c12) x0.init ∧ Vb w' (Fr 0 w' O') (.slice A14 x0.goal.length c15) x0.goal ∧ Vb w' (Fr 0 w' O') (.slice A17 x0.ops.length c18) x0.ops ∧ Lc 3 w' O' g62 26 [(.slice A79 u75.length c80), (.slice A11 x0.init.length c12), (.slice A14 x0.goal.length c15), (.slice x95.1 s94.length x95.2)] ∧ Rw 4 w' O' 3 (.slice A79 u75.length c80) u75 ∧ NO 8 w' O' 34 28 52 (.slice x95.1 s94.length x95.2) s94)) ?_ ?_
 ·
  refine ewp_block ?_
  replace hB := (((((hB.st S65).st S68).st S72).st S83).st S87).st S89
  replace h7 := ((h7.st S83).st S87).st S89
  replace h10 := (((((h10.st S65).st S68).st S72).st S83).st S87).st S89
  replace h13 := (((((h13.st S65).st S68).st S72).st S83).st S87).st S89
  replace h84 := (h84.st S87).st S89
  refine ewp_rng (σ := (List Opr)) (X := (Option Addr × Nat)) (x0.ops.length) hL93 rfl l91 (fun (s94 : (List Opr)) (x95 : (Option Addr × Nat)) => [(1, (.pointer (some ⟨g19, 0, none⟩))), (3, (.pointer (some ⟨g62, 0, none⟩))), (34, (.slice A17 x0.ops.length c18))]) _ (fun s94 x95 w' => ∃ O' : Lab, Bs w A w' O' ∧ Lc 2 w' O' g19 26 [(.slice A8 x0.vars.length c9), (.slice A11 x0.init.length c12), (.slice A14 x0.goal.length c15), (.slice A17 x0.ops.length c18)] ∧ Vb w' (Fr 0 w' O') (.slice A8 x0.vars.length c9) x0.vars ∧ Vb w' (Fr 0 w' O') (.slice A11 x0.init.length c12) x0.init ∧ Vb w' (Fr 0 w' O') (.slice A14 x0.goal.length c15) x0.goal ∧ Vb w' (Fr 0 w' O') (.slice A17 x0.ops.length c18) x0.ops ∧ Lc 3 w' O' g62 26 [(.slice A79 u75.length c80), (.slice A11 x0.init.length c12), (.slice A14 x0.goal.length c15), (.slice x95.1 s94.length x95.2)] ∧ Rw 4 w' O' 3 (.slice A79 u75.length c80) u75 ∧ NO 8 w' O' 34 28 52 (.slice x95.1 s94.length x95.2) s94) _ (none, 0) ⟨O82, hB, h23, h7, h10, h13, h16, h66, h84, (NO.nil 8 (by decide))⟩ ⟨rfl, rfl, rfl, rfl, rfl, trivial⟩ (fun _ _ => ⟨rfl, rfl⟩) (fun _ _ => ⟨rfl, rfl, trivial⟩) (fun _ _ _ ⟨O', hB, h23, h7, h10, h13, h16, h66, h84, h109⟩ => ⟨O', hB, h23, h7, h10, h13, h16, h66, h84, h109⟩) ⟨rfl, rfl, rfl⟩ ⟨rfl, rfl⟩ ?_
  rintro k96 a97 s94 x95 w98 cc100 hx101 ⟨O99, hB, h23, h7, h10, h13, h16, h66, h84, h109⟩ hf102 hret103 hbrk104
  have rk96 : inI64 (k96 : Int) := rngK hx101 l91
  refine ewp_seq (ewp_region ?_)
  obtain ⟨b111, o112, ce113, hA114, hl115, hd116, v118, v119, rfl, h120, h123, r126, z127⟩ := h16.elem' hx101
  obtain ⟨A121, c122, rfl⟩ := h120.form
  obtain ⟨A124, c125, rfl⟩ := h123.form
  refine o_iaE (hA := hA114) (hj := rfl) (hlt := hl115) rfl rfl rfl ?_
  refine o_la (hl := rfl) (hc := hd116) rfl rfl ?_
  refine l_alloc 5 O99 rfl fun g128 w129 O130 S131 h132 => ?_
  refine l_store h132 rfl rfl rfl (nle_b rfl) (allOne rfl) fun w133 S134 h132 => ?_
  replace h132 : Lc 5 w133 O130 g128 34 [(.string a97.name), (.int .i64 a97.cost), (.slice A121 a97.pre.length c122), (.slice A124 a97.effs.length c125)] := h132
  refine o_z ?_
  refine ewp_seq (ewp_region (l_bslice 6 (by decide) O130 (xs := (([] : List Fct) : List Fct)) rfl rfl rfl rfl trivial (by decide) (by decide) rfl fun g135 w136 O137 S138 h139 => ?_))
  refine o_fa rfl rfl ?_
  replace h132 := h132.st S138
  refine o_ld (hc := Blk.cell (i := 2) (h132.1) rfl) rfl rfl ?_
  obtain ⟨u141, e142, hf102⟩ := bs hf102
  obtain ⟨e142, e143, e144⟩ := appI_some e142
  replace h120 := ((h120.st S131).st S134).st S138
  refine l_append rfl h139 (h120.rd) rfl rfl (by decide) e143 e144 rfl fun A145 c146 w147 O148 S149 h150 => ?_
  rw [← e142] at h150 ⊢
  refine o_fa rfl rfl ?_
  replace h132 := h132.st S149
  refine l_store h132 rfl rfl rfl (nle_b rfl) (allOne rfl) fun w152 S153 h132 => ?_
  replace h132 : Lc 5 w152 O148 g128 34 [(.string a97.name), (.int .i64 a97.cost), (.slice A145 u141.length c146), (.slice A124 a97.effs.length c125)] := h132
  refine o_z ?_
  refine ewp_seq (ewp_region (l_bslice 7 (by decide) O148 (xs := (([] : List Eff) : List Eff)) rfl rfl rfl rfl trivial (by decide) (by decide) rfl fun g154 w155 O156 S157 h158 => ?_))
  refine o_fa rfl rfl ?_
  replace h132 := h132.st S157
  refine o_ld (hc := Blk.cell (i := 3) (h132.1) rfl) rfl rfl ?_
  obtain ⟨u160, e161, hf102⟩ := bs hf102
  obtain ⟨e161, e162, e163⟩ := appI_some e161
  replace h123 := (((((h123.st S131).st S134).st S138).st S149).st S153).st S157
  refine l_append rfl h158 (h123.rd) rfl rfl (by decide) e162 e163 rfl fun A164 c165 w166 O167 S168 h169 => ?_
  rw [← e161] at h169 ⊢
  refine o_fa rfl rfl ?_
  replace h132 := h132.st S168
  refine l_store h132 rfl rfl rfl (nle_b rfl) (allOne rfl) fun w171 S172 h132 => ?_
  replace h132 : Lc 5 w171 O167 g128 34 [(.string a97.name), (.int .i64 a97.cost), (.slice A145 u141.length c146), (.slice A164 u160.length c165)] := h132
  refine o_z ?_
  refine ewp_region (o_fa rfl rfl ?_)
  replace h66 := (((((((h66.st S131).st S134).st S138).st S149).st S153).st S157).st S168).st S172
  refine o_ld (hc := Blk.cell (i := 3) (h66.1) rfl) rfl rfl ?_
  refine o_la (hl := rfl) (hc := (h132.1).cellsAt) rfl rfl ?_
  obtain ⟨u173, e174, hf102⟩ := bs hf102
  obtain ⟨e174, e175, e176⟩ := appI_some e174
  replace h109 := (((((((h109.st S131).st S134).st S138).st S149).st S153).st S157).st S168).st S172
  replace h150 := (((h150.st S153).st S157).st S168).st S172
  replace h169 := h169.st S172
  refine l_appendO (a := (⟨a97.name, a97.cost, u141, u160⟩ : Opr)) rfl h109 rfl r126 z127 h150 h169 (by decide) (by decide) (by decide) (fun _ => rfl) rfl e175 e176 ⟨rfl, rfl⟩ fun g177 A178 c179 w180 O181 S182 h183 => ?_
  rw [← e174] at h183 ⊢
  refine o_fa rfl rfl ?_
  replace h66 := h66.st S182
  refine l_store h66 rfl rfl rfl (nle_b rfl) (allOne rfl) fun w185 S186 h66 => ?_
  replace h66 : Lc 3 w185 O181 g62 26 [(.slice A79 u75.length c80), (.slice A11 x0.init.length c12), (.slice A14 x0.goal.length c15), (.slice A178 u173.length c179)] := h66
  refine o_z ?_
  obtain rfl := sm hf102
  replace hB := (((((((((hB.st S131).st S134).st S138).st S149).st S153).st S157).st S168).st S172).st S182).st S186
  replace h7 := (((((((((h7.st S131).st S134).st S138).st S149).st S153).st S157).st S168).st S172).st S182).st S186
  replace h10 := (((((((((h10.st S131).st S134).st S138).st S149).st S153).st S157).st S168).st S172).st S182).st S186
  replace h13 := (((((((((h13.st S131).st S134).st S138).st S149).st S153).st S157).st S168).st S172).st S182).st S186
  replace h16 := (((((((((h16.st S131).st S134).st S138).st S149).st S153).st S157).st S168).st S172).st S182).st S186
  replace h23 := (((((((((h23.st S131).st S134).st S138).st S149).st S153).st S157).st S168).st S172).st S182).st S186
  replace h84 := (((((((((h84.st S131).st S134).st S138).st S149).st S153).st S157).st S168).st S172).st S182).st S186
  replace h183 := h183.st S186
  exact show Exists _ from ⟨_, (A178, c179), rfl, ⟨rfl, rfl, rfl, rfl, rfl, trivial⟩, _, hB, h23, h7, h10, h13, h16, h66, h84, h183⟩
 replace hB := (((((hB.st S65).st S68).st S72).st S83).st S87).st S89
 replace h7 := ((h7.st S83).st S87).st S89
 replace h10 := (((((h10.st S65).st S68).st S72).st S83).st S87).st S89
 replace h13 := (((((h13.st S65).st S68).st S72).st S83).st S87).st S89
 replace h84 := (h84.st S87).st S89
 rintro l187 w188 ⟨s191, x192, rfl, hs190, O189, hB, h23, h7, h10, h13, h16, h66, h84, h109⟩
 replace hm := fin_done hm
 refine ewp_sub _ hs190 ?_
 refine ewp_seq (ewp_region (o_la (hl := rfl) (hc := (h66.1).cellsAt) rfl rfl ?_))
 obtain ⟨q193, e194, hm⟩ := bs hm
 refine l_callN (O := O189) (R := fun w' F v => T2 w' F v q193) (cf_succgen_New (Vb.ofAgg (cs := [(.slice A79 u75.length c80), (.slice A11 x0.init.length c12), (.slice A14 x0.goal.length c15), (.slice x192.1 s191.length x192.2)]) (x := (⟨u75, x0.init, x0.goal, s191⟩ : Tsk)) rfl ⟨_, _, _, _, rfl, (h84).all, (Vb.mono (F := Fr 0 w188 O189) h10 Fr.lt), (Vb.mono (F := Fr 0 w188 O189) h13 Fr.lt), (h109).all⟩) e194) (fun _ _ _ _ ⟨a, b, e, h1, h2⟩ hk => ⟨a, b, e, h1.mono hk, h2.mono hk⟩) rfl rfl fun v199 w195 O196 S197 h198 => ?_
 obtain ⟨v200, v201, rfl, h202, h203⟩ := h198
 obtain ⟨p204, rfl, hq205⟩ := h202.ptr
 obtain ⟨rfl, r206⟩ := h203.err
 refine o_mv rfl rfl (o_ex rfl rfl rfl (o_ex rfl rfl rfl (o_as rfl rfl (o_as rfl rfl (o_z ?_)))))
 refine ewp_seq (ewp_seq (ewp_region (o_mv rfl rfl (o_rnS rfl rfl (fun c207 => ?_) fun c207 => ?_))))
 ·
  replace hm := ip hm c207
  refine o_z ?_
  refine ewp_true rfl (ewp_seq (ewp_region (o_as rfl rfl (o_z ?_))))
  refine ewp_ret ?_
  obtain rfl := sm hm
  replace hB := hB.st S197
  exact ret1v rfl (res_tmp rfl) ⟨hB.ext, vBool⟩
 replace hm := im hm c207
 refine o_z ?_
 refine ewp_false rfl (ewp_skip (ewp_seq (ewp_seq (ewp_region (o_fa rfl rfl ?_)))))
 replace h66 := h66.st S197
 refine o_ld (hc := Blk.cell (i := 3) (h66.1) rfl) rfl rfl ?_
 refine o_ln rfl rfl ?_
 replace h109 := h109.st S197
 have l209 : s191.length ≤ 9223372036854775807 := Nat.le_trans h109.len.2.1 h109.len.2.2
 have r208 : inI64 (s191.length : Int) := rngNat l209
 refine o_mv rfl rfl (o_z ?_)
 obtain ⟨res210, hL211, hm⟩ := bs hm
 refine ewp_join (aft res210 (fun (s212 : (List Opr)) (x213 : Unit) => [(1, (.pointer (some ⟨g19, 0, none⟩))), (6, (.pointer p204))]) (fun s212 x213 w' => ∃ O' : Lab, Bs w A w' O' ∧ Lc 2 w' O' g19 26 [(.slice A8 x0.vars.length c9), (.slice A11 x0.init.length c12), (.slice A14 x0.goal.length c15), (.slice A17 x0.ops.length c18)] ∧ Vb w' (Fr 0 w' O') (.slice A8 x0.vars.length c9) x0.vars ∧ Vb w' (Fr 0 w' O') (.slice A11 x0.init.length c12) x0.init ∧ Vb w' (Fr 0 w' O') (.slice A14 x0.goal.length c15) x0.goal ∧ Vb w' (Fr 0 w' O') (.slice A17 x0.ops.length c18) x0.ops ∧ Vb w' (Fr 0 w' O') (.pointer p204) q193.1)) ?_ ?_
 ·
  refine ewp_block ?_
  replace hB := hB.st S197
  replace h7 := h7.st S197
  replace h10 := h10.st S197
  replace h13 := h13.st S197
  replace h16 := h16.st S197
  replace h23 := h23.st S197
  replace h84 := h84.st S197
  refine ewp_rngN (σ := (List Opr)) (X := Unit) (s191.length) hL211 l209 (fun (s212 : (List Opr)) (x213 : Unit) => [(1, (.pointer (some ⟨g19, 0, none⟩))), (3, (.pointer (some ⟨g62, 0, none⟩))), (6, (.pointer p204))]) _ (fun s212 x213 w' => ∃ O' : Lab, Bs w A w' O' ∧ Lc 2 w' O' g19 26 [(.slice A8 x0.vars.length c9), (.slice A11 x0.init.length c12), (.slice A14 x0.goal.length c15), (.slice A17 x0.ops.length c18)] ∧ Vb w' (Fr 0 w' O') (.slice A8 x0.vars.length c9) x0.vars ∧ Vb w' (Fr 0 w' O') (.slice A11 x0.init.length c12) x0.init ∧ Vb w' (Fr 0 w' O') (.slice A14 x0.goal.length c15) x0.goal ∧ Vb w' (Fr 0 w' O') (.slice A17 x0.ops.length c18) x0.ops ∧ Lc 3 w' O' g62 26 [(.slice A79 u75.length c80), (.slice A11 x0.init.length c12), (.slice A14 x0.goal.length c15), (.slice x192.1 s191.length x192.2)] ∧ Rw 4 w' O' 3 (.slice A79 u75.length c80) u75 ∧ NO 8 w' O' 34 28 52 (.slice x192.1 s191.length x192.2) s212 ∧ Vb w' (Fr 0 w' O') (.pointer p204) q193.1) _ () ⟨O196, hB, h23, h7, h10, h13, h16, h66, h84, h109, h202⟩ ⟨rfl, rfl, rfl, rfl, rfl, trivial⟩ (fun _ _ => ⟨rfl, rfl⟩) (fun _ _ => ⟨rfl, rfl, trivial⟩) (fun _ _ _ ⟨O', hB, h23, h7, h10, h13, h16, h66, h84, h231, h202⟩ => ⟨O', hB, h23, h7, h10, h13, h16, h202⟩) ⟨rfl, rfl, rfl⟩ ⟨rfl, rfl⟩ ?_
  rintro k214 s212 x213 w216 cc218 hx219 ⟨O217, hB, h23, h7, h10, h13, h16, h66, h84, h231, h202⟩ hf220 hret221 hbrk222
  have rk214 : inI64 (k214 : Int) := rngKN hx219 l209
  refine ewp_seq (ewp_region (o_mv rfl rfl (o_as rfl rfl (o_z ?_))))
  refine ewp_seq (ewp_seq (ewp_region (o_fa rfl rfl (o_ld (hc := Blk.cell (i := 3) (h66.1) rfl) rfl rfl ?_))))
  refine o_mv rfl rfl ?_
  obtain ⟨a233, e234, hf220⟩ := bs hf220
  obtain ⟨b235, o236, hA238, hl239⟩ := h231.at e234
  refine o_iaE (hA := hA238) (hj := rfl) (hlt := hl239) rfl rfl rfl ?_
  refine o_fa rfl rfl ?_
  obtain ⟨A242, c243, A244, c245, hc246, hc247, h248, h249⟩ := NO.peek h231 hA238 e234
  replace h248 : Vb w216 (FrS [8] w216 O217) (.slice A242 a233.pre.length c243) a233.pre := h248
  refine o_ld (hc := hc246) rfl rfl ?_
  refine o_ln rfl rfl ?_
  have l251 : a233.pre.length ≤ 9223372036854775807 := Nat.le_trans h248.len.2.1 h248.len.2.2
  have r250 : inI64 (a233.pre.length : Int) := rngNat l251
  refine o_mv rfl rfl (o_z ?_)
  obtain ⟨res252, hL253, hf220⟩ := bs hf220
  refine ewp_join (aft res252 (fun (s254 : (List Opr)) (x255 : Unit) => [(1, (.pointer (some ⟨g19, 0, none⟩))), (3, (.pointer (some ⟨g62, 0, none⟩))), (6, (.pointer p204)), (8, (.int .i64 (k214 : Int))), (66, (.int .i64 (s191.length : Int))), (67, (.int .i64 (k214 : Int)))]) (fun s254 x255 w' => ∃ O' : Lab, Bs w A w' O' ∧ Lc 2 w' O' g19 26 [(.slice A8 x0.vars.length c9), (.slice A11 x0.init.length c12), (.slice A14 x0.goal.length c15), (.slice A17 x0.ops.length c18)] ∧ Vb w' (Fr 0 w' O') (.slice A8 x0.vars.length c9) x0.vars ∧ Vb w' (Fr 0 w' O') (.slice A11 x0.init.length c12) x0.init ∧ Vb w' (Fr 0 w' O') (.slice A14 x0.goal.length c15) x0.goal ∧ Vb w' (Fr 0 w' O') (.slice A17 x0.ops.length c18) x0.ops ∧ Lc 3 w' O' g62 26 [(.slice A79 u75.length c80), (.slice A11 x0.init.length c12), (.slice A14 x0.goal.length c15), (.slice x192.1 s191.length x192.2)] ∧ Rw 4 w' O' 3 (.slice A79 u75.length c80) u75 ∧ NO 8 w' O' 34 28 52 (.slice x192.1 s191.length x192.2) s254 ∧ Vb w' (Fr 0 w' O') (.pointer p204) q193.1)) ?_ ?_
  ·
   refine ewp_block (ewp_rng (σ := (List Opr)) (X := Unit) (a233.pre.length) hL253 rfl l251 (fun (s254 : (List Opr)) (x255 : Unit) => [(1, (.pointer (some ⟨g19, 0, none⟩))), (3, (.pointer (some ⟨g62, 0, none⟩))), (6, (.pointer p204)), (8, (.int .i64 (k214 : Int))), (66, (.int .i64 (s191.length : Int))), (67, (.int .i64 (k214 : Int)))]) _ (fun s254 x255 w' => ∃ O' : Lab, Bs w A w' O' ∧ Lc 2 w' O' g19 26 [(.slice A8 x0.vars.length c9), (.slice A11 x0.init.length c12), (.slice A14 x0.goal.length c15), (.slice A17 x0.ops.length c18)] ∧ Vb w' (Fr 0 w' O') (.slice A8 x0.vars.length c9) x0.vars ∧ Vb w' (Fr 0 w' O') (.slice A11 x0.init.length c12) x0.init ∧ Vb w' (Fr 0 w' O') (.slice A14 x0.goal.length c15) x0.goal ∧ Vb w' (Fr 0 w' O') (.slice A17 x0.ops.length c18) x0.ops ∧ Lc 3 w' O' g62 26 [(.slice A79 u75.length c80), (.slice A11 x0.init.length c12), (.slice A14 x0.goal.length c15), (.slice x192.1 s191.length x192.2)] ∧ Rw 4 w' O' 3 (.slice A79 u75.length c80) u75 ∧ NO 8 w' O' 34 28 52 (.slice x192.1 s191.length x192.2) s254 ∧ Vb w' (Fr 0 w' O') (.pointer p204) q193.1) _ () ⟨O217, hB, h23, h7, h10, h13, h16, h66, h84, h231, h202⟩ ⟨rfl, rfl, rfl, rfl, rfl, rfl, rfl, rfl, trivial⟩ (fun _ _ => ⟨rfl, rfl⟩) (fun _ _ => ⟨rfl, rfl, rfl, rfl, rfl, rfl, trivial⟩) (fun _ _ _ ⟨O', hB, h23, h7, h10, h13, h16, h66, h84, h269, h202⟩ => ⟨O', hB, h23, h7, h10, h13, h16, h66, h84, h269, h202⟩) ⟨rfl, rfl, rfl⟩ ⟨rfl, rfl⟩ ?_)
   rintro k256 a257 s254 x255 w258 cc260 hx261 ⟨O259, hB, h23, h7, h10, h13, h16, h66, h84, h269, h202⟩ hf262 hret263 hbrk264
   have rk256 : inI64 (k256 : Int) := rngK hx261 l251
   refine ewp_seq (ewp_region (o_mv rfl rfl (o_as rfl rfl (o_z ?_))))
   refine ewp_region (o_fa rfl rfl (o_ld (hc := Blk.cell (i := 3) (h66.1) rfl) rfl rfl ?_))
   refine o_mv rfl rfl ?_
   obtain ⟨a271, e272, hf262⟩ := bs hf262
   obtain ⟨b273, o274, hA276, hl277⟩ := h269.at e272
   refine o_iaE (hA := hA276) (hj := rfl) (hlt := hl277) rfl rfl rfl ?_
   refine o_fa rfl rfl ?_
   obtain ⟨A280, c281, A282, c283, hc284, hc285, h286, h287⟩ := NO.peek h269 hA276 e272
   replace h286 : Vb w258 (FrS [8] w258 O259) (.slice A280 a271.pre.length c281) a271.pre := h286
   refine o_ld (hc := hc284) rfl rfl ?_
   refine o_mv rfl rfl ?_
   obtain ⟨a288, e289, hf262⟩ := bs hf262
   obtain ⟨b290, o291, ce292, hA293, hl294, hd295, rfl, r297, r298⟩ := h286.elem' e289
   refine o_iaE (hA := hA293) (hj := rfl) (hlt := hl294) rfl rfl rfl ?_
   refine o_fa rfl rfl (o_ld (hc := cat1 hd295) rfl rfl ?_)
   refine o_adW rfl rfl rfl ?_
   obtain ⟨a299, e300, hf262⟩ := bs hf262
   obtain ⟨b301, o302, ce303, hA304, hl305, hd306, rfl, r308, r309⟩ := h286.elem' e300
   refine o_iaE (hA := hA304) (hj := rfl) (hlt := hl305) rfl rfl rfl ?_
   refine o_fa rfl rfl (l_setOP (off := 1) (a := a271) (f := a299) (f' := ({ a299 with val := (wr (a288.val + 1)) } : Fct)) h269 hA276 e272 hc284 hA304 e300 rfl rfl rfl (Nat.le_of_ble_eq_true rfl) (allOne rfl) (by rintro w' O' ce ⟨rfl, r314, r315⟩; exact ⟨rfl, r314, (wr_rng _)⟩) fun w310 O311 S312 h313 => ?_)
   replace h313 : NO 8 w310 O311 34 28 52 (.slice x192.1 s191.length x192.2) (s254.set k214 ({ a271 with pre := a271.pre.set k256 ({ a299 with val := (wr (a288.val + 1)) } : Fct) } : Opr)) := h313
   refine o_z ?_
   obtain rfl := sm hf262
   replace hB := hB.st S312
   replace h7 := h7.st S312
   replace h10 := h10.st S312
   replace h13 := h13.st S312
   replace h16 := h16.st S312
   replace h23 := h23.st S312
   replace h66 := h66.st S312
   replace h84 := h84.st S312
   replace h202 := h202.st S312
   exact show Exists _ from ⟨_, (), rfl, ⟨rfl, rfl, rfl, rfl, rfl, rfl, rfl, rfl, trivial⟩, _, hB, h23, h7, h10, h13, h16, h66, h84, h313, h202⟩
  rintro l316 w317 ⟨s320, x321, rfl, hs319, O318, hB, h23, h7, h10, h13, h16, h66, h84, h269, h202⟩
  replace hf220 := fin_done hf220
  refine ewp_sub _ hs319 ?_
  refine ewp_seq (ewp_region (o_fa rfl rfl (o_ld (hc := Blk.cell (i := 3) (h66.1) rfl) rfl rfl ?_)))
  refine o_mv rfl rfl ?_
  obtain ⟨a322, e323, hf220⟩ := bs hf220
  obtain ⟨b324, o325, hA327, hl328⟩ := h269.at e323
  refine o_iaE (hA := hA327) (hj := rfl) (hlt := hl328) rfl rfl rfl ?_
  refine o_fa rfl rfl ?_
  obtain ⟨A331, c332, A333, c334, hc335, hc336, h337, h338⟩ := NO.peek h269 hA327 e323
  replace h338 : Vb w317 (FrS [8] w317 O318) (.slice A333 a322.effs.length c334) a322.effs := h338
  refine o_ld (hc := hc336) rfl rfl ?_
  refine o_ln rfl rfl ?_
  have l340 : a322.effs.length ≤ 9223372036854775807 := Nat.le_trans h338.len.2.1 h338.len.2.2
  have r339 : inI64 (a322.effs.length : Int) := rngNat l340
  refine o_mv rfl rfl (o_z ?_)
  obtain ⟨res341, hL342, hf220⟩ := bs hf220
  refine ewp_join (aft res341 (fun (s343 : (List Opr)) (x344 : Unit) => [(1, (.pointer (some ⟨g19, 0, none⟩))), (3, (.pointer (some ⟨g62, 0, none⟩))), (6, (.pointer p204)), (66, (.int .i64 (s191.length : Int))), (67, (.int .i64 (k214 : Int)))]) (fun s343 x344 w' => ∃ O' : Lab, Bs w A w' O' ∧ Lc 2 w' O' g19 26 [(.slice A8 x0.vars.length c9), (.slice A11 x0.init.length c12), (.slice A14 x0.goal.length c15), (.slice A17 x0.ops.length c18)] ∧ Vb w' (Fr 0 w' O') (.slice A8 x0.vars.length c9) x0.vars ∧ Vb w' (Fr 0 w' O') (.slice A11 x0.init.length c12) x0.init ∧ Vb w' (Fr 0 w' O') (.slice A14 x0.goal.length c15) x0.goal ∧ Vb w' (Fr 0 w' O') (.slice A17 x0.ops.length c18) x0.ops ∧ Lc 3 w' O' g62 26 [(.slice A79 u75.length c80), (.slice A11 x0.init.length c12), (.slice A14 x0.goal.length c15), (.slice x192.1 s191.length x192.2)] ∧ Rw 4 w' O' 3 (.slice A79 u75.length c80) u75 ∧ NO 8 w' O' 34 28 52 (.slice x192.1 s191.length x192.2) s343 ∧ Vb w' (Fr 0 w' O') (.pointer p204) q193.1)) ?_ ?_
  ·
   refine ewp_block (ewp_rng (σ := (List Opr)) (X := Unit) (a322.effs.length) hL342 rfl l340 (fun (s343 : (List Opr)) (x344 : Unit) => [(1, (.pointer (some ⟨g19, 0, none⟩))), (3, (.pointer (some ⟨g62, 0, none⟩))), (6, (.pointer p204)), (8, (.int .i64 (k214 : Int))), (66, (.int .i64 (s191.length : Int))), (67, (.int .i64 (k214 : Int)))]) _ (fun s343 x344 w' => ∃ O' : Lab, Bs w A w' O' ∧ Lc 2 w' O' g19 26 [(.slice A8 x0.vars.length c9), (.slice A11 x0.init.length c12), (.slice A14 x0.goal.length c15), (.slice A17 x0.ops.length c18)] ∧ Vb w' (Fr 0 w' O') (.slice A8 x0.vars.length c9) x0.vars ∧ Vb w' (Fr 0 w' O') (.slice A11 x0.init.length c12) x0.init ∧ Vb w' (Fr 0 w' O') (.slice A14 x0.goal.length c15) x0.goal ∧ Vb w' (Fr 0 w' O') (.slice A17 x0.ops.length c18) x0.ops ∧ Lc 3 w' O' g62 26 [(.slice A79 u75.length c80), (.slice A11 x0.init.length c12), (.slice A14 x0.goal.length c15), (.slice x192.1 s191.length x192.2)] ∧ Rw 4 w' O' 3 (.slice A79 u75.length c80) u75 ∧ NO 8 w' O' 34 28 52 (.slice x192.1 s191.length x192.2) s343 ∧ Vb w' (Fr 0 w' O') (.pointer p204) q193.1) _ () ⟨O318, hB, h23, h7, h10, h13, h16, h66, h84, h269, h202⟩ ⟨rfl, rfl, rfl, rfl, rfl, rfl, rfl, rfl, trivial⟩ (fun _ _ => ⟨rfl, rfl⟩) (fun _ _ => ⟨rfl, rfl, rfl, rfl, rfl, trivial⟩) (fun _ _ _ ⟨O', hB, h23, h7, h10, h13, h16, h66, h84, h358, h202⟩ => ⟨O', hB, h23, h7, h10, h13, h16, h66, h84, h358, h202⟩) ⟨rfl, rfl, rfl⟩ ⟨rfl, rfl⟩ ?_)
   rintro k345 a346 s343 x344 w347 cc349 hx350 ⟨O348, hB, h23, h7, h10, h13, h16, h66, h84, h358, h202⟩ hf351 hret352 hbrk353
   have rk345 : inI64 (k345 : Int) := rngK hx350 l340
   refine ewp_seq (ewp_region (o_mv rfl rfl (o_as rfl rfl (o_z ?_))))
   refine ewp_region (o_fa rfl rfl (o_ld (hc := Blk.cell (i := 3) (h66.1) rfl) rfl rfl ?_))
   refine o_mv rfl rfl ?_
   obtain ⟨a360, e361, hf351⟩ := bs hf351
   obtain ⟨b362, o363, hA365, hl366⟩ := h358.at e361
   refine o_iaE (hA := hA365) (hj := rfl) (hlt := hl366) rfl rfl rfl ?_
   refine o_fa rfl rfl ?_
   obtain ⟨A369, c370, A371, c372, hc373, hc374, h375, h376⟩ := NO.peek h358 hA365 e361
   replace h376 : Vb w347 (FrS [8] w347 O348) (.slice A371 a360.effs.length c372) a360.effs := h376
   refine o_ld (hc := hc374) rfl rfl ?_
   refine o_mv rfl rfl ?_
   obtain ⟨a377, e378, hf351⟩ := bs hf351
   obtain ⟨b379, o380, ce381, hA382, hl383, hd384, v386, rfl, h387, r390, r391⟩ := h376.elem' e378
   obtain ⟨A388, c389, rfl⟩ := h387.form
   refine o_iaE (hA := hA382) (hj := rfl) (hlt := hl383) rfl rfl rfl ?_
   refine o_fa rfl rfl (l_setOE (off := 2) (a := a360) (f := a377) (f' := ({ a377 with val := 0 } : Eff)) h358 hA365 e361 hc374 hA382 e378 rfl rfl rfl (Nat.le_of_ble_eq_true rfl) (allOne rfl) (by rintro w' O' ce ⟨v396, rfl, h397, r400, r401⟩; exact ⟨_, rfl, by assumption, by assumption, (show inI64 (0) from by decide)⟩) fun w392 O393 S394 h395 => ?_)
   replace h395 : NO 8 w392 O393 34 28 52 (.slice x192.1 s191.length x192.2) (s343.set k214 ({ a360 with effs := a360.effs.set k345 ({ a377 with val := 0 } : Eff) } : Opr)) := h395
   refine o_z ?_
   obtain rfl := sm hf351
   replace hB := hB.st S394
   replace h7 := h7.st S394
   replace h10 := h10.st S394
   replace h13 := h13.st S394
   replace h16 := h16.st S394
   replace h23 := h23.st S394
   replace h66 := h66.st S394
   replace h84 := h84.st S394
   replace h202 := h202.st S394
   exact show Exists _ from ⟨_, (), rfl, ⟨rfl, rfl, rfl, rfl, rfl, rfl, rfl, rfl, trivial⟩, _, hB, h23, h7, h10, h13, h16, h66, h84, h395, h202⟩
  rintro l402 w403 ⟨s406, x407, rfl, hs405, O404, hB, h23, h7, h10, h13, h16, h66, h84, h358, h202⟩
  replace hf220 := fin_done hf220
  obtain rfl := sm hf220
  exact show Exists _ from ⟨_, (), rfl, ⟨(subs_lk hs405 _ _ rfl), (subs_lk hs405 _ _ rfl), (subs_lk hs405 _ _ rfl), (subs_lk hs405 _ _ rfl), (subs_lk hs405 _ _ rfl), trivial⟩, _, hB, h23, h7, h10, h13, h16, h66, h84, h358, h202⟩
 replace hB := hB.st S197
 replace h7 := h7.st S197
 replace h10 := h10.st S197
 replace h13 := h13.st S197
 replace h16 := h16.st S197
 replace h23 := h23.st S197
 rintro l408 w409 ⟨s412, x413, rfl, hs411, O410, hB, h23, h7, h10, h13, h16, h202⟩
 replace hm := fin_done hm
 refine ewp_sub _ hs411 ?_
 refine ewp_seq (ewp_seq (ewp_region (o_fa rfl rfl (o_ld (hc := Blk.cell (i := 0) (h23.1) rfl) rfl rfl ?_))))
 obtain ⟨q414, e415, hm⟩ := bs hm
 refine l_call (O := O410) (R := fun w' F v => Vb w' F v q414) (c_base_States Fr.lt h7 e415) rfl rfl fun v420 w416 O417 S418 h419 => ?_
 obtain ⟨A421, c422, rfl⟩ := h419.form
 refine o_ln rfl rfl ?_
 have l424 : q414.length ≤ 9223372036854775807 := Nat.le_trans h419.len.2.1 h419.len.2.2
 have r423 : inI64 (q414.length : Int) := rngNat l424
 refine o_mv rfl rfl (o_z ?_)
 obtain ⟨res425, hL426, hm⟩ := bs hm
 refine ewp_join (aft res425 (fun (s427 : Unit) (x428 : Unit) => []) (fun s427 x428 w' => ∃ O' : Lab, Bs w A w' O')) ?_ ?_
 ·
  refine ewp_block ?_
  replace hB := hB.st S418
  replace h7 := h7.st S418
  replace h10 := h10.st S418
  replace h13 := h13.st S418
  replace h16 := h16.st S418
  replace h23 := h23.st S418
  replace h202 := h202.st S418
  refine ewp_rng (σ := Unit) (X := Unit) (q414.length) hL426 rfl l424 (fun (s427 : Unit) (x428 : Unit) => [(1, (.pointer (some ⟨g19, 0, none⟩))), (6, (.pointer p204)), (117, (.slice A421 q414.length c422))]) _ (fun s427 x428 w' => ∃ O' : Lab, Bs w A w' O' ∧ Lc 2 w' O' g19 26 [(.slice A8 x0.vars.length c9), (.slice A11 x0.init.length c12), (.slice A14 x0.goal.length c15), (.slice A17 x0.ops.length c18)] ∧ Vb w' (Fr 0 w' O') (.slice A8 x0.vars.length c9) x0.vars ∧ Vb w' (Fr 0 w' O') (.slice A11 x0.init.length c12) x0.init ∧ Vb w' (Fr 0 w' O') (.slice A14 x0.goal.length c15) x0.goal ∧ Vb w' (Fr 0 w' O') (.slice A17 x0.ops.length c18) x0.ops ∧ Vb w' (Fr 0 w' O') (.pointer p204) q193.1 ∧ Vb w' (Fr 0 w' O') (.slice A421 q414.length c422) q414) _ () ⟨O417, hB, h23, h7, h10, h13, h16, h202, h419⟩ ⟨rfl, rfl, rfl, rfl, rfl, trivial⟩ (fun _ _ => ⟨rfl, rfl⟩) (fun _ _ => trivial) (fun _ _ _ ⟨O', hB, h23, h7, h10, h13, h16, h202, h419⟩ => ⟨O', hB⟩) ⟨rfl, rfl, rfl⟩ ⟨rfl, rfl⟩ ?_
  rintro k429 a430 s427 x428 w431 cc433 hx434 ⟨O432, hB, h23, h7, h10, h13, h16, h202, h419⟩ hf435 hret436 hbrk437
  have rk429 : inI64 (k429 : Int) := rngK hx434 l424
  refine ewp_seq (ewp_region ?_)
  obtain ⟨b440, o441, ce442, hA443, hl444, hd445, v447, rfl, h448⟩ := h419.elem' hx434
  replace h448 := Vb.of_slice h448
  obtain ⟨A449, c450, rfl⟩ := h448.form
  refine o_iaE (hA := hA443) (hj := rfl) (hlt := hl444) rfl rfl rfl ?_
  refine o_ld (hc := cat0 hd445) rfl rfl ?_
  refine o_as rfl rfl (o_z ?_)
  refine ewp_seq (ewp_seq (ewp_region (o_mv rfl rfl (o_mv rfl rfl ?_))))
  obtain ⟨q451, e452, hf435⟩ := bs hf435
  refine l_callNR (β := Int) 9 (by decide) (O := O432) (c_succgen_Generator_Successors_nr Fr.lt h202 h448 e452) rfl rfl fun A458 c459 w453 O454 S455 h456 => ?_
  refine o_ln rfl rfl ?_
  have l462 : q451.length ≤ 9223372036854775807 := Nat.le_trans h456.len.2.1 h456.len.2.2
  have r461 : inI64 (q451.length : Int) := rngNat l462
  refine o_mv rfl rfl (o_z ?_)
  obtain ⟨res463, hL464, hf435⟩ := bs hf435
  refine ewp_join (aft res463 (fun (s465 : (List Suc)) (x466 : Unit) => [(1, (.pointer (some ⟨g19, 0, none⟩))), (6, (.pointer p204)), (12, (.slice A449 a430.length c450)), (117, (.slice A421 q414.length c422)), (118, (.int .i64 (q414.length : Int))), (119, (.int .i64 (k429 : Int)))]) (fun s465 x466 w' => ∃ O' : Lab, Bs w A w' O' ∧ Lc 2 w' O' g19 26 [(.slice A8 x0.vars.length c9), (.slice A11 x0.init.length c12), (.slice A14 x0.goal.length c15), (.slice A17 x0.ops.length c18)] ∧ Vb w' (Fr 0 w' O') (.slice A8 x0.vars.length c9) x0.vars ∧ Vb w' (Fr 0 w' O') (.slice A11 x0.init.length c12) x0.init ∧ Vb w' (Fr 0 w' O') (.slice A14 x0.goal.length c15) x0.goal ∧ Vb w' (Fr 0 w' O') (.slice A17 x0.ops.length c18) x0.ops ∧ Vb w' (Fr 0 w' O') (.pointer p204) q193.1 ∧ Vb w' (Fr 0 w' O') (.slice A449 a430.length c450) a430 ∧ Vb w' (Fr 0 w' O') (.slice A421 q414.length c422) q414)) ?_ ?_
  ·
   refine ewp_block ?_
   replace hB := hB.st S455
   replace h7 := h7.st S455
   replace h10 := h10.st S455
   replace h13 := h13.st S455
   replace h16 := h16.st S455
   replace h23 := h23.st S455
   replace h202 := h202.st S455
   replace h419 := h419.st S455
   replace h448 := h448.st S455
   refine ewp_rngN (σ := (List Suc)) (X := Unit) (q451.length) hL464 l462 (fun (s465 : (List Suc)) (x466 : Unit) => [(1, (.pointer (some ⟨g19, 0, none⟩))), (6, (.pointer p204)), (12, (.slice A449 a430.length c450)), (117, (.slice A421 q414.length c422)), (118, (.int .i64 (q414.length : Int))), (119, (.int .i64 (k429 : Int))), (125, (.slice A458 q451.length c459))]) _ (fun s465 x466 w' => ∃ O' : Lab, Bs w A w' O' ∧ Lc 2 w' O' g19 26 [(.slice A8 x0.vars.length c9), (.slice A11 x0.init.length c12), (.slice A14 x0.goal.length c15), (.slice A17 x0.ops.length c18)] ∧ Vb w' (Fr 0 w' O') (.slice A8 x0.vars.length c9) x0.vars ∧ Vb w' (Fr 0 w' O') (.slice A11 x0.init.length c12) x0.init ∧ Vb w' (Fr 0 w' O') (.slice A14 x0.goal.length c15) x0.goal ∧ Vb w' (Fr 0 w' O') (.slice A17 x0.ops.length c18) x0.ops ∧ Vb w' (Fr 0 w' O') (.pointer p204) q193.1 ∧ Vb w' (Fr 0 w' O') (.slice A449 a430.length c450) a430 ∧ Vb w' (Fr 0 w' O') (.slice A421 q414.length c422) q414 ∧ NR Int 9 w' O' 56 3 (.slice A458 q451.length c459) s465 none) _ () ⟨O454, hB, h23, h7, h10, h13, h16, h202, h448, h419, h456⟩ ⟨rfl, rfl, rfl, rfl, rfl, rfl, rfl, rfl, rfl, trivial⟩ (fun _ _ => ⟨rfl, rfl⟩) (fun _ _ => ⟨rfl, rfl, rfl, rfl, rfl, rfl, trivial⟩) (fun _ _ _ ⟨O', hB, h23, h7, h10, h13, h16, h202, h448, h419, h484⟩ => ⟨O', hB, h23, h7, h10, h13, h16, h202, h448, h419⟩) ⟨rfl, rfl, rfl⟩ ⟨rfl, rfl⟩ ?_
   rintro k467 s465 x466 w469 cc471 hx472 ⟨O470, hB, h23, h7, h10, h13, h16, h202, h448, h419, h484⟩ hf473 hret474 hbrk475
   have rk467 : inI64 (k467 : Int) := rngKN hx472 l462
   refine ewp_seq (ewp_region ?_)
   obtain ⟨a486, e487, hf473⟩ := bs hf473
   obtain ⟨b488, o489, hA491, hl492⟩ := h484.at e487
   refine o_iaE (hA := hA491) (hj := rfl) (hlt := hl492) rfl rfl rfl ?_
   obtain ⟨A495, c496, hc497, r498, h499⟩ := NR.suc h484 hA491 e487
   replace h499 : Vb w469 (FrS [9] w469 O470) (.slice A495 a486.state.length c496) a486.state := h499
   have hc500 := cat1 hc497
   refine o_la (hl := rfl) (hc := hc497) rfl rfl ?_
   obtain ⟨O501, S502, h484, h503⟩ := NR.take' h484 hA491 e487 hc500 14 (by decide) (by decide)
   replace hc500 : w469.cell? ⟨b488, o489 + k467 * 2 + 1, none⟩ = some (.slice A495 a486.state.length c496) := hc500
   replace h503 : Rw 14 w469 O501 3 (.slice A495 a486.state.length c496) a486.state := h503
   replace h484 : NR Int 9 w469 O501 56 3 (.slice A458 q451.length c459) s465 (some k467) := h484
   refine l_alloc 11 O501 rfl fun g505 w506 O507 S508 h509 => ?_
   replace hc500 := NR.stay h484 hA491 S508 id hc500
   refine l_store h509 rfl rfl rfl (nle_b rfl) (allOne rfl) fun w510 S511 h509 => ?_
   replace h509 : Lc 11 w510 O507 g505 56 [(.int .i64 a486.op), (.slice A495 a486.state.length c496)] := h509
   replace h484 := h484.st S508
   replace hc500 := NR.stay h484 hA491 S511 (by decide) hc500
   refine o_z ?_
   refine ewp_seq (ewp_region (o_fa rfl rfl (o_ld (hc := Blk.cell (i := 1) (h509.1) rfl) rfl rfl ?_)))
   refine o_ln rfl rfl ?_
   replace h503 := (h503.st S508).st S511
   have l513 : a486.state.length ≤ 9223372036854775807 := Nat.le_trans h503.len.2.1 h503.len.2.2
   have r512 : inI64 (a486.state.length : Int) := rngNat l513
   refine o_mv rfl rfl (o_z ?_)
   obtain ⟨res514, hL515, hf473⟩ := bs hf473
   refine ewp_join (aft res514 (fun (s516 : (List Int)) (x517 : Unit) => [(1, (.pointer (some ⟨g19, 0, none⟩))), (6, (.pointer p204)), (12, (.slice A449 a430.length c450)), (117, (.slice A421 q414.length c422)), (118, (.int .i64 (q414.length : Int))), (119, (.int .i64 (k429 : Int))), (125, (.slice A458 q451.length c459)), (126, (.int .i64 (q451.length : Int))), (127, (.int .i64 (k467 : Int)))]) (fun s516 x517 w' => ∃ O' : Lab, Bs w A w' O' ∧ Lc 2 w' O' g19 26 [(.slice A8 x0.vars.length c9), (.slice A11 x0.init.length c12), (.slice A14 x0.goal.length c15), (.slice A17 x0.ops.length c18)] ∧ Vb w' (Fr 0 w' O') (.slice A8 x0.vars.length c9) x0.vars ∧ Vb w' (Fr 0 w' O') (.slice A11 x0.init.length c12) x0.init ∧ Vb w' (Fr 0 w' O') (.slice A14 x0.goal.length c15) x0.goal ∧ Vb w' (Fr 0 w' O') (.slice A17 x0.ops.length c18) x0.ops ∧ Vb w' (Fr 0 w' O') (.pointer p204) q193.1 ∧ Vb w' (Fr 0 w' O') (.slice A449 a430.length c450) a430 ∧ Vb w' (Fr 0 w' O') (.slice A421 q414.length c422) q414 ∧ NR Int 9 w' O' 56 3 (.slice A458 q451.length c459) s465 (some k467) ∧ w'.cell? ⟨b488, o489 + k467 * 2 + 1, none⟩ = some (.slice A495 a486.state.length c496) ∧ Lc 11 w' O' g505 56 [(.int .i64 a486.op), (.slice A495 a486.state.length c496)] ∧ Rw 14 w' O' 3 (.slice A495 a486.state.length c496) s516)) ?_ ?_
   ·
    refine ewp_block ?_
    replace hB := ((hB.st S502).st S508).st S511
    replace h7 := ((h7.st S502).st S508).st S511
    replace h10 := ((h10.st S502).st S508).st S511
    replace h13 := ((h13.st S502).st S508).st S511
    replace h16 := ((h16.st S502).st S508).st S511
    replace h23 := ((h23.st S502).st S508).st S511
    replace h202 := ((h202.st S502).st S508).st S511
    replace h419 := ((h419.st S502).st S508).st S511
    replace h448 := ((h448.st S502).st S508).st S511
    replace h484 := h484.st S511
    refine ewp_rngN (σ := (List Int)) (X := Unit) (a486.state.length) hL515 l513 (fun (s516 : (List Int)) (x517 : Unit) => [(1, (.pointer (some ⟨g19, 0, none⟩))), (6, (.pointer p204)), (12, (.slice A449 a430.length c450)), (14, (.pointer (some ⟨g505, 0, none⟩))), (117, (.slice A421 q414.length c422)), (118, (.int .i64 (q414.length : Int))), (119, (.int .i64 (k429 : Int))), (125, (.slice A458 q451.length c459)), (126, (.int .i64 (q451.length : Int))), (127, (.int .i64 (k467 : Int)))]) _ (fun s516 x517 w' => ∃ O' : Lab, Bs w A w' O' ∧ Lc 2 w' O' g19 26 [(.slice A8 x0.vars.length c9), (.slice A11 x0.init.length c12), (.slice A14 x0.goal.length c15), (.slice A17 x0.ops.length c18)] ∧ Vb w' (Fr 0 w' O') (.slice A8 x0.vars.length c9) x0.vars ∧ Vb w' (Fr 0 w' O') (.slice A11 x0.init.length c12) x0.init ∧ Vb w' (Fr 0 w' O') (.slice A14 x0.goal.length c15) x0.goal ∧ Vb w' (Fr 0 w' O') (.slice A17 x0.ops.length c18) x0.ops ∧ Vb w' (Fr 0 w' O') (.pointer p204) q193.1 ∧ Vb w' (Fr 0 w' O') (.slice A449 a430.length c450) a430 ∧ Lc 11 w' O' g505 56 [(.int .i64 a486.op), (.slice A495 a486.state.length c496)] ∧ Rw 14 w' O' 3 (.slice A495 a486.state.length c496) s516 ∧ Vb w' (Fr 0 w' O') (.slice A421 q414.length c422) q414 ∧ NR Int 9 w' O' 56 3 (.slice A458 q451.length c459) s465 (some k467) ∧ w'.cell? ⟨b488, o489 + k467 * 2 + 1, none⟩ = some (.slice A495 a486.state.length c496)) _ () ⟨O507, hB, h23, h7, h10, h13, h16, h202, h448, h509, h503, h419, h484, hc500⟩ ⟨rfl, rfl, rfl, rfl, rfl, rfl, rfl, rfl, rfl, rfl, rfl, rfl, trivial⟩ (fun _ _ => ⟨rfl, rfl⟩) (fun _ _ => ⟨rfl, rfl, rfl, rfl, rfl, rfl, rfl, rfl, rfl, trivial⟩) (fun _ _ _ ⟨O', hB, h23, h7, h10, h13, h16, h202, h448, h509, h535, h419, h484, hc500⟩ => ⟨O', hB, h23, h7, h10, h13, h16, h202, h448, h419, h484, hc500, h509, h535⟩) ⟨rfl, rfl, rfl⟩ ⟨rfl, rfl⟩ ?_
    rintro k518 s516 x517 w520 cc522 hx523 ⟨O521, hB, h23, h7, h10, h13, h16, h202, h448, h509, h535, h419, h484, hc500⟩ hf524 hret525 hbrk526
    have rk518 : inI64 (k518 : Int) := rngKN hx523 l513
    refine ewp_seq (ewp_region (o_mv rfl rfl (o_as rfl rfl (o_z ?_))))
    refine ewp_region (o_fa rfl rfl (o_ld (hc := Blk.cell (i := 1) (h509.1) rfl) rfl rfl ?_))
    refine o_mv rfl rfl ?_
    obtain ⟨a537, e538, hf524⟩ := bs hf524
    obtain ⟨b539, o540, ce541, hA542, hl543, hd544, rfl, r546⟩ := h535.elem e538
    refine o_iaE (hA := hA542) (hj := rfl) (hlt := hl543) rfl rfl rfl ?_
    refine o_ld (hc := cat0 hd544) rfl rfl ?_
    refine o_adW rfl rfl rfl ?_
    obtain ⟨a547, e548, hf524⟩ := bs hf524
    obtain ⟨b549, o550, ce551, hA552, hl553, hd554, rfl, r556⟩ := h535.elem e548
    refine o_iaE (hA := hA552) (hj := rfl) (hlt := hl553) rfl rfl rfl ?_
    refine l_setE rfl h535 (a := (wr (a537 + 1))) (vInt (wr_rng _)) hA552 rfl rfl (lt_of_get e548) fun w557 S558 h535 => ?_
    replace hc500 := NR.stay h484 hA491 S558 (by decide) hc500
    refine o_z ?_
    obtain rfl := sm hf524
    replace hB := hB.st S558
    replace h7 := h7.st S558
    replace h10 := h10.st S558
    replace h13 := h13.st S558
    replace h16 := h16.st S558
    replace h23 := h23.st S558
    replace h202 := h202.st S558
    replace h419 := h419.st S558
    replace h448 := h448.st S558
    replace h484 := h484.st S558
    replace h509 := h509.st S558
    exact show Exists _ from ⟨_, (), rfl, ⟨rfl, rfl, rfl, rfl, rfl, rfl, rfl, rfl, rfl, rfl, rfl, rfl, trivial⟩, _, hB, h23, h7, h10, h13, h16, h202, h448, h509, h535, h419, h484, hc500⟩
   replace hB := ((hB.st S502).st S508).st S511
   replace h7 := ((h7.st S502).st S508).st S511
   replace h10 := ((h10.st S502).st S508).st S511
   replace h13 := ((h13.st S502).st S508).st S511
   replace h16 := ((h16.st S502).st S508).st S511
   replace h23 := ((h23.st S502).st S508).st S511
   replace h202 := ((h202.st S502).st S508).st S511
   replace h419 := ((h419.st S502).st S508).st S511
   replace h448 := ((h448.st S502).st S508).st S511
   replace h484 := h484.st S511
   rintro l559 w560 ⟨s563, x564, rfl, hs562, O561, hB, h23, h7, h10, h13, h16, h202, h448, h419, h484, hc500, h509, h535⟩
   replace hf473 := fin_done hf473
   obtain ⟨O565, S566, h567⟩ := NR.give (a := a486) h484 h535 hA491 e487 hc500 (by decide) (by decide)
   replace h567 : NR Int 9 w560 O565 56 3 (.slice A458 q451.length c459) (s465.set k467 ({ a486 with state := s563 } : Suc)) none := h567
   obtain rfl := sm hf473
   replace hB := hB.st S566
   replace h7 := h7.st S566
   replace h10 := h10.st S566
   replace h13 := h13.st S566
   replace h16 := h16.st S566
   replace h23 := h23.st S566
   replace h202 := h202.st S566
   replace h419 := h419.st S566
   replace h448 := h448.st S566
   exact show Exists _ from ⟨_, (), rfl, ⟨(subs_lk hs562 _ _ rfl), (subs_lk hs562 _ _ rfl), (subs_lk hs562 _ _ rfl), (subs_lk hs562 _ _ rfl), (subs_lk hs562 _ _ rfl), (subs_lk hs562 _ _ rfl), (subs_lk hs562 _ _ rfl), (subs_lk hs562 _ _ rfl), (subs_lk hs562 _ _ rfl), trivial⟩, _, hB, h23, h7, h10, h13, h16, h202, h448, h419, h567⟩
  replace hB := hB.st S455
  replace h7 := h7.st S455
  replace h10 := h10.st S455
  replace h13 := h13.st S455
  replace h16 := h16.st S455
  replace h23 := h23.st S455
  replace h202 := h202.st S455
  replace h419 := h419.st S455
  replace h448 := h448.st S455
  rintro l568 w569 ⟨s572, x573, rfl, hs571, O570, hB, h23, h7, h10, h13, h16, h202, h448, h419⟩
  replace hf435 := fin_done hf435
  refine ewp_sub _ hs571 ?_
  refine ewp_seq (ewp_seq (ewp_region (o_mv rfl rfl (o_mv rfl rfl ?_))))
  obtain ⟨q574, e575, hf435⟩ := bs hf435
  refine l_callRow 15 (by decide) (O := O570) (c_succgen_Generator_Applicable Fr.lt h202 h448 e575) rfl rfl fun A581 c582 w576 O577 S578 h579 => ?_
  refine o_as rfl rfl (o_as rfl rfl (o_z ?_))
  obtain ⟨res584, hL585, hf435⟩ := bs hf435
  refine ewp_join (aft res584 (fun (s586 : Int × (List Int)) (x587 : Unit) => [(1, (.pointer (some ⟨g19, 0, none⟩))), (6, (.pointer p204)), (12, (.slice A449 a430.length c450)), (117, (.slice A421 q414.length c422)), (118, (.int .i64 (q414.length : Int))), (119, (.int .i64 (k429 : Int)))]) (fun s586 x587 w' => ∃ O' : Lab, Bs w A w' O' ∧ Lc 2 w' O' g19 26 [(.slice A8 x0.vars.length c9), (.slice A11 x0.init.length c12), (.slice A14 x0.goal.length c15), (.slice A17 x0.ops.length c18)] ∧ Vb w' (Fr 0 w' O') (.slice A8 x0.vars.length c9) x0.vars ∧ Vb w' (Fr 0 w' O') (.slice A11 x0.init.length c12) x0.init ∧ Vb w' (Fr 0 w' O') (.slice A14 x0.goal.length c15) x0.goal ∧ Vb w' (Fr 0 w' O') (.slice A17 x0.ops.length c18) x0.ops ∧ Vb w' (Fr 0 w' O') (.pointer p204) q193.1 ∧ Vb w' (Fr 0 w' O') (.slice A449 a430.length c450) a430 ∧ Vb w' (Fr 0 w' O') (.slice A421 q414.length c422) q414 ∧ inI64 s586.1)) ?_ ?_
  ·
   refine ewp_block ?_
   replace hB := hB.st S578
   replace h7 := h7.st S578
   replace h10 := h10.st S578
   replace h13 := h13.st S578
   replace h16 := h16.st S578
   replace h23 := h23.st S578
   replace h202 := h202.st S578
   replace h419 := h419.st S578
   replace h448 := h448.st S578
   refine ewp_lop (σ := Int × (List Int)) (X := Unit) hL585 (fun (s586 : Int × (List Int)) (x587 : Unit) => [(1, (.pointer (some ⟨g19, 0, none⟩))), (6, (.pointer p204)), (12, (.slice A449 a430.length c450)), (16, (.int .i64 s586.1)), (17, (.slice A581 q574.length c582)), (117, (.slice A421 q414.length c422)), (118, (.int .i64 (q414.length : Int))), (119, (.int .i64 (k429 : Int)))]) _ (fun s586 x587 w' => ∃ O' : Lab, Bs w A w' O' ∧ Lc 2 w' O' g19 26 [(.slice A8 x0.vars.length c9), (.slice A11 x0.init.length c12), (.slice A14 x0.goal.length c15), (.slice A17 x0.ops.length c18)] ∧ Vb w' (Fr 0 w' O') (.slice A8 x0.vars.length c9) x0.vars ∧ Vb w' (Fr 0 w' O') (.slice A11 x0.init.length c12) x0.init ∧ Vb w' (Fr 0 w' O') (.slice A14 x0.goal.length c15) x0.goal ∧ Vb w' (Fr 0 w' O') (.slice A17 x0.ops.length c18) x0.ops ∧ Vb w' (Fr 0 w' O') (.pointer p204) q193.1 ∧ Vb w' (Fr 0 w' O') (.slice A449 a430.length c450) a430 ∧ Rw 15 w' O' 3 (.slice A581 q574.length c582) s586.2 ∧ Vb w' (Fr 0 w' O') (.slice A421 q414.length c422) q414 ∧ inI64 s586.1) _ () ⟨O577, hB, h23, h7, h10, h13, h16, h202, h448, h579, h419, (show inI64 (0) from by decide)⟩ ⟨rfl, rfl, rfl, rfl, rfl, rfl, rfl, rfl, trivial⟩ ?_
   rintro s586 x587 w590 cc592 ⟨O591, hB, h23, h7, h10, h13, h16, h202, h448, h603, h419, r602⟩ hf594 hret595 hbrk596
   refine ewp_seq (ewp_seq (ewp_region (o_mv rfl rfl (o_mv rfl rfl (o_ln rfl rfl ?_)))))
   have l606 : q574.length ≤ 9223372036854775807 := Nat.le_trans h603.len.2.1 h603.len.2.2
   have r605 : inI64 (q574.length : Int) := rngNat l606
   refine o_ltS rfl rfl rfl (fun c607 => ?_) fun c607 => ?_
   ·
    replace hf594 := ip hf594 c607
    refine o_z ?_
    refine ewp_true rfl (ewp_skip (ewp_seq (ewp_block (ewp_region (o_mv rfl rfl (o_mv rfl rfl ?_))))))
    obtain ⟨a608, e609, hf594⟩ := bs hf594
    obtain ⟨p611, x610⟩ := atI_some' e609
    obtain ⟨b612, o613, ce614, hA615, hl616, hd617, rfl, r619⟩ := h603.elem x610
    refine o_iaE (hA := hA615) (hj := (Int.toNat_of_nonneg p611).symm) (hlt := hl616) rfl rfl rfl ?_
    refine l_setE rfl h603 (a := (-1)) (vInt (show inI64 (-1) from by decide)) hA615 rfl rfl (lt_of_get x610) fun w620 S621 h603 => ?_
    refine o_z ?_
    refine ewp_region (o_mv rfl rfl (o_adW rfl rfl rfl ?_))
    refine o_as rfl rfl (o_z ?_)
    obtain rfl := sm hf594
    replace hB := hB.st S621
    replace h7 := h7.st S621
    replace h10 := h10.st S621
    replace h13 := h13.st S621
    replace h16 := h16.st S621
    replace h23 := h23.st S621
    replace h202 := h202.st S621
    replace h419 := h419.st S621
    replace h448 := h448.st S621
    exact show Exists _ from ⟨_, (), rfl, ⟨rfl, rfl, rfl, rfl, rfl, rfl, rfl, rfl, trivial⟩, _, hB, h23, h7, h10, h13, h16, h202, h448, h603, h419, (wr_rng _)⟩
   replace hf594 := im hf594 c607
   refine o_z ?_
   refine ewp_false rfl (ewp_exit ?_)
   obtain rfl := sm hf594
   exact show Exists _ from ⟨_, (), hbrk596 _ rfl, ⟨rfl, rfl, rfl, rfl, rfl, rfl, trivial⟩, _, hB, h23, h7, h10, h13, h16, h202, h448, h419, r602⟩
  replace hB := hB.st S578
  replace h7 := h7.st S578
  replace h10 := h10.st S578
  replace h13 := h13.st S578
  replace h16 := h16.st S578
  replace h23 := h23.st S578
  replace h202 := h202.st S578
  replace h419 := h419.st S578
  replace h448 := h448.st S578
  rintro l622 w623 ⟨s626, x627, rfl, hs625, O624, hB, h23, h7, h10, h13, h16, h202, h448, h419, r602⟩
  replace hf435 := fin_done hf435
  refine ewp_sub _ hs625 ?_
  refine ewp_seq (ewp_region (o_la (hl := rfl) (hc := (h23.1).cellsAt) rfl rfl ?_))
  refine o_mv rfl rfl (o_mv rfl rfl ?_)
  obtain ⟨q628, e629, hf435⟩ := bs hf435
  refine l_callA (O := O624) (A := All w623) (R := fun w' F v => Vb w' F v q628) (c_law24_right (fun _ h => h) (Vb.mono (F := Fr 0 w623 O624) (Vb.ofAgg (cs := [(.slice A8 x0.vars.length c9), (.slice A11 x0.init.length c12), (.slice A14 x0.goal.length c15), (.slice A17 x0.ops.length c18)]) (x := x0) rfl ⟨_, _, _, _, rfl, h7, h10, h13, h16⟩) Fr.lt) (Vb.mono (F := Fr 0 w623 O624) h202 Fr.lt) (Vb.mono (F := Fr 0 w623 O624) h448 Fr.lt) e629) rfl rfl fun v634 w630 O631 S632 h633 => ?_
  obtain rfl := h633.bool
  cases q628
  case false =>
   replace hf435 := iF hf435
   refine o_nf rfl rfl (o_z ?_)
   refine ewp_true rfl (ewp_seq (ewp_region (o_as rfl rfl (o_z ?_))))
   refine ewp_ret ?_
   obtain rfl := sm hf435
   obtain rfl := hret436 _ rfl
   obtain rfl := sm (fin_ret hm)
   replace hB := hB.st S632
   exact ret1v rfl (res_tmp rfl) ⟨hB.ext, vBool⟩
  replace hf435 := iT hf435
  refine o_nt rfl rfl (o_z ?_)
  refine ewp_false rfl (ewp_skip ?_)
  obtain rfl := sm hf435
  replace hB := hB.st S632
  replace h7 := h7.st S632
  replace h10 := h10.st S632
  replace h13 := h13.st S632
  replace h16 := h16.st S632
  replace h23 := h23.st S632
  replace h202 := h202.st S632
  replace h419 := h419.st S632
  exact show Exists _ from ⟨_, (), rfl, ⟨rfl, rfl, rfl, rfl, rfl, trivial⟩, _, hB, h23, h7, h10, h13, h16, h202, h419⟩
 replace hB := hB.st S418
 rintro l635 w636 ⟨s639, x640, rfl, hs638, O637, hB⟩
 replace hm := fin_done hm
 refine ewp_sub _ hs638 ?_
 refine ewp_seq (ewp_region (o_as rfl rfl (o_z ?_)))
 refine ewp_ret ?_
 obtain rfl := sm hm
 exact ret1v rfl (res_tmp rfl) ⟨hB.ext, vBool⟩
end
section
section
variable {α σ ρ β : Type}
theorem lop_wf' {f : σ → Option (Ctl σ ρ)} (I : σ → Prop) (B : σ → Prop) (R : ρ → Prop) (μ : σ → Nat) (h : ∀ s, I s → (∃ s', f s = some (.next s') ∧ I s' ∧ μ s' < μ s) ∨ (∃ s', f s = some (.brk s') ∧ B s') ∨ ∃ r, f s = some (.ret r) ∧ R r) :
    ∀ s, I s → (∃ s', lop f s = some (.done s') ∧ B s') ∨ ∃ r, lop f s = some (.ret r) ∧ R r := by
  have key : ∀ (n : Nat) s, I s → μ s < n → (∃ s', lop f s = some (.done s') ∧ B s') ∨ ∃ r, lop f s = some (.ret r) ∧ R r := by
    intro n
    induction n with
    | zero => intro s _ hn; omega
    | succ n ih =>
      intro s hI hn
      rw [lop_eq]
      rcases h s hI with ⟨s', h1, h2, h3⟩ | ⟨s', h1, h2⟩ | ⟨r, h1, h2⟩
      · rw [h1]; exact ih s' h2 (by omega)
      · rw [h1]; exact .inl ⟨s', rfl, h2⟩
      · rw [h1]; exact .inr ⟨r, rfl, h2⟩
  exact fun s hI => key (μ s + 1) s hI (by omega)
theorem lop_bnd {f : σ → Option (Ctl σ ρ)} {s₀ : σ} {k : Fin σ ρ → Option β} {r : Option β} (I : σ → Prop) (B : σ → Prop) (μ : σ → Nat) (h0 : I s₀)
    (h : ∀ s, I s → (∃ s', f s = some (.next s') ∧ I s' ∧ μ s' < μ s) ∨ (∃ s', f s = some (.brk s') ∧ B s')) (hb : ∀ s, B s → k (.done s) = r) : bnd (lop f s₀) k = r := by
  rcases lop_wf' I B (fun _ => False) μ (fun s hI => (h s hI).imp id .inl) s₀ h0 with ⟨s, h1, h2⟩ | ⟨q, _, h2⟩
  · rw [h1, bnd_some]; exact hb s h2
  · exact h2.elim
end
end
end Go.Proofs.Ytfbcjknlihopcaa
